/- Part 1 of 18: contracts of functions and plain laws for the root text. No condition. -/
import Derived.WalkKit
import Derived.WalkSpells
import Derived.Lib.Hide
import Derived.Deep.RegionHeld3
import Derived.Handy
import Derived.Laws.AppendOwn
import Derived.Laws.StructEq
import Derived.RangeFuncKeeps
import Derived.RangeFuncNested
import Derived.OrdersIn
import Derived.Alone
import Derived.MapKept
import Derived.Maps.RangeRun
import Derived.Lib.TrailingZeros
set_option linter.unusedVariables false
set_option linter.unusedSimpArgs false
set_option linter.unusedSectionVars false
set_option linter.deprecated false
namespace Go.Sea
open Go.RowKit
inductive IV where
  | g (v : Value)
  | lst (E n : Nat) (f : Nat -> Nat -> IV)
  | ptr (m : Nat) (f : Nat -> IV)
inductive PT where
  | one (c : IV)
  | agg (cs : List IV)
inductive LV where
  | iv (c : IV)
  | ptr (i o : Nat)
  | mp (i : Nat)
inductive CV where
  | iv (c : IV)
  | ip (m : Nat) (c : Nat -> IV)
  | slc (i off n E : Nat)
  | ptr (i o : Nat)
  | fn (f : Fn) (a b : List LV)
  | any
  | mp (i : Nat)
  | it (i : Nat)
  | mi (c : Option Nat) (n : Nat) (f : Int -> Option PT)
  | m2 (f : Int -> Int -> Option PT)
  | ml (l : List (Int × Fn × List LV × List LV))
  | mt (j c : Nat) (p : Int -> Prop) (l : Option Int)
inductive TV where
  | one (c : CV)
  | agg (cs : List CV)
inductive AV where
  | t (x : TV)
  | tup (xs : List TV)
  | mb (b : Bool) (x : TV)
  | any
inductive PV where
  | t (x : PT)
  | tup (xs : List PT)
abbrev PT.tv : PT -> TV
  | .one c => .one (.iv c)
  | .agg cs => .agg (cs.map .iv)
abbrev PV.av : PV -> AV
  | .t x => .t x.tv
  | .tup xs => .tup (xs.map PT.tv)
def aU {α β : Type} (R : α -> β -> Prop) : List α -> List β -> Prop
  | [], [] => True
  | a :: l, b :: m => R a b /\ aU R l m
  | _, _ => False
theorem aU.mono {α β : Type} {R S : α -> β -> Prop} (h : ∀ a b, R a b -> S a b) : ∀ {l : List α} {m : List β}, aU R l m -> aU S l m
  | [], [], _ => trivial
  | _ :: _, _ :: _, ⟨h1, h2⟩ => ⟨h _ _ h1, aU.mono h h2⟩
theorem aU.mono' {α β : Type} {R S : α -> β -> Prop} : ∀ {l : List α} {m : List β}, (∀ a b, b ∈ m -> R a b -> S a b) -> aU R l m -> aU S l m
  | [], [], _, _ => trivial
  | _ :: _, _ :: _, h, ⟨h1, h2⟩ => ⟨h _ _ (by simp) h1, aU.mono' (fun a b hb => h a b (by simp [hb])) h2⟩
theorem aU.length {α β : Type} {R : α -> β -> Prop} : ∀ {l : List α} {m : List β}, aU R l m -> l.length = m.length
  | [], [], _ => rfl
  | _ :: _, _ :: _, ⟨_, h2⟩ => by simp [aU.length h2]
theorem aU.get {α β : Type} {R : α -> β -> Prop} : ∀ {l : List α} {m : List β}, aU R l m -> ∀ {k : Nat} {y : β}, m[k]? = some y -> ∃ x, l[k]? = some x /\ R x y
  | [], [], _, k, y, h => by simp at h
  | a :: _, b :: _, ⟨h1, _⟩, 0, y, h => by simp at h; subst h; exact ⟨a, by simp, h1⟩
  | _ :: l, _ :: m, ⟨_, h2⟩, k + 1, y, h => by simpa using aU.get h2 (k := k) (y := y) (by simpa using h)
theorem aU.of {α β : Type} {R : α -> β -> Prop} : ∀ {l : List α} {m : List β}, l.length = m.length -> (∀ (k : Nat) (x : α) (y : β), l[k]? = some x -> m[k]? = some y -> R x y) -> aU R l m
  | [], [], _, _ => trivial
  | a :: l, b :: m, h, hr => ⟨hr 0 a b rfl rfl, aU.of (by simpa using h) fun k x y hx hy => hr (k + 1) x y (by simpa using hx) (by simpa using hy)⟩
theorem aU.append {α β : Type} {R : α -> β -> Prop} : ∀ {l : List α} {m : List β} {l' : List α} {m' : List β}, aU R l m -> aU R l' m' -> aU R (l ++ l') (m ++ m')
  | [], [], _, _, _, h => h
  | _ :: _, _ :: _, _, _, ⟨h1, h2⟩, h => ⟨h1, h2.append h⟩
theorem aU.take {α β : Type} {R : α -> β -> Prop} : ∀ {l : List α} {m : List β} (k : Nat), aU R l m -> aU R (l.take k) (m.take k)
  | _, _, 0, _ => by simp [aU]
  | [], [], _ + 1, _ => trivial
  | _ :: _, _ :: _, k + 1, ⟨h1, h2⟩ => ⟨h1, h2.take k⟩
theorem aU.drop {α β : Type} {R : α -> β -> Prop} : ∀ {l : List α} {m : List β} (k : Nat), aU R l m -> aU R (l.drop k) (m.drop k)
  | _, _, 0, h => by simpa using h
  | [], [], _ + 1, _ => trivial
  | _ :: _, _ :: _, k + 1, ⟨_, h2⟩ => by simpa using h2.drop k
theorem aU.cO {α β γ : Type} {R : α -> γ -> Prop} {f : β -> γ} : ∀ {l : List α} {m : List β}, aU R l (m.map f) ↔ aU (fun a b => R a (f b)) l m
  | [], [] => Iff.rfl
  | [], _ :: _ => Iff.rfl
  | _ :: _, [] => Iff.rfl
  | _ :: _, _ :: _ => ⟨fun h => ⟨h.1, aU.cO.1 h.2⟩, fun h => ⟨h.1, aU.cO.2 h.2⟩⟩
inductive Rd (w : World) (Z : Nat -> Prop) : Value -> IV -> Prop
  | g (v : Value) (h : v.oneCell' = true) : Rd w Z v (.g v)
  | nil (p : Option Addr) (cap E : Nat) (f : Nat -> Nat -> IV) : Rd w Z (.slice p 0 cap) (.lst E 0 f)
  | lst (b off n cap E : Nat) (f : Nat -> Nat -> IV) (X : Nat -> Nat -> Value) (hz : Z b) (hn : n <= cap) (hm : cap <= maxLen)
      (h1 : ∀ i o, i < n -> o < E -> w.cell? ⟨b, off + i * E + o, none⟩ = some (X i o)) (h2 : ∀ i o, i < n -> o < E -> Rd w Z (X i o) (f i o)) :
      Rd w Z (.slice (some ⟨b, off, none⟩) n cap) (.lst E n f)
  | ptr (b off m : Nat) (f : Nat -> IV) (X : Nat -> Value) (hz : Z b) (h1 : ∀ o, o < m -> w.cell? ⟨b, off + o, none⟩ = some (X o)) (h2 : ∀ o, o < m -> Rd w Z (X o) (f o)) :
      Rd w Z (.pointer (some ⟨b, off, none⟩)) (.ptr m f)
theorem Rd.one {w : World} {Z : Nat -> Prop} {v : Value} {c : IV} (h : Rd w Z v c) : v.oneCell' = true := by cases h <;> first | assumption | rfl
def iF (w : World) (b : Nat) : Prop := ∃ c e f, w.heap[b]? = some (.cells c e f)
theorem iF.lt {w : World} {b : Nat} (h : iF w b) : b < w.heap.size := by
  obtain ⟨c, e, f, h⟩ := h
  exact (Array.getElem?_eq_some_iff.1 h).1
theorem oo {w : World} {b k : Nat} {v : Value} (h : w.cell? ⟨b, k, none⟩ = some v) : iF w b := by
  unfold World.cell? at h
  simp only at h
  split at h
  · rename_i c e f hb; exact ⟨c, e, f, hb⟩
  · cases h
theorem Rd.mono {w w' : World} {Z Z' : Nat -> Prop} {v : Value} {c : IV} (h : Rd w Z v c) (hz : ∀ b, Z b -> Z' b) (hb : ∀ b, Z b -> iF w b -> w'.heap[b]? = w.heap[b]?) : Rd w' Z' v c := by
  induction h with
  | g v h => exact .g v h
  | nil p cap E f => exact .nil p cap E f
  | lst b off n cap E f X z hn hm h1 _ ih =>
    refine .lst b off n cap E f X (hz b z) hn hm (fun i o hi ho => ?_) ih
    have := h1 i o hi ho
    have hlt := oo this
    rw [World.cell?_of_block (w := w) (w' := w') (a := ⟨b, off + i * E + o, none⟩) (hb b z hlt)]
    exact this
  | ptr b off m f X z h1 _ ih =>
    refine .ptr b off m f X (hz b z) (fun o ho => ?_) ih
    have := h1 o ho
    have hlt := oo this
    rw [World.cell?_of_block (w := w) (w' := w') (a := ⟨b, off + o, none⟩) (hb b z hlt)]
    exact this
def Cm (w : World) (b : Nat) : Prop := ∃ c e, w.heap[b]? = some (.cells c e (0, 0))
def jR (w : World) (J : Nat -> Option Nat) (Z : Nat -> Prop) (v : Value) : LV -> Prop
  | .iv c => Rd w Z v c
  | .ptr i o => ∃ b, v = .pointer (some ⟨b, o, none⟩) /\ J i = some b /\ Cm w b
  | .mp i => ∃ b, v = .map (some b) /\ J i = some b
def bQ (w : World) (J : Nat -> Option Nat) (Z : Nat -> Prop) (v : Value) : CV -> Prop
  | .iv c => Rd w Z v c
  | .ip m c => ∃ (b off : Nat) (X : Nat -> Value), v = .pointer (some ⟨b, off, none⟩) /\ Z b /\ ∀ o, o < m -> w.cell? ⟨b, off + o, none⟩ = some (X o) /\ Rd w Z (X o) (c o)
  | .slc i off n E => (n = 0 /\ v = .slice none 0 0) \/ ∃ b cap c e, v = .slice (some ⟨b, off, none⟩) n cap /\ J i = some b /\ n <= cap /\ cap <= maxLen /\ w.heap[b]? = some (.cells c e (0, 0)) /\ off + cap * E <= c.size
  | .ptr i o => ∃ b, v = .pointer (some ⟨b, o, none⟩) /\ J i = some b /\ Cm w b
  | .mp i => ∃ b, v = .map (some b) /\ J i = some b
  | .it i => ∃ b, v = .pointer (some ⟨b, 0, none⟩) /\ J i = some b
  | .mi .. | .m2 .. | .ml .. | .mt .. => False
  | .fn f a b => ∃ A B, v = .func f A B /\ aU (jR w J Z) A.toList a /\ aU (jR w J Z) B.toList b
  | .any => v.oneCell' = true
def bS (w : World) (J : Nat -> Option Nat) (Z : Nat -> Prop) (v : Value) : TV -> Prop
  | .one c => bQ w J Z v c
  | .agg cs => ∃ A : Array Value, v = .agg A /\ aU (bQ w J Z) A.toList cs
def bD (w : World) (J : Nat -> Option Nat) (Z : Nat -> Prop) (v : Value) : AV -> Prop
  | .t x => bS w J Z v x
  | .tup xs => ∃ A : Array Value, v = .tuple A /\ aU (bS w J Z) A.toList xs
  | .mb b x => (b = true -> bS w J Z v x) /\ (b = false -> v = undef)
  | .any => True
def bZ (w : World) (Z : Nat -> Prop) (v : Value) : PT -> Prop
  | .one c => Rd w Z v c
  | .agg cs => ∃ A : Array Value, v = .agg A /\ aU (Rd w Z) A.toList cs
def l8 (w : World) (Z : Nat -> Prop) (v : Value) : PV -> Prop
  | .t x => bZ w Z v x
  | .tup xs => ∃ A : Array Value, v = .tuple A /\ aU (bZ w Z) A.toList xs
def IV.eqv : IV -> IV -> Prop
  | .g v, .g u => v = u
  | .lst E n f, .lst E' n' f' => E = E' /\ n = n' /\ ∀ i o, i < n -> o < E -> IV.eqv (f i o) (f' i o)
  | .ptr m f, .ptr m' f' => m' = m /\ ∀ o, o < m -> IV.eqv (f o) (f' o)
  | .g v, .lst _ n _ => n = 0 /\ v = .slice none 0 0
  | _, _ => False
theorem IV.aG : ∀ c : IV, c.eqv c
  | .g _ => rfl
  | .lst _ _ f => ⟨rfl, rfl, fun i o _ _ => IV.aG (f i o)⟩
  | .ptr _ f => ⟨rfl, fun o _ => IV.aG (f o)⟩
def PT.eqv : PT -> PT -> Prop
  | .one c, .one d => c.eqv d
  | .agg cs, .agg ds => aU IV.eqv cs ds
  | _, _ => False
def PV.eqv : PV -> PV -> Prop
  | .t x, .t y => x.eqv y
  | .tup xs, .tup ys => aU PT.eqv xs ys
  | _, _ => False
theorem aU.refl {α : Type} {R : α -> α -> Prop} (h : ∀ a, R a a) : ∀ l : List α, aU R l l
  | [] => trivial
  | a :: l => ⟨h a, aU.refl h l⟩
theorem aU.Ag {α β γ : Type} {R : α -> β -> Prop} {S : β -> γ -> Prop} {T : α -> γ -> Prop} (h : ∀ a b c, R a b -> S b c -> T a c) : ∀ {l : List α} {m : List β} {k : List γ}, aU R l m -> aU S m k -> aU T l k
  | [], [], [], _, _ => trivial
  | _ :: _, _ :: _, _ :: _, ⟨h1, h2⟩, ⟨g1, g2⟩ => ⟨h _ _ _ h1 g1, aU.Ag h h2 g2⟩
theorem PT.aG (x : PT) : x.eqv x := by
  cases x with
  | one c => exact c.aG
  | agg cs => exact aU.refl IV.aG cs
theorem PV.aG (x : PV) : x.eqv x := by
  cases x with
  | t x => exact x.aG
  | tup xs => exact aU.refl PT.aG xs
theorem Rd.eqv {w : World} {Z : Nat -> Prop} {v : Value} {c d : IV} (h : Rd w Z v c) (he : c.eqv d) : Rd w Z v d := by
  induction h generalizing d with
  | g v h =>
    cases d with
    | g u => cases he; exact .g v h
    | lst E n f => obtain ⟨rfl, rfl⟩ := he; exact .nil _ _ _ _
    | ptr => exact he.elim
  | nil p cap E f =>
    cases d with
    | g u => exact he.elim
    | lst E' n' f' => obtain ⟨rfl, rfl, _⟩ := he; exact .nil p cap _ _
    | ptr => exact he.elim
  | lst b off n cap E f X hz hn hm h1 _ ih =>
    cases d with
    | g u => exact he.elim
    | lst E' n' f' =>
      obtain ⟨rfl, rfl, he⟩ := he
      exact .lst b off _ cap _ _ X hz hn hm h1 fun i o hi ho => ih i o hi ho (he i o hi ho)
    | ptr => exact he.elim
  | ptr b off m f X hz h1 _ ih =>
    cases d with
    | g u => exact he.elim
    | lst => exact he.elim
    | ptr m' f' =>
      obtain ⟨rfl, he⟩ := he
      exact .ptr b off _ _ X hz h1 fun o ho => ih o ho (he o ho)
theorem bZ.eqv {w : World} {Z : Nat -> Prop} {v : Value} {c d : PT} (h : bZ w Z v c) (he : c.eqv d) : bZ w Z v d := by
  cases c <;> cases d <;> first | exact he.elim | skip
  · exact Rd.eqv h he
  · obtain ⟨A, e, h⟩ := h
    exact ⟨A, e, aU.Ag (S := IV.eqv) (T := Rd w Z) (fun _ _ _ h he => Rd.eqv h he) h he⟩
theorem l8.eqv {w : World} {Z : Nat -> Prop} {v : Value} {c d : PV} (h : l8 w Z v c) (he : c.eqv d) : l8 w Z v d := by
  cases c <;> cases d <;> first | exact he.elim | skip
  · exact bZ.eqv h he
  · obtain ⟨A, e, h⟩ := h
    exact ⟨A, e, aU.Ag (S := PT.eqv) (T := bZ w Z) (fun _ _ _ h he => bZ.eqv h he) h he⟩
theorem bZ.tv {w : World} {J : Nat -> Option Nat} {Z : Nat -> Prop} {v : Value} {x : PT} (h : bZ w Z v x) : bS w J Z v x.tv := by
  cases x with
  | one c => exact h
  | agg cs => obtain ⟨A, e, h⟩ := h; exact ⟨A, e, aU.cO.2 h⟩
theorem l8.av {w : World} {J : Nat -> Option Nat} {Z : Nat -> Prop} {v : Value} {x : PV} (h : l8 w Z v x) : bD w J Z v x.av := by
  cases x with
  | t x => exact bZ.tv h
  | tup xs => obtain ⟨A, e, h⟩ := h; exact ⟨A, e, aU.cO.2 (h.mono fun _ _ => bZ.tv)⟩
theorem bQ.one {w : World} {J : Nat -> Option Nat} {Z : Nat -> Prop} {v : Value} {c : CV} (h : bQ w J Z v c) : v.oneCell' = true := by
  cases c with
  | iv c => exact Rd.one h
  | ip m c => obtain ⟨b, off, X, rfl, _⟩ := h; rfl
  | slc i off n E => rcases h with ⟨_, rfl⟩ | ⟨b, cap, c, e, rfl, _⟩ <;> rfl
  | ptr i o => obtain ⟨b, rfl, _⟩ := h; rfl
  | fn f a b => obtain ⟨A, B, rfl, _⟩ := h; rfl
  | any => exact h
  | mp i => obtain ⟨b, rfl, _⟩ := h; rfl
  | it i => obtain ⟨b, rfl, _⟩ := h; rfl
  | mi | m2 | ml | mt => exact h.elim
structure kE (ok : Nat -> Prop) (w : World) (J : Nat -> Option Nat) (Z : Nat -> Prop) (w' : World) (J' : Nat -> Option Nat) (Z' : Nat -> Prop) : Prop where
  ptr : ∀ i b, ok i -> J i = some b -> J' i = some b
  zz : ∀ b, Z b -> Z' b
  blk : ∀ b, Z b -> iF w b -> w'.heap[b]? = w.heap[b]?
  shp : ∀ i b, ok i -> J i = some b -> ∀ c e f, w.heap[b]? = some (.cells c e f) -> ∃ c', w'.heap[b]? = some (.cells c' e f) /\ c'.size = c.size
structure Grow (ok : Nat -> Prop) (w : World) (J : Nat -> Option Nat) (Z : Nat -> Prop) (w' : World) (J' : Nat -> Option Nat) (Z' : Nat -> Prop) : Prop where
  ptr : ∀ i b, ok i -> J i = some b -> J' i = some b
  zz : ∀ b, Z b -> Z' b
  blk : ∀ b, Z b -> iF w b -> w'.heap[b]? = w.heap[b]?
  shp : ∀ i b, ok i -> J i = some b -> ∀ c e f, w.heap[b]? = some (.cells c e f) -> ∃ c', w'.heap[b]? = some (.cells c' e f) /\ c'.size = c.size
  oth : ∀ (b : Nat) (o : Obj), w.heap[b]? = some o -> o.isCells = false -> w'.heap[b]? = some o
theorem Grow.g4 {ok : Nat -> Prop} {w w' : World} {J J' : Nat -> Option Nat} {Z Z' : Nat -> Prop} (g : Grow ok w J Z w' J' Z') : kE ok w J Z w' J' Z' := ⟨g.ptr, g.zz, g.blk, g.shp⟩
def LV.ok (ok : Nat -> Prop) : LV -> Prop
  | .ptr i _ | .mp i => ok i
  | _ => True
def CV.ok (ok : Nat -> Prop) : CV -> Prop
  | .slc i _ _ _ | .ptr i _ | .mp i | .it i => ok i
  | .fn _ a b => (∀ l, l ∈ a -> l.ok ok) /\ (∀ l, l ∈ b -> l.ok ok)
  | .ml l => ∀ x, x ∈ l -> (∀ y, y ∈ x.2.2.1 -> y.ok ok) /\ (∀ y, y ∈ x.2.2.2 -> y.ok ok)
  | .mt j _ _ _ => ok j
  | _ => True
def TV.ok (ok : Nat -> Prop) : TV -> Prop
  | .one c => c.ok ok
  | .agg cs => ∀ c, c ∈ cs -> c.ok ok
def AV.ok (ok : Nat -> Prop) : AV -> Prop
  | .t x | .mb _ x => x.ok ok
  | .tup xs => ∀ x, x ∈ xs -> x.ok ok
  | .any => True
section
variable {ok : Nat -> Prop} {w w' : World} {J J' : Nat -> Option Nat} {Z Z' : Nat -> Prop}
theorem Cm.dK (g : kE ok w J Z w' J' Z') {i b : Nat} (hc : ok i) (hj : J i = some b) (h : Cm w b) : Cm w' b := by
  obtain ⟨c, e, h⟩ := h
  obtain ⟨c', h', _⟩ := g.shp i b hc hj c e (0, 0) h
  exact ⟨c', e, h'⟩
theorem jR.dK (g : kE ok w J Z w' J' Z') {v : Value} {c : LV} (hc : c.ok ok) (h : jR w J Z v c) : jR w' J' Z' v c := by
  cases c with
  | iv c => exact Rd.mono h g.zz g.blk
  | ptr i o => obtain ⟨b, e, hj, hb⟩ := h; exact ⟨b, e, g.ptr i b hc hj, Cm.dK g hc hj hb⟩
  | mp i => obtain ⟨b, e, hj⟩ := h; exact ⟨b, e, g.ptr i b hc hj⟩
theorem bQ.dK (g : kE ok w J Z w' J' Z') {v : Value} {c : CV} (hc : c.ok ok) (h : bQ w J Z v c) : bQ w' J' Z' v c := by
  cases c with
  | iv c => exact Rd.mono h g.zz g.blk
  | ip m c =>
    obtain ⟨b, off, X, e, hz, hX⟩ := h
    refine ⟨b, off, X, e, g.zz b hz, fun o ho => ⟨?_, Rd.mono (hX o ho).2 g.zz g.blk⟩⟩
    have h1 := (hX o ho).1
    have hlt := oo h1
    rw [World.cell?_of_block (w := w) (w' := w') (a := ⟨b, off + o, none⟩) (g.blk b hz hlt)]
    exact h1
  | slc i off n E =>
    rcases h with h | ⟨b, cap, c, e, hv, hj, hn, hm, hb, hs⟩
    · exact Or.inl h
    obtain ⟨c', hb', hs'⟩ := g.shp i b hc hj c e (0, 0) hb
    exact Or.inr ⟨b, cap, c', e, hv, g.ptr i b hc hj, hn, hm, hb', by omega⟩
  | ptr i o => obtain ⟨b, e, hj, hb⟩ := h; exact ⟨b, e, g.ptr i b hc hj, Cm.dK g hc hj hb⟩
  | mp i => obtain ⟨b, e, hj⟩ := h; exact ⟨b, e, g.ptr i b hc hj⟩
  | it i => obtain ⟨b, e, hj⟩ := h; exact ⟨b, e, g.ptr i b hc hj⟩
  | fn f a b =>
    obtain ⟨A, B, e, h1, h2⟩ := h
    exact ⟨A, B, e, h1.mono' (fun x y hy => jR.dK g (hc.1 y hy)), h2.mono' (fun x y hy => jR.dK g (hc.2 y hy))⟩
  | any => exact h
  | mi | m2 | ml | mt => exact h.elim
theorem bS.dK (g : kE ok w J Z w' J' Z') {v : Value} {x : TV} (hc : x.ok ok) (h : bS w J Z v x) : bS w' J' Z' v x := by
  cases x with
  | one c => exact bQ.dK g hc h
  | agg cs => obtain ⟨A, e, h⟩ := h; exact ⟨A, e, h.mono' fun x y hy => bQ.dK g (hc y hy)⟩
theorem bD.dK (g : kE ok w J Z w' J' Z') {v : Value} {x : AV} (hc : x.ok ok) (h : bD w J Z v x) : bD w' J' Z' v x := by
  cases x with
  | t x => exact bS.dK g hc h
  | tup xs => obtain ⟨A, e, h⟩ := h; exact ⟨A, e, h.mono' fun x y hy => bS.dK g (hc y hy)⟩
  | mb b x => exact ⟨fun hb => bS.dK g hc (h.1 hb), h.2⟩
  | any => trivial
theorem jR.grow (g : Grow ok w J Z w' J' Z') {v : Value} {c : LV} (hc : c.ok ok) (h : jR w J Z v c) : jR w' J' Z' v c := jR.dK g.g4 hc h
theorem bQ.grow (g : Grow ok w J Z w' J' Z') {v : Value} {c : CV} (hc : c.ok ok) (h : bQ w J Z v c) : bQ w' J' Z' v c := bQ.dK g.g4 hc h
theorem bS.grow (g : Grow ok w J Z w' J' Z') {v : Value} {c : TV} (hc : c.ok ok) (h : bS w J Z v c) : bS w' J' Z' v c := bS.dK g.g4 hc h
theorem bD.grow (g : Grow ok w J Z w' J' Z') {v : Value} {c : AV} (hc : c.ok ok) (h : bD w J Z v c) : bD w' J' Z' v c := bD.dK g.g4 hc h
theorem LV.bM (c : LV) : c.ok fun _ => True := by cases c <;> trivial
theorem CV.bM (c : CV) : c.ok fun _ => True := by
  cases c <;> first | trivial | exact ⟨fun l _ => l.bM, fun l _ => l.bM⟩ | exact fun x _ => ⟨fun l _ => l.bM, fun l _ => l.bM⟩
theorem TV.bM (c : TV) : c.ok fun _ => True := by
  cases c with
  | one c => exact c.bM
  | agg cs => exact fun c _ => c.bM
theorem AV.bM (c : AV) : c.ok fun _ => True := by
  cases c with
  | t x => exact x.bM
  | tup xs => exact fun c _ => c.bM
  | mb b x => exact x.bM
  | any => trivial
end
def iW (w : World) (Z : Nat -> Prop) (es : Array MapEntry) (clock n : Nat) (f : Int -> Option PT) : Prop :=
  es.size = n /\ MapKept.Stamped es clock /\ (∀ x, x ∈ es.toList -> ∃ k y, x.key = .int .i64 k /\ f k = some y /\ bZ w Z x.val y) /\ (∀ k, (∀ x, x ∈ es.toList -> x.key ≠ .int .i64 k) -> f k = none)
def dw (a b : Int) : Value := .agg #[.int .i64 a, .int .i64 b]
theorem rJ {a b c d : Int} (h : dw a b = dw c d) : a = c /\ b = d := by simpa [dw] using h
def lJ (w : World) (Z : Nat -> Prop) (es : Array MapEntry) (clock : Nat) (f : Int -> Int -> Option PT) : Prop :=
  MapKept.Stamped es clock /\ (∀ x, x ∈ es.toList -> ∃ a b y, x.key = dw a b /\ f a b = some y /\ bZ w Z x.val y) /\ (∀ a b, (∀ x, x ∈ es.toList -> x.key ≠ dw a b) -> f a b = none)
def QY (w : World) (J : Nat -> Option Nat) (Z : Nat -> Prop) (es : Array MapEntry) (clock : Nat) (l : List (Int × Fn × List LV × List LV)) : Prop :=
  MapKept.Stamped es clock /\ aU (fun (x : MapEntry) (y : Int × Fn × List LV × List LV) => x.key = .int .i64 y.1 /\ bQ w J Z x.val (.fn y.2.1 y.2.2.1 y.2.2.2)) es.toList l
theorem bZ.mono {w w' : World} {Z Z' : Nat -> Prop} {v : Value} {x : PT} (h : bZ w Z v x) (hz : ∀ b, Z b -> Z' b) (hb : ∀ b, Z b -> iF w b -> w'.heap[b]? = w.heap[b]?) : bZ w' Z' v x := by
  cases x with
  | one c => exact Rd.mono h hz hb
  | agg cs => obtain ⟨A, e, h⟩ := h; exact ⟨A, e, aU.mono (fun _ _ hr => Rd.mono hr hz hb) h⟩
theorem iW.mono {w w' : World} {Z Z' : Nat -> Prop} {es : Array MapEntry} {clock n : Nat} {f : Int -> Option PT} (h : iW w Z es clock n f) (hz : ∀ b, Z b -> Z' b) (hb : ∀ b, Z b -> iF w b -> w'.heap[b]? = w.heap[b]?) : iW w' Z' es clock n f := by
  obtain ⟨h1, h2, h3, h4⟩ := h
  exact ⟨h1, h2, fun x hx => by
    obtain ⟨k, y, k1, k2, k3⟩ := h3 x hx
    exact ⟨k, y, k1, k2, k3.mono hz hb⟩, h4⟩
theorem lJ.mono {w w' : World} {Z Z' : Nat -> Prop} {es : Array MapEntry} {clock : Nat} {f : Int -> Int -> Option PT} (h : lJ w Z es clock f) (hz : ∀ b, Z b -> Z' b) (hb : ∀ b, Z b -> iF w b -> w'.heap[b]? = w.heap[b]?) : lJ w' Z' es clock f := by
  obtain ⟨h2, h3, h4⟩ := h
  exact ⟨h2, fun x hx => by
    obtain ⟨a, b, y, k1, k2, k3⟩ := h3 x hx
    exact ⟨a, b, y, k1, k2, k3.mono hz hb⟩, h4⟩
def iO (w : World) (J : Nat -> Option Nat) (Z : Nat -> Prop) (b : Nat) : List CV -> Prop
  | .mi c n f :: l => l = [] /\ ∃ es clock, w.heap[b]? = some (.map es clock) /\ (∀ x, c = some x -> clock = x) /\ iW w Z es clock n f
  | .m2 f :: l => l = [] /\ ∃ es clock, w.heap[b]? = some (.map es clock) /\ lJ w Z es clock f
  | .ml l :: r => r = [] /\ ∃ es clock, w.heap[b]? = some (.map es clock) /\ QY w J Z es clock l
  | .mt j c p q :: l => l = [] /\ ∃ m seen es clock, w.heap[b]? = some (.mapIter (some m) c seen c) /\ J j = some m /\ w.heap[m]? = some (.map es clock) /\ c <= clock /\ (clock = c -> ∀ x, x ∈ es.toList -> ∀ k, x.key = .int .i64 k -> (seen.contains x.born = true ↔ p k) /\ (q = some k -> seen.back? = some x.born))
  | cs => (∃ c e, w.heap[b]? = some (.cells c e (0, 0)) /\ aU (bQ w J Z) (c.toList.take cs.length) cs) \/ (∃ o, w.heap[b]? = some o /\ o.isCells = false) /\ ∀ c, c ∈ cs -> c = .any
theorem iO.keep {ok : Nat -> Prop} {w w' : World} {J J' : Nat -> Option Nat} {Z Z' : Nat -> Prop} (g : kE ok w J Z w' J' Z') {b : Nat} {cs : List CV} (hc : ∀ c, c ∈ cs -> c.ok ok) (ho : ∀ (b : Nat) (o : Obj), w.heap[b]? = some o -> o.isCells = false -> w'.heap[b]? = some o) (hb : iF w b -> w'.heap[b]? = w.heap[b]?) (h : iO w J Z b cs) : iO w' J' Z' b cs := by
  unfold iO at h ⊢
  split at h
  · obtain ⟨e, es, clock, h1, h0, h2⟩ := h
    exact ⟨e, es, clock, ho _ _ h1 rfl, h0, h2.mono g.zz g.blk⟩
  · obtain ⟨e, es, clock, h1, h2⟩ := h
    exact ⟨e, es, clock, ho _ _ h1 rfl, h2.mono g.zz g.blk⟩
  · obtain ⟨rfl, es, clock, h1, h2, h3⟩ := h
    have hk := hc _ (List.mem_cons_self ..)
    exact ⟨rfl, es, clock, ho _ _ h1 rfl, h2, aU.mono' (fun x y hy hr => ⟨hr.1, bQ.dK g (hk y hy) hr.2⟩) h3⟩
  · obtain ⟨rfl, m, seen, es, clock, h1, h2, h3, h4⟩ := h
    have hk := hc _ (List.mem_cons_self ..)
    exact ⟨rfl, m, seen, es, clock, ho _ _ h1 rfl, g.ptr _ _ hk h2, ho _ _ h3 rfl, h4⟩
  · rcases h with ⟨c, e, h1, h2⟩ | ⟨⟨o, h1, h2⟩, h3⟩
    · have hh := hb ⟨c, e, _, h1⟩
      exact Or.inl ⟨c, e, hh.trans h1, h2.mono' fun x y hy hr => bQ.dK g (hc y hy) hr⟩
    · exact Or.inr ⟨⟨o, ho _ _ h1 h2, h2⟩, h3⟩
theorem iO.cells {w : World} {J : Nat -> Option Nat} {Z : Nat -> Prop} {b : Nat} {cs : List CV} (h : iO w J Z b cs) (hb : Cm w b) : ∃ c e, w.heap[b]? = some (.cells c e (0, 0)) /\ aU (bQ w J Z) (c.toList.take cs.length) cs := by
  obtain ⟨c0, e0, h0⟩ := hb
  unfold iO at h
  split at h
  · obtain ⟨_, es, clock, h1, _⟩ := h; rw [h0] at h1; cases h1
  · obtain ⟨_, es, clock, h1, _⟩ := h; rw [h0] at h1; cases h1
  · obtain ⟨_, es, clock, h1, _⟩ := h; rw [h0] at h1; cases h1
  · obtain ⟨_, m, seen, es, clock, h1, _⟩ := h; rw [h0] at h1; cases h1
  · rcases h with h | ⟨⟨o, h1, h2⟩, _⟩
    · exact h
    · rw [h0] at h1; cases h1; cases h2
theorem iO.dead {w : World} {J : Nat -> Option Nat} {Z : Nat -> Prop} {b : Nat} {cs : List CV} {o : Obj} (h1 : w.heap[b]? = some o) (h2 : o.isCells = false) (h3 : ∀ c, c ∈ cs -> c = .any) : iO w J Z b cs := by
  unfold iO
  split
  · have := h3 _ (List.mem_cons_self ..); cases this
  · have := h3 _ (List.mem_cons_self ..); cases this
  · have := h3 _ (List.mem_cons_self ..); cases this
  · have := h3 _ (List.mem_cons_self ..); cases this
  · exact Or.inr ⟨⟨o, h1, h2⟩, h3⟩
theorem iO.of {w : World} {J : Nat -> Option Nat} {Z : Nat -> Prop} {b : Nat} {cs : List CV} {c : Array Value} {e : TypeId} (h1 : w.heap[b]? = some (.cells c e (0, 0))) (h2 : aU (bQ w J Z) (c.toList.take cs.length) cs) : iO w J Z b cs := by
  unfold iO
  split
  · rename_i x n f l
    cases hl : c.toList.take (CV.mi x n f :: l).length with
    | nil => rw [hl] at h2; exact h2.elim
    | cons a r => rw [hl] at h2; exact h2.1.elim
  · rename_i f l
    cases hl : c.toList.take (CV.m2 f :: l).length with
    | nil => rw [hl] at h2; exact h2.elim
    | cons a r => rw [hl] at h2; exact h2.1.elim
  · rename_i l r
    cases hl : c.toList.take (CV.ml l :: r).length with
    | nil => rw [hl] at h2; exact h2.elim
    | cons a r => rw [hl] at h2; exact h2.1.elim
  · rename_i j x p q l
    cases hl : c.toList.take (CV.mt j x p q :: l).length with
    | nil => rw [hl] at h2; exact h2.elim
    | cons a r => rw [hl] at h2; exact h2.1.elim
  · exact Or.inl ⟨c, e, h1, h2⟩
structure LS where
  l : Nat
  st : LoopState
  pe : Option Code
  fid : Nat
  N : Nat
  ps : List Tmp
  asg : Code
  body : Code
def LS.loop (x : LS) (fn : FuncId) (tmps : Array Value) (dd : Nat) : Loop := { state := x.st, pending := x.pe, fn, tmps, params := x.ps.toArray, assign := x.asg, body := x.body, defers := dd }
structure LP where
  ls : List LS
  fr : Nat
  ro : Option Nat
abbrev LP.top : LP := ⟨[], 0, none⟩
structure AS where
  env : List (Nat × AV)
  heap : List (Option (List CV))
  N : Nat
  gh : List (Nat × List (Nat × AV))
  lp : LP
structure Fr where
  z : Nat -> Prop
  g : Nat -> Nat -> Value
  ro : Option Nat
  pin : List Nat
def lk : List (Nat × AV) -> Nat -> AV
  | [], _ => .any
  | (k, v) :: r, t => if t = k then v else lk r t
abbrev AS.get (s : AS) (t : Nat) : AV := lk s.env t
def gf : List (Nat × List (Nat × AV)) -> Nat -> List (Nat × AV)
  | [], _ => []
  | (k, e) :: r, f => if f = k then e else gf r f
abbrev gk (h : List (Nat × List (Nat × AV))) (f t : Nat) : AV := lk (gf h f) t
def hget (h : List (Option (List CV))) (i : Nat) : Option (List CV) := (h[i]?).getD none
def mark (b : Nat) : Deferred := { target := .collected b, args := #[] }
def Tab (w : World) : Prop := ∀ j, j < Lib.deBruijn64tab.length -> w.cell? ⟨1, j, none⟩ = some (.int .u8 (Lib.deBruijn64tab.getD j 0))
theorem Tab.lt {w : World} (h : Tab w) : 1 < w.heap.size := (oo (h 0 (by decide))).lt
theorem Tab.below {n : Nat} {w w' : World} (h : Tab w) (hn : 1 < n) (hb : Below n w w') : Tab w' := fun j hj => by
  have := h j hj
  unfold World.cell? at this ⊢
  simp only at this ⊢
  rw [hb.block _ hn]
  exact this
structure Rel (w0 : World) (Z0 : Fr) (J : Nat -> Option Nat) (Z : Nat -> Prop) (s : AS) (a : Act) (w : World) : Prop where
  nodef : ∃ M : List Nat, a.defers = M.map mark /\ (M ++ Z0.pin).Nodup /\ ∀ b, b ∈ M ++ Z0.pin -> w0.heap.size <= b /\ w.heap[b]? = some (.deferred (some []))
  size : a.tmps.size = s.N
  below : Below w0.heap.size w0 w
  zfrom : ∀ b, Z b -> Z0.z b \/ w0.heap.size <= b
  zlt : ∀ b, Z b -> b < w.heap.size
  jlt : ∀ i b, J i = some b -> w0.heap.size <= b /\ b < w.heap.size /\ ¬ Z b
  inj : ∀ i j b, J i = some b -> J j = some b -> i = j
  hole : ∀ i, hget s.heap i = none -> J i = none
  blk : ∀ i cs, hget s.heap i = some cs -> cs ≠ [] -> ∃ b, J i = some b /\ iO w J Z b cs
  slots : ∀ t, bD w J Z (a.tmps.getD t undef) (s.get t)
  ghost : ∀ f t, bD w J Z (Z0.g f t) (gk s.gh f t)
  loops : ∀ x, x ∈ s.lp.ls -> ∃ fn tmps dd, w0.heap.size <= x.l /\ w.heap[x.l]? = some (.loop (x.loop fn tmps dd)) /\ tmps.size = x.N /\ ∀ t, tmps.getD t undef = Z0.g x.fid t
  lnd : (s.lp.ls.map LS.l).Nodup
  ro : s.lp.ro = Z0.ro
  tab : Tab w0
theorem Rel.aiN {w0 : World} {Z0 : Fr} {J : Nat -> Option Nat} {Z : Nat -> Prop} {s : AS} {a : Act} {w : World} (R : Rel w0 Z0 J Z s a w) : Tab w := R.tab.below R.tab.lt R.below
theorem Rel.cells {w0 : World} {Z0 : Fr} {J : Nat -> Option Nat} {Z : Nat -> Prop} {s : AS} {a : Act} {w : World} (R : Rel w0 Z0 J Z s a w) {i b : Nat} {cs : List CV} (h : hget s.heap i = some cs) (hne : cs ≠ []) (hj : J i = some b) (hb : Cm w b) : ∃ c e, w.heap[b]? = some (.cells c e (0, 0)) /\ aU (bQ w J Z) (c.toList.take cs.length) cs := by
  obtain ⟨b', h1, h2⟩ := R.blk i cs h hne
  rw [hj] at h1; cases h1
  exact h2.cells hb
def l5 (w0 : World) (Z0 : Fr) (s : AS) (a : Act) (w : World) : Prop := ∃ J Z, Rel w0 Z0 J Z s a w
end Go.Sea
namespace Go.Sea
open Go.RowKit
theorem Grow.refl (ok : Nat -> Prop) (w : World) (J : Nat -> Option Nat) (Z : Nat -> Prop) : Grow ok w J Z w J Z :=
  ⟨fun _ _ _ h => h, fun _ h => h, fun _ _ _ => rfl, fun _ _ _ _ c _ _ h => ⟨c, h, rfl⟩, fun _ _ h _ => h⟩
section
variable {w0 : World} {Z0 : Fr} {J J' : Nat -> Option Nat} {Z Z' : Nat -> Prop} {s s' : AS} {a : Act} {w w' : World}
theorem Rel.step {ok : Nat -> Prop} (R : Rel w0 Z0 J Z s a w) (G : Grow ok w J Z w' J' Z') (hb : Below w0.heap.size w w') (zf : ∀ b, Z' b -> Z0.z b \/ w0.heap.size <= b) (zl : ∀ b, Z' b -> b < w'.heap.size)
    (jl : ∀ i b, J' i = some b -> w0.heap.size <= b /\ b < w'.heap.size /\ ¬ Z' b) (inj : ∀ i j b, J' i = some b -> J' j = some b -> i = j) (hN : s'.N = s.N)
    (hole : ∀ i, hget s'.heap i = none -> J' i = none)
    (blk : ∀ i cs, hget s'.heap i = some cs -> cs ≠ [] -> ∃ b, J' i = some b /\ iO w' J' Z' b cs)
    (env : ∀ t, s'.get t = .any \/ (s'.get t = s.get t /\ (s.get t).ok ok)) (gh : ∀ f t, gk s'.gh f t = .any \/ (gk s'.gh f t = gk s.gh f t /\ (gk s.gh f t).ok ok)) (hl : s'.lp = s.lp := by rfl) : Rel w0 Z0 J' Z' s' a w' where
  nodef := by
    obtain ⟨M, h1, h2, h3⟩ := R.nodef
    exact ⟨M, h1, h2, fun b hb => ⟨(h3 b hb).1, G.oth b _ (h3 b hb).2 rfl⟩⟩
  size := hN ▸ R.size
  below := R.below.trans hb
  zfrom := zf
  zlt := zl
  jlt := jl
  inj := inj
  hole := hole
  blk := blk
  slots t := by
    rcases env t with h | ⟨h, ho⟩
    · rw [h]; trivial
    · rw [h]; exact bD.grow G ho (R.slots t)
  ghost f t := by
    rcases gh f t with h | ⟨h, ho⟩
    · rw [h]; trivial
    · rw [h]; exact bD.grow G ho (R.ghost f t)
  loops x hx := by
    rw [hl] at hx
    obtain ⟨fn, tmps, dd, h0, h1, h2, h3⟩ := R.loops x hx
    exact ⟨fn, tmps, dd, h0, G.oth _ _ h1 rfl, h2, h3⟩
  lnd := by rw [hl]; exact R.lnd
  ro := by rw [hl]; exact R.ro
  tab := R.tab
theorem Rel.keep {ok : Nat -> Prop} (R : Rel w0 Z0 J Z s a w) (G : Grow ok w J Z w' J' Z') {i : Nat} {cs : List CV} (h : hget s.heap i = some cs) (hne : cs ≠ []) (hok : ok i) (hc : ∀ c, c ∈ cs -> c.ok ok) (hb : ∀ b, J i = some b -> iF w b -> w'.heap[b]? = w.heap[b]?) : ∃ b, J' i = some b /\ iO w' J' Z' b cs := by
  obtain ⟨b, h1, h2⟩ := R.blk i cs h hne
  exact ⟨b, G.ptr i b hok h1, h2.keep G.g4 hc G.oth (hb b h1)⟩
def AS.put (s : AS) (d : Option Nat) (v : AV) : AS :=
  match d with
  | some d => { s with env := (d, v) :: s.env }
  | none => s
theorem agy (s : AS) (d : Option Nat) (v : AV) : (s.put d v).N = s.N := by cases d <;> rfl
theorem RU (s : AS) (d : Option Nat) (v : AV) : (s.put d v).heap = s.heap := by cases d <;> rfl
theorem Rel.put (R : Rel w0 Z0 J Z s a w) {d : Option Nat} {v : Value} {x : AV} (hd : ∀ k, d = some k -> k < s.N) (h : bD w J Z v x) : Rel w0 Z0 J Z (s.put d x) (a.put d v) w := by
  cases d with
  | none => exact R
  | some d =>
    refine ⟨R.nodef, ?_, R.below, R.zfrom, R.zlt, R.jlt, R.inj, R.hole, R.blk, fun t => ?_, R.ghost, R.loops, R.lnd, R.ro, R.tab⟩
    · simp [Act.put, AS.put, R.size]
    · have hlt : d < a.tmps.size := by rw [R.size]; exact hd d rfl
      simp only [AS.put, AS.get, lk, Act.put]
      by_cases e : t = d
      · subst e; simp [hlt]; exact h
      · rw [if_neg e]
        have := R.slots t
        simpa [Array.getElem?_setIfInBounds_ne (Ne.symm e)] using this
theorem Rel.Ad (R : Rel w0 Z0 J Z s a w) {d : Option Nat} {v : Value} : Rel w0 Z0 J Z (s.put d .any) (a.put d v) w := by
  cases d with
  | none => exact R
  | some d =>
    refine ⟨R.nodef, ?_, R.below, R.zfrom, R.zlt, R.jlt, R.inj, R.hole, R.blk, fun t => ?_, R.ghost, R.loops, R.lnd, R.ro, R.tab⟩
    · simp [Act.put, AS.put, R.size]
    · simp only [AS.put, AS.get, lk, Act.put]
      by_cases e : t = d
      · subst e; simp; trivial
      · rw [if_neg e]
        have := R.slots t
        simpa [Array.getElem?_setIfInBounds_ne (Ne.symm e)] using this
theorem Rel.drew (R : Rel w0 Z0 J Z s a w) : Rel w0 Z0 J Z s a w.drew := by
  have G : Grow (fun _ => True) w J Z w.drew J Z := ⟨fun _ _ _ h => h, fun _ h => h, fun _ _ _ => rfl, fun _ _ _ _ c _ _ h => ⟨c, h, rfl⟩, fun _ _ h _ => h⟩
  refine R.step G (Below.refl _ _).drew R.zfrom R.zlt R.jlt R.inj rfl R.hole (fun i cs h hne => ?_) (fun t => Or.inr ⟨rfl, AV.bM _⟩) (fun _ t => Or.inr ⟨rfl, AV.bM _⟩)
  exact R.keep G h hne trivial (fun c _ => c.bM) fun _ _ _ => rfl
def gI (J : Nat -> Option Nat) (i b : Nat) : Nat -> Option Nat := fun k => if k = i then some b else J k
theorem Rel.new (R : Rel w0 Z0 J Z s a w) {nid : Nat} {cs : List CV} {c : Array Value} {e : TypeId} {H : List (Option (List CV))} (hh : hget s.heap nid = none) (h1 : hget H nid = some cs) (h2 : ∀ i, i ≠ nid -> hget H i = hget s.heap i)
    (hc : aU (bQ w J Z) (c.toList.take cs.length) cs) : Rel w0 Z0 (gI J nid w.heap.size) Z { s with heap := H } a (w.alloc (.cells c e)) := by
  have hsz : (w.alloc (.cells c e)).heap.size = w.heap.size + 1 := by simp
  have G : Grow (fun _ => True) w J Z (w.alloc (.cells c e)) (gI J nid w.heap.size) Z := by
    refine ⟨fun i b _ h => ?_, fun _ h => h, fun b hz hb => Below.heap_alloc _ _ _ hb.lt, fun i b _ h c' e' f' hb => ⟨c', ?_, rfl⟩, fun b o hb _ => (Below.heap_alloc _ _ _ (Array.getElem?_eq_some_iff.1 hb).1).trans hb⟩
    · unfold gI
      rw [if_neg]
      · exact h
      · rintro rfl; rw [R.hole _ hh] at h; cases h
    · rw [Below.heap_alloc _ _ _ (R.jlt i b h).2.1]; exact hb
  refine R.step G ((Below.refl _ _).alloc (R.below.size) _) R.zfrom (fun b h => by have := R.zlt b h; omega) (fun i b h => ?_) (fun i j b hi hj => ?_) rfl (fun i h => ?_) (fun i x h hne => ?_) (fun t => Or.inr ⟨rfl, AV.bM _⟩) (fun _ t => Or.inr ⟨rfl, AV.bM _⟩)
  · unfold gI at h
    split at h
    · cases h; exact ⟨R.below.size, by omega, fun hz => by have := R.zlt _ hz; omega⟩
    · have := R.jlt i b h; exact ⟨this.1, by omega, this.2.2⟩
  · unfold gI at hi hj
    split at hi <;> split at hj
    · omega
    · cases hi; have := R.jlt j _ hj; omega
    · cases hj; have := R.jlt i _ hi; omega
    · exact R.inj i j b hi hj
  · unfold gI
    by_cases k : i = nid
    · subst k; simp [h1] at h
    · rw [if_neg k]; simp only [h2 i k] at h; exact R.hole i h
  · by_cases k : i = nid
    · subst k
      simp only [h1, Option.some.injEq] at h
      subst h
      exact ⟨w.heap.size, by simp [gI], iO.of (heap_alloc_new w _) (hc.mono fun _ y => bQ.grow G y.bM)⟩
    · simp only [h2 i k] at h
      exact R.keep G h hne trivial (fun c _ => c.bM) fun b g1 _ => Below.heap_alloc _ _ _ (R.jlt i b g1).2.1
theorem Rel.set (R : Rel w0 Z0 J Z s a w) {i b : Nat} {cs0 cs : List CV} {c c' : Array Value} {e : TypeId} {H : List (Option (List CV))} (h0 : hget s.heap i = some cs0) (hj : J i = some b) (hb : w.heap[b]? = some (.cells c e (0, 0))) (hsz : c'.size = c.size)
    (h1 : hget H i = some cs) (h2 : ∀ k, k ≠ i -> hget H k = hget s.heap k) (hc : aU (bQ w J Z) (c'.toList.take cs.length) cs) : Rel w0 Z0 J Z { s with heap := H } a (w.setRow b c') := by
  have hs : ∀ k, k ≠ b -> (w.setRow b c').heap[k]? = w.heap[k]? := fun k hk => by
    simp only [World.setRow, Array.getElem?_modify]; rw [if_neg (by omega)]
  have hs' := setRow_heap w b c c' e (0, 0) hb
  have hlt := R.jlt i b hj
  have G : Grow (fun _ => True) w J Z (w.setRow b c') J Z := by
    refine ⟨fun _ _ _ h => h, fun _ h => h, fun b' hz _ => hs b' (fun e => hlt.2.2 (e ▸ hz)), fun k b' _ h c1 e1 f1 hb1 => ?_, fun b' o h ho => (hs b' (fun e => by subst e; rw [hb] at h; cases h; cases ho)).trans h⟩
    by_cases hk : b' = b
    · subst hk
      rw [hb] at hb1
      cases hb1
      exact ⟨c', hs', hsz⟩
    · exact ⟨c1, by rw [hs b' hk]; exact hb1, rfl⟩
  have hbel : Below w0.heap.size w (w.setRow b c') := ⟨rfl, rfl, rfl, by simp, fun k hk => hs k (by omega)⟩
  refine R.step G hbel R.zfrom (fun b h => by have := R.zlt b h; simpa using this) (fun k b' h => by have := R.jlt k b' h; simpa using this) R.inj rfl (fun k h => ?_) (fun k x h hne => ?_) (fun t => Or.inr ⟨rfl, AV.bM _⟩) (fun _ t => Or.inr ⟨rfl, AV.bM _⟩)
  · by_cases hk : k = i
    · subst hk; simp [h1] at h
    · simp only [h2 k hk] at h; exact R.hole k h
  · by_cases hk : k = i
    · subst hk
      simp only [h1, Option.some.injEq] at h
      subst h
      exact ⟨b, hj, iO.of hs' (hc.mono fun _ y => bQ.grow G y.bM)⟩
    · simp only [h2 k hk] at h
      exact R.keep G h hne trivial (fun c _ => c.bM) fun b' g1 _ => hs b' fun e => hk (R.inj k i b (e ▸ g1) hj)
theorem Rel.Hu (R : Rel w0 Z0 J Z s a w) {nid : Nat} {H : List (Option (List CV))} (hh : hget s.heap nid = none) (h1 : hget H nid = some []) (h2 : ∀ i, i ≠ nid -> hget H i = hget s.heap i) : Rel w0 Z0 J Z { s with heap := H } a w := by
  refine ⟨R.nodef, R.size, R.below, R.zfrom, R.zlt, R.jlt, R.inj, fun i h => ?_, fun i cs h hne => ?_, R.slots, R.ghost, R.loops, R.lnd, R.ro, R.tab⟩
  · by_cases k : i = nid
    · subst k; rw [show (({ s with heap := H } : AS).heap) = H from rfl, h1] at h; cases h
    · rw [show (({ s with heap := H } : AS).heap) = H from rfl, h2 i k] at h; exact R.hole i h
  · by_cases k : i = nid
    · subst k; rw [show (({ s with heap := H } : AS).heap) = H from rfl, h1] at h; cases h; exact absurd rfl hne
    · rw [show (({ s with heap := H } : AS).heap) = H from rfl, h2 i k] at h; exact R.blk i cs h hne
theorem Rel.same (R : Rel w0 Z0 J Z s a w) {H : List (Option (List CV))} (h : ∀ i, hget H i = hget s.heap i) : Rel w0 Z0 J Z { s with heap := H } a w :=
  ⟨R.nodef, R.size, R.below, R.zfrom, R.zlt, R.jlt, R.inj, fun i hi => R.hole i ((h i).symm.trans hi), fun i cs hi => R.blk i cs ((h i).symm.trans hi), R.slots, R.ghost, R.loops, R.lnd, R.ro, R.tab⟩
theorem Rel.call (R : Rel w0 Z0 J Z s a w) (hb : Below w.heap.size w w') : Rel w0 Z0 J (fun b => Z b \/ (w.heap.size <= b /\ b < w'.heap.size)) s a w' /\ Grow (fun _ => True) w J Z w' J (fun b => Z b \/ (w.heap.size <= b /\ b < w'.heap.size)) := by
  have hsz := hb.size
  have G : Grow (fun _ => True) w J Z w' J (fun b => Z b \/ (w.heap.size <= b /\ b < w'.heap.size)) :=
    ⟨fun _ _ _ h => h, fun _ h => Or.inl h, fun b hz hlt => hb.block b hlt.lt, fun i b _ h c e f hc => ⟨c, by rw [hb.block b (R.jlt i b h).2.1]; exact hc, rfl⟩, fun b o h _ => (hb.block b (Array.getElem?_eq_some_iff.1 h).1).trans h⟩
  refine ⟨R.step G (hb.mono R.below.size) (fun b h => ?_) (fun b h => ?_) (fun i b h => ?_) R.inj rfl R.hole (fun i cs h hne => ?_) (fun t => Or.inr ⟨rfl, AV.bM _⟩) (fun _ t => Or.inr ⟨rfl, AV.bM _⟩), G⟩
  · rcases h with h | h
    · exact R.zfrom b h
    · exact Or.inr (by have := R.below.size; omega)
  · rcases h with h | h
    · have := R.zlt b h; omega
    · exact h.2
  · have := R.jlt i b h
    exact ⟨this.1, by omega, fun h' => by
      rcases h' with h' | h'
      · exact this.2.2 h'
      · omega⟩
  · exact R.keep G h hne trivial (fun c _ => c.bM) fun b g1 _ => hb.block b (R.jlt i b g1).2.1
theorem aU.comp {α β γ : Type} {R : α -> β -> Prop} {S : β -> γ -> Prop} {T : α -> γ -> Prop} (h : ∀ a b c, R a b -> S b c -> T a c) : ∀ {l : List α} {m : List β} {n : List γ}, aU R l m -> aU S m n -> aU T l n
  | [], [], [], _, _ => trivial
  | _ :: _, _ :: _, _ :: _, ⟨h1, h2⟩, ⟨k1, k2⟩ => ⟨h _ _ _ h1 k1, aU.comp h h2 k2⟩
def P6 : Option PT -> Option PT -> Prop
  | none, none => True
  | some l, some m => l.eqv m
  | _, _ => False
def OH : CV -> CV -> Prop
  | .iv (.g v), .slc _ _ n _ => n = 0 /\ v = .slice none 0 0
  | .iv c, .iv d => c.eqv d
  | .mi c n f, .mi c' n' f' => (c' = c \/ c' = none) /\ n = n' /\ ∀ k, P6 (f k) (f' k)
  | .m2 f, .m2 f' => ∀ a b, P6 (f a b) (f' a b)
  | _, _ => False
def O1 : AV -> AV -> Prop
  | .t (.one c), .t (.one d) => OH c d
  | _, _ => False
theorem Ga {w : World} {J J' : Nat -> Option Nat} {Z : Nat -> Prop} {v : Value} {c d : CV} (h : OH c d) (hv : bQ w J Z v c) : bQ w J' Z v d := by
  unfold OH at h
  split at h
  · obtain ⟨rfl, rfl⟩ := h
    cases hv
    exact Or.inl ⟨rfl, rfl⟩
  · exact Rd.eqv hv h
  · exact hv.elim
  · exact hv.elim
  · exact h.elim
theorem GD {w : World} {J J' : Nat -> Option Nat} {Z : Nat -> Prop} {v : Value} {c d : AV} (h : O1 c d) (hv : bD w J Z v c) : bD w J' Z v d := by
  unfold O1 at h
  split at h
  · exact Ga h hv
  · exact h.elim
theorem iW.eqv {w : World} {Z : Nat -> Prop} {es : Array MapEntry} {clock n : Nat} {f f' : Int -> Option PT} (h : iW w Z es clock n f) (he : ∀ k, P6 (f k) (f' k)) : iW w Z es clock n f' := by
  obtain ⟨h1, h2, h3, h4⟩ := h
  refine ⟨h1, h2, fun x hx => ?_, fun k hk => ?_⟩
  · obtain ⟨k, y, k1, k2, k3⟩ := h3 x hx
    have := he k
    rw [k2] at this
    cases hf : f' k with
    | none => rw [hf] at this; exact this.elim
    | some m =>
      rw [hf] at this
      exact ⟨k, m, k1, hf, k3.eqv this⟩
  · have := he k
    rw [h4 k hk] at this
    cases hf : f' k with
    | none => rfl
    | some m => rw [hf] at this; exact this.elim
theorem lJ.eqv {w : World} {Z : Nat -> Prop} {es : Array MapEntry} {clock : Nat} {f f' : Int -> Int -> Option PT} (h : lJ w Z es clock f) (he : ∀ a b, P6 (f a b) (f' a b)) : lJ w Z es clock f' := by
  obtain ⟨h2, h3, h4⟩ := h
  refine ⟨h2, fun x hx => ?_, fun a b hk => ?_⟩
  · obtain ⟨a, b, y, k1, k2, k3⟩ := h3 x hx
    have := he a b
    rw [k2] at this
    cases hf : f' a b with
    | none => rw [hf] at this; exact this.elim
    | some m =>
      rw [hf] at this
      exact ⟨a, b, m, k1, hf, k3.eqv this⟩
  · have := he a b
    rw [h4 a b hk] at this
    cases hf : f' a b with
    | none => rfl
    | some m => rw [hf] at this; exact this.elim
def wkA (ok : Nat -> Prop) (x y : AV) : Prop := y = .any \/ (y = x /\ x.ok ok) \/ O1 x y
def ZK (ok : Nat -> Prop) (x y : CV) : Prop := y = .any \/ (x = y /\ y.ok ok) \/ OH x y
theorem iO.weak {ok : Nat -> Prop} {w : World} {J J' : Nat -> Option Nat} {Z : Nat -> Prop} {b : Nat} {cs0 cs : List CV} (G : Grow ok w J Z w J' Z) (hlen : min cs.length cs0.length = cs.length) (hne : cs ≠ []) (g : aU (ZK ok) (cs0.take cs.length) cs) (h : iO w J Z b cs0) : iO w J' Z b cs := by
  have one : ∀ {c0 : CV} {o : Obj}, w.heap[b]? = some o -> o.isCells = false -> cs0 = [c0] -> (∀ c, (c = .any \/ (c0 = c /\ c.ok ok) \/ OH c0 c) -> iO w J' Z b [c]) -> iO w J' Z b cs := fun {c0 o} h1 h2 e hk => by
    subst e
    match cs, hne, hlen, g with
    | [c], _, _, g => exact hk c g.1
    | _ :: _ :: _, _, hl, _ => simp at hl
  unfold iO at h
  split at h
  · obtain ⟨rfl, es, clock, h1, h0, h2⟩ := h
    refine one h1 rfl rfl fun c hc => ?_
    rcases hc with rfl | ⟨rfl, _⟩ | hc
    · exact iO.dead h1 rfl (by simp)
    · exact ⟨rfl, es, clock, h1, h0, h2⟩
    · cases c <;> first | exact hc.elim | skip
      obtain ⟨e, rfl, hc⟩ := hc
      rcases e with rfl | rfl
      · exact ⟨rfl, es, clock, h1, h0, h2.eqv hc⟩
      · exact ⟨rfl, es, clock, h1, (fun x hx => by cases hx), h2.eqv hc⟩
  · obtain ⟨rfl, es, clock, h1, h2⟩ := h
    refine one h1 rfl rfl fun c hc => ?_
    rcases hc with rfl | ⟨rfl, _⟩ | hc
    · exact iO.dead h1 rfl (by simp)
    · exact ⟨rfl, es, clock, h1, h2⟩
    · cases c <;> first | exact hc.elim | skip
      exact ⟨rfl, es, clock, h1, h2.eqv hc⟩
  · rename_i l r
    obtain ⟨rfl, es, clock, h1, h2, h3⟩ := h
    refine one h1 rfl rfl fun c hc => ?_
    rcases hc with rfl | ⟨rfl, ho⟩ | hc
    · exact iO.dead h1 rfl (by simp)
    · exact ⟨rfl, es, clock, h1, h2, aU.mono' (fun x y hy hr => ⟨hr.1, bQ.grow G (ho y hy) hr.2⟩) h3⟩
    · cases c <;> exact hc.elim
  · rename_i j x p q l
    obtain ⟨rfl, m, seen, es, clock, h1, h2, h3⟩ := h
    refine one h1 rfl rfl fun c hc => ?_
    rcases hc with rfl | ⟨rfl, ho⟩ | hc
    · exact iO.dead h1 rfl (by simp)
    · exact ⟨rfl, m, seen, es, clock, h1, G.ptr _ _ ho h2, h3⟩
    · cases c <;> exact hc.elim
  · rcases h with ⟨c, e, h1, h2⟩ | ⟨⟨o, h1, h2⟩, h3⟩
    · refine iO.of h1 ?_
      have k4 := h2.take cs.length
      rw [List.take_take, hlen] at k4
      refine aU.comp (fun x y z hx hy => ?_) k4 g
      rcases hy with rfl | ⟨rfl, ho⟩ | hy
      · exact bQ.one hx
      · exact bQ.grow G ho hx
      · exact Ga hy hx
    · refine iO.dead h1 h2 fun c hc => ?_
      have : ∀ {l m : List CV}, aU (ZK ok) l m -> (∀ x, x ∈ l -> x = .any) -> ∀ c, c ∈ m -> c = .any := fun {l m} => by
        induction l generalizing m with
        | nil => intro g _ c hc; cases m with
          | nil => cases hc
          | cons _ _ => exact g.elim
        | cons x l ih => intro g hl c hc; cases m with
          | nil => cases hc
          | cons y m =>
            rcases List.mem_cons.1 hc with rfl | hc
            · have hx := hl x (List.mem_cons_self ..)
              subst hx
              rcases g.1 with h | ⟨h, _⟩ | h
              · exact h
              · exact h.symm
              · cases c <;> exact h.elim
            · exact ih g.2 (fun x hx => hl x (List.mem_cons_of_mem _ hx)) c hc
      exact this g (fun x hx => h3 x (List.mem_of_mem_take hx)) c hc
theorem Rel.weak (R : Rel w0 Z0 J Z s a w) (hN : s'.N = s.N) (henv : ∀ t, wkA (fun i => (hget s'.heap i).isSome = true) (s.get t) (s'.get t))
    (hgh : ∀ f t, wkA (fun i => (hget s'.heap i).isSome = true) (gk s.gh f t) (gk s'.gh f t)) (hl : s'.lp = s.lp)
    (hheap : ∀ i cs, hget s'.heap i = some cs -> cs ≠ [] -> ∃ cs0, hget s.heap i = some cs0 /\ aU (ZK fun i => (hget s'.heap i).isSome = true) (cs0.take cs.length) cs) :
    Rel w0 Z0 (fun i => if (hget s'.heap i).isSome then J i else none) Z s' a w := by
  have G : Grow (fun i => (hget s'.heap i).isSome = true) w J Z w (fun i => if (hget s'.heap i).isSome then J i else none) Z :=
    ⟨fun i b h hj => by simp only [h, hj, if_true], fun _ h => h, fun _ _ _ => rfl, fun _ _ _ _ c _ _ h => ⟨c, h, rfl⟩, fun _ _ h _ => h⟩
  have sub : ∀ i b, (if (hget s'.heap i).isSome then J i else none) = some b -> J i = some b := fun i b h => by
    split at h
    · exact h
    · cases h
  refine ⟨R.nodef, hN ▸ R.size, R.below, R.zfrom, R.zlt, fun i b h => R.jlt i b (sub i b h), fun i j b hi hj => R.inj i j b (sub i b hi) (sub j b hj), fun i h => by simp [h], fun i cs h hne => ?_, fun t => ?_, fun f t => ?_, fun x hx => R.loops x (hl ▸ hx), by rw [hl]; exact R.lnd, by rw [hl]; exact R.ro, R.tab⟩
  · obtain ⟨cs0, g0, g1⟩ := hheap i cs h hne
    have hlen := g1.length
    rw [List.length_take] at hlen
    obtain ⟨b, k1, k2⟩ := R.blk i cs0 g0 (by rintro rfl; cases cs <;> simp at hlen hne)
    exact ⟨b, by simp [h, k1], k2.weak G hlen hne g1⟩
  · rcases henv t with h | ⟨h, ho⟩ | h
    · rw [h]; trivial
    · rw [h]; exact bD.grow G ho (R.slots t)
    · exact GD h (R.slots t)
  · rcases hgh f t with h | ⟨h, ho⟩ | h
    · rw [h]; trivial
    · rw [h]; exact bD.grow G ho (R.ghost f t)
    · exact GD h (R.ghost f t)
def LV.has (i : Nat) : LV -> Bool
  | .ptr j _ | .mp j => j == i
  | _ => false
def CV.has (i : Nat) : CV -> Bool
  | .slc j _ _ _ | .ptr j _ | .mp j | .it j => j == i
  | .fn _ a b => a.any (LV.has i) || b.any (LV.has i)
  | .ml l => l.any fun x => x.2.2.1.any (LV.has i) || x.2.2.2.any (LV.has i)
  | .mt j _ _ _ => j == i
  | _ => false
def TV.has (i : Nat) : TV -> Bool
  | .one c => c.has i
  | .agg cs => cs.any (CV.has i)
def AV.has (i : Nat) : AV -> Bool
  | .t x | .mb _ x => x.has i
  | .tup xs => xs.any (TV.has i)
  | .any => false
def CV.bW (i : Nat) (c : CV) : CV := bif c.has i then .any else c
def AV.bW (i : Nat) (c : AV) : AV := bif c.has i then .any else c
def qC (i : Nat) (env : List (Nat × AV)) : List (Nat × AV) := env.map fun p => (p.1, p.2.bW i)
def gN (i : Nat) (cs : List CV) : List CV := cs.map (CV.bW i)
def mQ (i : Nat) (h : List (Option (List CV))) : List (Option (List CV)) := h.map fun o => o.map (gN i)
theorem uJ (i : Nat) (t : Nat) : ∀ env : List (Nat × AV), lk (qC i env) t = (lk env t).bW i
  | [] => rfl
  | (k, v) :: r => by
    simp only [qC, List.map_cons, lk]
    split
    · rfl
    · exact uJ i t r
theorem lQ (i k : Nat) (h : List (Option (List CV))) : hget (mQ i h) k = (hget h k).map (gN i) := by
  simp only [hget, mQ, List.getElem?_map]
  cases h[k]? <;> rfl
theorem LV.jv {i : Nat} {c : LV} (h : c.has i = false) : c.ok (· ≠ i) := by
  cases c with
  | iv c => trivial
  | ptr j o => simp only [LV.has, beq_eq_false_iff_ne] at h; exact h
  | mp j => simp only [LV.has, beq_eq_false_iff_ne] at h; exact h
theorem CV.jv {i : Nat} {c : CV} (h : c.has i = false) : c.ok (· ≠ i) := by
  cases c with
  | slc j o n E => simp only [CV.has, beq_eq_false_iff_ne] at h; exact h
  | ptr j o => simp only [CV.has, beq_eq_false_iff_ne] at h; exact h
  | fn f a b =>
    simp only [CV.has, Bool.or_eq_false_iff, List.any_eq_false, Bool.not_eq_true] at h
    exact ⟨fun l hl => LV.jv (h.1 l hl), fun l hl => LV.jv (h.2 l hl)⟩
  | mp j => simp only [CV.has, beq_eq_false_iff_ne] at h; exact h
  | it j => simp only [CV.has, beq_eq_false_iff_ne] at h; exact h
  | mt j c p q => simp only [CV.has, beq_eq_false_iff_ne] at h; exact h
  | ml l =>
    simp only [CV.has, List.any_eq_false, Bool.not_eq_true, Bool.or_eq_false_iff] at h
    exact fun x hx => ⟨fun y hy => LV.jv ((h x hx).1 y hy), fun y hy => LV.jv ((h x hx).2 y hy)⟩
  | _ => trivial
theorem TV.jv {i : Nat} {c : TV} (h : c.has i = false) : c.ok (· ≠ i) := by
  cases c with
  | one c => exact CV.jv h
  | agg cs =>
    simp only [TV.has, List.any_eq_false, Bool.not_eq_true] at h
    exact fun l hl => CV.jv (h l hl)
theorem AV.jv {i : Nat} {c : AV} (h : c.has i = false) : c.ok (· ≠ i) := by
  cases c with
  | t x => exact TV.jv h
  | mb b x => exact TV.jv h
  | tup xs =>
    simp only [AV.has, List.any_eq_false, Bool.not_eq_true] at h
    exact fun l hl => TV.jv (h l hl)
  | any => trivial
theorem CV.vM (i : Nat) (c : CV) : (c.bW i).ok (· ≠ i) := by
  unfold CV.bW
  cases h : c.has i with
  | true => trivial
  | false => exact CV.jv h
theorem bQ.bW {w : World} {J : Nat -> Option Nat} {Z : Nat -> Prop} {v : Value} {c : CV} (i : Nat) (h : bQ w J Z v c) : bQ w J Z v (c.bW i) := by
  unfold CV.bW
  cases c.has i with
  | true => exact bQ.one h
  | false => exact h
theorem iO.bW {w : World} {J : Nat -> Option Nat} {Z : Nat -> Prop} {b : Nat} {cs : List CV} (i : Nat) (h : iO w J Z b cs) : iO w J Z b (gN i cs) := by
  unfold iO at h
  split at h
  · obtain ⟨rfl, h⟩ := h
    exact ⟨rfl, h⟩
  · obtain ⟨rfl, h⟩ := h
    exact ⟨rfl, h⟩
  · rename_i l r
    obtain ⟨rfl, es, clock, h1, h2⟩ := h
    simp only [gN, List.map_cons, List.map_nil, CV.bW]
    cases (CV.ml l).has i with
    | true => exact iO.dead h1 rfl (by simp)
    | false => exact ⟨rfl, es, clock, h1, h2⟩
  · rename_i j x p q l
    obtain ⟨rfl, m, seen, es, clock, h1, h2⟩ := h
    simp only [gN, List.map_cons, List.map_nil, CV.bW]
    cases (CV.mt j x p q).has i with
    | true => exact iO.dead h1 rfl (by simp)
    | false => exact ⟨rfl, m, seen, es, clock, h1, h2⟩
  · rcases h with ⟨c, e, h1, h2⟩ | ⟨⟨o, h1, h2⟩, h3⟩
    · refine iO.of h1 ?_
      rw [gN, List.length_map]
      exact aU.cO.2 (h2.mono fun _ y => bQ.bW i)
    · refine iO.dead h1 h2 fun c hc => ?_
      obtain ⟨c', hc', rfl⟩ := List.mem_map.1 hc
      rw [h3 c' hc']; rfl
theorem AV.Au (i : Nat) (c : AV) : c.bW i = .any \/ (c.bW i = c /\ c.ok (· ≠ i)) := by
  unfold AV.bW
  cases h : c.has i with
  | true => exact Or.inl rfl
  | false => exact Or.inr ⟨rfl, AV.jv h⟩
theorem AV.vM (i : Nat) (c : AV) : (c.bW i).ok (· ≠ i) := by
  rcases AV.Au i c with h | ⟨h, h'⟩
  · rw [h]; trivial
  · rw [h]; exact h'
def tq (i : Nat) (g : List (Nat × List (Nat × AV))) : List (Nat × List (Nat × AV)) := g.map fun p => (p.1, qC i p.2)
theorem Gt (i f : Nat) : ∀ g : List (Nat × List (Nat × AV)), gf (tq i g) f = qC i (gf g f)
  | [] => rfl
  | (k, v) :: r => by
    simp only [tq, List.map_cons, gf]
    split
    · rfl
    · exact Gt i f r
theorem Ip (i f t : Nat) (g : List (Nat × List (Nat × AV))) : gk (tq i g) f t = (gk g f t).bW i := by
  simp only [gk, Gt, uJ]
def AS.bW (i : Nat) (s : AS) : AS := { s with env := qC i s.env, gh := tq i s.gh, heap := mQ i s.heap }
theorem Rel.bW (R : Rel w0 Z0 J Z s a w) (i : Nat) : Rel w0 Z0 J Z (s.bW i) a w := by
  refine R.step (Grow.refl (fun _ => True) w J Z) (Below.refl _ _) R.zfrom R.zlt R.jlt R.inj rfl (fun k h => ?_) (fun k cs h hne => ?_) (fun t => ?_) (fun f t => ?_)
  · simp only [AS.bW, lQ, Option.map_eq_none_iff] at h; exact R.hole k h
  · simp only [AS.bW, lQ, Option.map_eq_some_iff] at h
    obtain ⟨cs0, h, rfl⟩ := h
    obtain ⟨b, g1, g2⟩ := R.blk k cs0 h (by rintro rfl; exact hne rfl)
    exact ⟨b, g1, g2.bW i⟩
  · simp only [AS.bW, AS.get, uJ]
    rcases AV.Au i (lk s.env t) with h | ⟨h, _⟩
    · exact Or.inl h
    · exact Or.inr ⟨h, AV.bM _⟩
  · simp only [AS.bW, Ip]
    rcases AV.Au i (gk s.gh f t) with h | ⟨h, _⟩
    · exact Or.inl h
    · exact Or.inr ⟨h, AV.bM _⟩
theorem Rel.move (R : Rel w0 Z0 J Z s a w) {i : Nat} {cs : List CV} {c : Array Value} {e : TypeId} {H : List (Option (List CV))} (hi : (hget s.heap i).isSome = true) (h1 : hget H i = some cs) (h2 : ∀ k, k ≠ i -> hget H k = hget s.heap k)
    (henv : ∀ t, (s.get t).ok (· ≠ i)) (hgh : ∀ f t, (gk s.gh f t).ok (· ≠ i)) (hcells : ∀ k x, hget H k = some x -> ∀ y, y ∈ x -> y.ok (· ≠ i)) (hc : aU (bQ w J Z) (c.toList.take cs.length) cs) : Rel w0 Z0 (gI J i w.heap.size) Z { s with heap := H } a (w.alloc (.cells c e)) := by
  have hsz : (w.alloc (.cells c e)).heap.size = w.heap.size + 1 := by simp
  have G : Grow (· ≠ i) w J Z (w.alloc (.cells c e)) (gI J i w.heap.size) Z := by
    refine ⟨fun k b hk h => by simp [gI, hk, h], fun _ h => h, fun b hz hb => Below.heap_alloc _ _ _ hb.lt, fun k b _ h c' e' f' hb => ⟨c', ?_, rfl⟩, fun b o hb _ => (Below.heap_alloc _ _ _ (Array.getElem?_eq_some_iff.1 hb).1).trans hb⟩
    rw [Below.heap_alloc _ _ _ (R.jlt k b h).2.1]; exact hb
  refine R.step G ((Below.refl _ _).alloc (R.below.size) _) R.zfrom (fun b h => by have := R.zlt b h; omega) (fun k b h => ?_) (fun k j b hk hj => ?_) rfl (fun k h => ?_) (fun k x h hne0 => ?_) (fun t => Or.inr ⟨rfl, henv t⟩) (fun f t => Or.inr ⟨rfl, hgh f t⟩)
  · unfold gI at h
    split at h
    · cases h; exact ⟨R.below.size, by omega, fun hz => by have := R.zlt _ hz; omega⟩
    · have := R.jlt k b h; exact ⟨this.1, by omega, this.2.2⟩
  · unfold gI at hk hj
    split at hk <;> split at hj
    · omega
    · cases hk; have := R.jlt j _ hj; omega
    · cases hj; have := R.jlt k _ hk; omega
    · exact R.inj k j b hk hj
  · have hne : k ≠ i := by rintro rfl; rw [h1] at h; cases h
    rw [show (({ s with heap := H } : AS).heap) = H from rfl, h2 k hne] at h
    simp only [gI, if_neg hne]
    exact R.hole k h
  · by_cases hk : k = i
    · subst hk
      have hx := hcells k x h
      simp only [h1, Option.some.injEq] at h
      subst h
      exact ⟨w.heap.size, by simp [gI], iO.of (heap_alloc_new w _) (hc.mono' fun _ y hy => bQ.grow G (hx y hy))⟩
    · have hx := hcells k x h
      simp only [h2 k hk] at h
      exact R.keep G h hne0 hk hx fun b g1 _ => Below.heap_alloc _ _ _ (R.jlt k b g1).2.1
end
end Go.Sea
