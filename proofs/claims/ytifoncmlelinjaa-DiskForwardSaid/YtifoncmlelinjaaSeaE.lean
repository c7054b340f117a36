/- One operation on an abstract state, and that it tells what the model does. -/
import Derived.Test.YtifoncmlelinjaaSeaY
import Derived.Laws.Cover3
set_option linter.unusedVariables false
set_option linter.unusedSimpArgs false
namespace Go.Sea
open Go.RowKit

def isB (x : AV) : Prop := x.nd ∧ (x.tv.bind TV.bool?).isSome = true
def toB (x : AV) : Bool := (x.tv.bind TV.bool?).getD false
/-- Where a part of a struct or an array lies, and its size. -/
def placeF (P : Program) (t : TypeId) (i : Nat) : Option (Nat × Nat) := match P.underlying t with
  | some (.struct fs) => match fs[i]? with
    | some f => match P.info? f.type with
      | some j => some (f.offset, j.size)
      | none => none
    | none => none
  | some (.array _ e) => match P.info? e with
    | some j => some (i * j.size, j.size)
    | none => none
  | _ => none
def fldD (P : Program) (t : TypeId) (f : Nat) : Option (Nat × Bool × Nat) := match P.underlying t with
  | some (.struct fs) => match fs[f]? with
    | some fd => match tyD P fd.type with
      | some (ag, n) => some (fd.offset, ag, n)
      | none => none
    | none => none
  | _ => none
/-- An array's length, and its elements' kind and size. -/
def ixD (P : Program) (t : TypeId) : Option (Nat × Bool × Nat) := match P.underlying t with
  | some (.array n e) => match tyD P e with
    | some (ag, m) => some (n, ag, m)
    | none => none
  | _ => none
def lenD (P : Program) (t : TypeId) : Option Bool := match P.underlying t with
  | some (.slice _) => some true
  | some .string => some false
  | _ => none
/-- All fields' types are in the table. -/
def fieldsOk (P : Program) (t : TypeId) : Bool := match P.underlying t with
  | some (.struct fs) => fs.toList.all fun f => (P.info? f.type).isSome
  | some (.array _ e) => (P.info? e).isSome
  | _ => false
def minmaxF (mx : Bool) (x y : TV) : Option AV := match x.int?, y.int? with
  | some (k, m), some (k', n) => some (iA k (bif mx then (if n > m then n else m) else (if n < m then n else m)))
  | _, _ => none
/-- A pointer that is read by value, as an address. -/
def TV.dp : TV → TV
  | .one (.iv (.ptr m c)) => .one (.ip m c)
  | x => x
theorem TRel.dp {w : World} {J : Nat → Option Nat} {Z : Nat → Prop} {v : Value} {x : TV} (h : TRel w J Z v x) : TRel w J Z v x.dp := by
  unfold TV.dp
  split
  · rename_i m c
    cases h with
    | ptr b off _ _ X hz h1 h2 => exact ⟨b, off, X, rfl, hz, fun o ho => ⟨h1 o ho, h2 o ho⟩⟩
  · exact h
def optI (ρ : Operand → AV) : Option Operand → Option (Prop × Option Int)
  | none => some (True, none)
  | some x => match (ρ x).tv.bind TV.int? with
    | some (_, n) => some ((ρ x).nd, some n)
    | none => none
/-- == of two bools. -/
def boD (P : Program) (t : TypeId) : Bool := match P.underlying t with
  | some .bool => true
  | _ => false
def boF (op : BinOp) (d u v : Bool) : Option Bool := match op, d with
  | .eql, true => some (u == v)
  | .neq, true => some (u != v)
  | _, _ => none
def cmpS : TV → TV → Bool
  | .agg _, .agg _ => true
  | .one (.iv (.g (.string _))), .one (.iv (.g (.string _))) => true
  | _, _ => false
/-- == and != of structs and strings. -/
def eqC (op : BinOp) (ks : List LK) (cs ds : List CV) : Option Bool := match op, gvs ks cs, gvs ks ds with
  | .eql, some xs, some ys => some (eqVs xs ys)
  | .neq, some xs, some ys => some (!eqVs xs ys)
  | _, _, _ => none
def eqF (op : BinOp) (ks : Bool × List LK) (u v : TV) : Option Bool := match ks, u, v with
  | (true, l), .agg cs, .agg ds => eqC op l cs ds
  | (false, l), .one c, .one d => eqC op l [c] [d]
  | _, _, _ => none
/-- A list that is not empty, beside nil. -/
def eqN (P : Program) (t : TypeId) (op : BinOp) : TV → TV → Option (Prop × Bool)
  | .one (.iv (.lst _ n _)), .one (.iv (.g (.slice none 0 0))) => match slD P t with
    | some _ => match op with
      | .eql => some (0 < n, false)
      | .neq => some (0 < n, true)
      | _ => none
    | none => none
  | _, _ => none
/-- Where a part of a slice with a third index begins (an empty part with no room keeps the address). -/
def offF (lo mx : Int) (off E : Nat) : Nat := if mx = lo then off else off + lo.toNat * E
def slice3F (e : Nat) (lo hi mx : Int) : TV → Option (Prop × AV)
  | .one (.iv (.lst E n f)) => if e = E then some (0 ≤ lo ∧ lo ≤ hi ∧ hi ≤ mx ∧ mx ≤ n, .t (.one (.iv (.lst E (hi - lo).toNat fun i o => f (lo.toNat + i) o)))) else none
  | .one (.slc i off n E) => if e = E then some (0 ≤ lo ∧ lo ≤ hi ∧ hi ≤ mx ∧ mx ≤ n, .t (.one (.slc i (offF lo mx off E) (hi - lo).toNat E))) else none
  | _ => none
def slArrF (H : Hp) (n E : Nat) (hi : Option Int) : TV → Option (Prop × AV)
  | .one (.ptr i o) => match H i with
    | some cs => some (0 ≤ hi.getD n ∧ hi.getD n ≤ n ∧ o + n * E ≤ cs.length ∧ 0 < n ∧ 0 < E ∧ n ≤ maxLen, .t (.one (.slc i o (hi.getD n).toNat E)))
    | none => none
  | _ => none
def copyF (H : Hp) (y : TV) : TV → Option (Prop × AV × Eff)
  | .one (.slc i off n E) => match H i, srcF 1 H y with
    | some cs, some (nd, m, ns) => if E = 1 then some (nd ∧ off + n ≤ cs.length, iA .i64 ((min m n : Nat) : Int), .set i (cs.take off ++ ns.take (min m n) ++ cs.drop (off + min m n))) else none
    | _, _ => none
  | _ => none
def clearF (H : Hp) (z : List CV) : TV → Option (Prop × AV × Eff)
  | .one (.iv (.lst _ 0 _)) => some (True, .any, .nop)
  | .one (.slc i off n E) => match H i with
    | some cs => if E = 1 then some (off + n ≤ cs.length, .any, .set i (cs.take off ++ repC z n ++ cs.drop (off + n))) else none
    | none => none
  | _ => none
def ncF : TV → Bool
  | .one (.ptr _ _) | .one (.ip _ _) | .one (.iv (.ptr _ _)) => true
  | _ => false
def toArrF (n E : Nat) : TV → Option (Prop × AV)
  | .one (.iv (.lst E' m f)) => if E = 1 ∧ E' = 1 then some (n ≤ m ∧ 0 < n, .t (.one (.ip n fun o => f o 0))) else none
  | _ => none
/-- More operations. -/
def op2F (P : Program) (nid : Nat) (ρ : Operand → AV) (H : Hp) (o : Oper) : Option (Prop × AV × Eff) :=
  match o.op with
  | .nilCheck x => match (ρ x).tv with
    | some v => match ncF v with
      | true => some ((ρ x).nd, .t v, .nop)
      | false => none
    | none => none
  | .makeSlice t l c => match slD P t, (ρ l).tv.bind TV.int?, (ρ c).tv.bind TV.int? with
    | some (E, b, e), some (_, m), some (_, n) => match zeroC P e with
      | some z => if m = n then some ((ρ l).nd ∧ (ρ c).nd ∧ 0 < n ∧ (b : Int) * n ≤ 281474976710656 ∧ n ≤ (maxLen : Int), .t (.one (.slc nid 0 n.toNat E)), .new (repC z n.toNat)) else none
      | none => none
    | _, _, _ => none
  | .slice t x lo hi mx => match (ρ x).tv, optI ρ lo, optI ρ hi, optI ρ mx with
    | some u, some (n1, l), some (n2, h), some (n3, m) => match h, m with
      | some h, some m => match slD P t with
        | some (E, _, _) => match slice3F E (l.getD 0) h m u with
          | some (nd, y) => some ((ρ x).nd ∧ n1 ∧ n2 ∧ n3 ∧ nd, y, .nop)
          | none => none
        | none => none
      | h, none => match l with
        | none => match arD P t with
          | some (n, E) => match slArrF H n E h u with
            | some (nd, y) => some ((ρ x).nd ∧ n1 ∧ n2 ∧ n3 ∧ nd, y, .nop)
            | none => none
          | none => none
        | some _ => none
      | none, some _ => none
    | _, _, _, _ => none
  | .sliceToArrayPointer t x => match arD P t, (ρ x).tv with
    | some (n, E), some u => match toArrF n E u with
      | some (nd, y) => some ((ρ x).nd ∧ nd, y, .nop)
      | none => none
    | _, _ => none
  | .call c => match c.callee with
    | .builtin .copy => match c.args.toList, c.argTypes.toList with
      | [x, y], [t, t'] => match slD P t, (ρ x).tv, (ρ y).tv with
        | some (1, _, _), some u, some v => match copyF H v u with
          | some (nd, r, ef) => some ((ρ x).nd ∧ (ρ y).nd ∧ nd, r, ef)
          | none => none
        | _, _, _ => none
      | _, _ => none
    | .builtin .clear => match c.args.toList, c.argTypes.toList with
      | [x], [t] => match slD P t, (ρ x).tv with
        | some (1, _, e), some u => match zeroC P e with
          | some z => match clearF H z u with
            | some (nd, r, ef) => some ((ρ x).nd ∧ nd, r, ef)
            | none => none
          | none => none
        | _, _ => none
      | _, _ => none
    | _ => none
  | _ => none
def opF (P : Program) (nid : Nat) (ρ : Operand → AV) (H : Hp) (o : Oper) : Option (Prop × AV × Eff) :=
  match o.op with
  | .move x => match ρ x with
    | .t y => some (True, .t y, .nop)
    | .tup xs => some (True, .tup xs, .nop)
    | .mb c y => some (c = true, .t y, .nop)
    | .any => some (True, .any, .nop)
  | .assign x => match ρ x with
    | .t y => some (True, .t y, .nop)
    | .tup xs => some (True, .tup xs, .nop)
    | .mb c y => some (c = true, .t y, .nop)
    | .any => some (True, .any, .nop)
  | .pick c x y => match (ρ c).tv.bind TV.bool? with
    | some cc => some ((ρ c).nd ∧ (cc = true → isB (ρ x)) ∧ (cc = false → isB (ρ y)), bA (bif cc then toB (ρ x) else toB (ρ y)), .nop)
    | none => none
  | .alloc t => match zeroC P t with
    | some cs => some (True, .t (.one (.ptr nid 0)), .new cs)
    | none => none
  | .box t x => match (ρ x).tv with
    | some v => some ((ρ x).nd, .t (.one (.ptr nid 0)), .new v.cells)
    | none => none
  | .build t ps => match fieldsOk P t, zeroC P t, partsF ρ ps.toList with
    | true, some z, some (nd, l) => match fillF (placeF P t) z l with
      | some cs => some (nd, .t (.agg cs), .nop)
      | none => none
    | _, _, _ => none
  | .buildSlice t n ps => match slD P t, partsF ρ ps.toList with
    | some (E, _, e), some (nd, l) => match zeroC P e with
      | some z => match fillF (fun i => some (i * E, E)) (repC z n) l with
        | some cs => if n * E ≤ 16777216 ∧ 0 < n then some (nd, .t (.one (.slc nid 0 n E)), .new cs) else (match n, l with
          | 0, [] => some (True, .t (.one (.slc nid 0 0 E)), .new [])
          | _, _ => none)
        | none => none
      | none => none
    | _, _ => none
  | .slice t x lo hi mx => match slD P t, (ρ x).tv, mx, optI ρ lo, optI ρ hi with
    | some (E, _, _), some u, none, some (n1, l), some (n2, h) => match sliceF E l h u with
      | some (nd, y) => some ((ρ x).nd ∧ n1 ∧ n2 ∧ nd, y, .nop)
      | none => none
    | _, _, _, _, _ => op2F P nid ρ H o
  | .field t x f => match fldD P t f, ρ x with
    | some (off, ag, n), .t (.agg cs) => some (off + n ≤ cs.length ∧ 0 < n, (bif ag then .t (.agg ((cs.drop off).take n)) else .t (.one (cs.getD off .any))), .nop)
    | _, _ => none
  | .load t x => match tyD P t, (ρ x).tv with
    | some (ag, n), some v => match loadF ag n H v.dp with
      | some (nd, y) => some ((ρ x).nd ∧ nd, y, .nop)
      | none => none
    | _, _ => none
  | .store t p x => match tyD P t, (ρ p).tv, (ρ x).tv with
    | some (_, n), some q, some v => match storeF n H v q.dp with
      | some (nd, y, ef) => some ((ρ p).nd ∧ (ρ x).nd ∧ nd, y, ef)
      | none => none
    | _, _, _ => none
  | .binOp op t x y _ => match (ρ x).tv.bind TV.int?, (ρ y).tv.bind TV.int? with
    | some (k, m), some (k', n) => match intF op k m n with
      | some (nd, v) => if k = k' then some ((ρ x).nd ∧ (ρ y).nd ∧ nd, v, .nop) else none
      | none => none
    | _, _ => match (ρ x).tv.bind TV.bool?, (ρ y).tv.bind TV.bool? with
      | some u, some v => match boF op (boD P t) u v with
        | some r => some ((ρ x).nd ∧ (ρ y).nd, bA r, .nop)
        | none => none
      | _, _ => match (ρ x).tv, (ρ y).tv with
        | some u, some v => match cmpS u v with
          | true => match eqD P t with
            | some ks => match eqF op ks u v with
              | some r => some ((ρ x).nd ∧ (ρ y).nd, bA r, .nop)
              | none => none
            | none => none
          | false => match eqN P t op u v with
            | some (nd, r) => some ((ρ x).nd ∧ (ρ y).nd ∧ nd, bA r, .nop)
            | none => none
        | _, _ => none
  | .unOp op _ x => match op, (ρ x).tv with
    | .not, some v => match v.bool? with
      | some b => some ((ρ x).nd, bA (!b), .nop)
      | none => none
    | .neg, some v => match v.int? with
      | some (k, n) => some ((ρ x).nd, iA k (k.wrap (0 - n)), .nop)
      | none => none
    | _, _ => none
  | .convert src dst x => match tyD P src, inD P dst, (ρ x).tv.bind TV.int? with
    | some _, some k, some (_, n) => some ((ρ x).nd, iA k (k.wrap n), .nop)
    | _, _, _ => none
  | .makeFunc f x y => match lvsF ρ x.toList, lvsF ρ y.toList with
    | some (nd, l), some (nd', l') => some (nd ∧ nd', .t (.one (.fn f l l')), .nop)
    | _, _ => none
  | .fieldAddr t x f => match offOf P t f, (ρ x).tv with
    | some off, some v => match fieldF off v.dp with
      | some (nd, y) => some ((ρ x).nd ∧ nd, y, .nop)
      | none => none
    | _, _ => none
  | .indexAddr t x ix => match (ρ x).tv, (ρ ix).tv.bind TV.int? with
    | some v, some (_, n) => match indexF (slD P t) (arD P t) n v.dp with
      | some (nd, y) => some ((ρ x).nd ∧ (ρ ix).nd ∧ nd, y, .nop)
      | none => none
    | _, _ => none
  | .index t x ix => match ixD P t, ρ x, (ρ ix).tv.bind TV.int? with
    | some (n, ag, m), .t (.agg cs), some (_, i) => some ((ρ ix).nd ∧ (0 ≤ i ∧ i < (n : Int)) ∧ i.toNat * m + m ≤ cs.length ∧ 0 < m, (bif ag then .t (.agg ((cs.drop (i.toNat * m)).take m)) else .t (.one (cs.getD (i.toNat * m) .any))), .nop)
    | _, _, _ => none
  | .extract x k => match ρ x with
    | .tup xs => match xs[k]? with
      | some y => some (True, .t y, .nop)
      | none => none
    | _ => none
  | .call c => match c.callee with
    | .builtin .len => match c.args.toList, c.argTypes.toList with
      | [x], [t] => match lenD P t, (ρ x).tv with
        | some sl, some u => match lenF sl u with
          | some v => some ((ρ x).nd, v, .nop)
          | none => none
        | _, _ => none
      | _, _ => none
    | .builtin .append => match c.args.toList, c.argTypes.toList with
      | [x, y], [t, t'] => match slD P t, (ρ x).tv, (ρ y).tv with
        | some (n, b, _), some u, some v => match appF nid n b H v u with
          | some (nd, r, ef) => if t = t' then some ((ρ x).nd ∧ (ρ y).nd ∧ nd, r, ef) else none
          | none => none
        | _, _, _ => none
      | _, _ => none
    | .builtin .max => match c.args.toList with
      | [x, y] => match (ρ x).tv, (ρ y).tv with
        | some u, some v => match minmaxF true u v with
          | some r => some ((ρ x).nd ∧ (ρ y).nd, r, .nop)
          | none => none
        | _, _ => none
      | _ => none
    | .builtin .min => match c.args.toList with
      | [x, y] => match (ρ x).tv, (ρ y).tv with
        | some u, some v => match minmaxF false u v with
          | some r => some ((ρ x).nd ∧ (ρ y).nd, r, .nop)
          | none => none
        | _, _ => none
      | _ => none
    | _ => op2F P nid ρ H o
  | _ => op2F P nid ρ H o

/-- What the model does at an operation, in the words of the abstract state. -/
def Does (P : Program) (w0 : World) (Z0 : Fr) (Z : Nat → Prop) (s : AS) (a : Act) (w : World) (nid : Nat) (o : Oper) (v : AV) (ef : Eff) : Prop :=
  ∃ J' w' u, ((execOp a.eval o).run P w = .ok (.value u) w' ∨ ((execOp a.eval o).run P w = .ok .skip w' ∧ u = undef)) ∧ Rel w0 Z0 J' Z (s.eff nid ef) a w' ∧ ARel w' J' Z u v

section
variable {w0 : World} {Z0 : Fr} {J J' : Nat → Option Nat} {Z Z' : Nat → Prop} {s s' : AS} {a : Act} {w w' : World} {P : Program} {o : Oper} {nid : Nat} {v : AV} {ef : Eff}
theorem does_val (R : Rel w0 Z0 J Z s a w) {u : Value} (h : (execOp a.eval o).run P w = .ok (.value u) w) (hr : ARel w J Z u v) : Does P w0 Z0 Z s a w nid o v .nop := ⟨J, w, u, Or.inl h, R, hr⟩
theorem tv_of_bind {β : Type} {x : AV} {f : TV → Option β} {y : β} (h : x.tv.bind f = some y) : ∃ t, x.tv = some t ∧ f t = some y := by
  cases hx : x.tv with
  | none => rw [hx] at h; cases h
  | some t => exact ⟨t, rfl, by rw [hx] at h; exact h⟩

theorem does_move (R : Rel w0 Z0 J Z s a w) {x : Operand} {nd : Prop} (ho : o.op = .move x ∨ o.op = .assign x) (h : (match s.ev x with
    | .t y => some (True, AV.t y, Eff.nop)
    | .tup xs => some (True, .tup xs, .nop)
    | .mb c y => some (c = true, .t y, .nop)
    | .any => some (True, .any, .nop)) = some (nd, v, ef)) (hn : nd) : Does P w0 Z0 Z s a w nid o v ef := by
  have hx := R.ev x
  have hrun : (execOp a.eval o).run P w = .ok (.value (a.eval x)) w := by
    rcases ho with ho | ho <;> simp [execOp, ho]
  split at h <;> rename_i e <;> rw [e] at hx <;> simp only [Option.some.injEq, Prod.mk.injEq] at h <;> obtain ⟨rfl, rfl, rfl⟩ := h
  · exact does_val R hrun hx
  · exact does_val R hrun hx
  · exact does_val R hrun (hx.1 hn)
  · exact does_val R hrun trivial

theorem isB_rel (R : Rel w0 Z0 J Z s a w) {x : Operand} (h : isB (s.ev x)) : a.eval x = .bool (toB (s.ev x)) := by
  obtain ⟨h1, h2⟩ := h
  obtain ⟨b, hb⟩ := Option.isSome_iff_exists.1 h2
  obtain ⟨t, ht, hb'⟩ := tv_of_bind hb
  have := (ARel.tv (R.ev x) ht h1).bool hb'
  rw [this, toB, hb]; rfl

theorem does_pick (R : Rel w0 Z0 J Z s a w) {c x y : Operand} (ho : o.op = .pick c x y) {cc : Bool} (hc : (s.ev c).tv.bind TV.bool? = some cc) (h1 : (s.ev c).nd) (h2 : cc = true → isB (s.ev x)) (h3 : cc = false → isB (s.ev y)) :
    Does P w0 Z0 Z s a w nid o (bA (bif cc then toB (s.ev x) else toB (s.ev y))) .nop := by
  obtain ⟨t, ht, hb'⟩ := tv_of_bind hc
  have hcc := (ARel.tv (R.ev c) ht h1).bool hb'
  have hrun : (execOp a.eval o).run P w = .ok (.value (if cc = true then a.eval x else a.eval y)) w := by
    simp [execOp, ho, hcc, asBool]
  refine does_val R hrun ?_
  cases cc with
  | true => rw [if_pos rfl, isB_rel R (h2 rfl)]; exact Rd.g _ rfl
  | false => rw [if_neg (by simp), isB_rel R (h3 rfl)]; exact Rd.g _ rfl

theorem zeroC_spec {t : TypeId} {cs : List CV} (h : zeroC P t = some cs) : ∃ i z, P.info? t = some i ∧ i.zero = some z ∧ cs = z.cells.toList.map (fun v => .iv (.g v)) ∧ (∀ v ∈ z.cells.toList, v.oneCell' = true) := by
  unfold zeroC at h
  split at h
  · rename_i i h1
    split at h
    · rename_i z h2
      split at h
      · rename_i h3
        cases h
        refine ⟨i, z, h1, h2, rfl, fun v hv => ?_⟩
        rw [Array.all_eq_true'] at h3
        exact h3 v (by simpa using hv)
      · cases h
    · cases h
  · cases h
theorem take_len {α : Type} (l : List α) (n : Nat) (h : l.length = n) : l.take n = l := List.take_of_length_le (by omega)
theorem does_new (R : Rel w0 Z0 J Z s a w) (hh : hget s.heap nid = none) {cs : List CV} {C : Array Value} {e : TypeId} {av : AV} {u : Value} (hrun : (execOp a.eval o).run P w = .ok (.value u) (w.alloc (.cells C e)))
    (hC : All2 (CRel w J Z) C.toList cs) (hu : ∀ (w' : World) (J' : Nat → Option Nat), J' nid = some w.heap.size → w'.heap[w.heap.size]? = some (.cells C e (0, 0)) → ARel w' J' Z u av) : Does P w0 Z0 Z s a w nid o av (.new cs) := by
  refine ⟨jset J nid w.heap.size, _, u, Or.inl hrun, R.new hh (hget_hset_same _ _ _) (fun q hq => hget_hset_ne _ _ _ _ hq) ?_, hu _ _ (by simp [jset]) (heap_alloc_new w _)⟩
  rw [take_len _ _ hC.length]; exact hC
theorem does_alloc (R : Rel w0 Z0 J Z s a w) (hh : hget s.heap nid = none) {t : TypeId} (ho : o.op = .alloc t) {cs : List CV} (hz : zeroC P t = some cs) : Does P w0 Z0 Z s a w nid o (.t (.one (.ptr nid 0))) (.new cs) := by
  obtain ⟨i, z, h1, h2, rfl, h3⟩ := zeroC_spec hz
  have hrun : (execOp a.eval o).run P w = .ok (.value (.pointer (some ⟨w.heap.size, 0, none⟩))) (w.alloc (.cells z.cells t)) := by
    simp [execOp, ho, Instr.alloc, zeroValue, typeInfo, h1, h2, newVar, newRow]
  exact does_new R hh hrun (all2_g _ h3) fun w' J' hj _ => ⟨_, rfl, hj⟩
theorem does_box (R : Rel w0 Z0 J Z s a w) (hh : hget s.heap nid = none) {t : TypeId} {x : Operand} (ho : o.op = .box t x) {y : TV} (hx : (s.ev x).tv = some y) (hn : (s.ev x).nd) : Does P w0 Z0 Z s a w nid o (.t (.one (.ptr nid 0))) (.new y.cells) := by
  have h := ARel.tv (R.ev x) hx hn
  have hrun : (execOp a.eval o).run P w = .ok (.value (.pointer (some ⟨w.heap.size, 0, none⟩))) (w.alloc (.cells (a.eval x).cells t)) := by
    simp [execOp, ho, Instr.box, newVar, newRow]
  exact does_new R hh hrun (TRel.cells h) fun w' J' hj _ => ⟨_, rfl, hj⟩
theorem does_int (R : Rel w0 Z0 J Z s a w) {op : BinOp} {t t' : TypeId} {x y : Operand} (ho : o.op = .binOp op t x y t') {k : IntKind} {m n : Int} {nd : Prop} (hx : a.eval x = .int k m) (hy : a.eval y = .int k n) (h : intF op k m n = some (nd, v)) (hn : nd) :
    Does P w0 Z0 Z s a w nid o v .nop := by
  have hg : ∀ A B : Value, A = .int k m → B = .int k n → (eqGuard op t x y A B).run P w = .ok () w := by
    rintro _ _ rfl rfl
    unfold eqGuard
    split <;> simp [Pure.pure, Sem.run]
  have key : ∀ u : Value, (binOp op t (.int k m) (.int k n)).run P w = .ok u w → ARel w J Z u v → Does P w0 Z0 Z s a w nid o v .nop := fun u hu hr => by
    refine does_val R (u := u) ?_ hr
    simp only [execOp, ho, hx, hy, Sem.run_bind, hg _ _ rfl rfl, Result.andThen_ok, hu, Sem.run_pure]
  unfold intF at h
  split at h <;> simp only [Option.some.injEq, Prod.mk.injEq, reduceCtorEq] at h <;> obtain ⟨rfl, rfl⟩ := h
  · exact key _ (by simp [binOp, Op.intArith]) (Rd.g _ rfl)
  · exact key _ (by simp [binOp, Op.intArith]) (Rd.g _ rfl)
  · exact key _ (by simp [binOp, Op.intArith]) (Rd.g _ rfl)
  · exact key _ (by simp [binOp, Op.intDiv, hn]) (Rd.g _ rfl)
  · exact key _ (by simp [binOp, Op.intDiv, hn]) (Rd.g _ rfl)
  · exact key _ (by simp [binOp, Op.intCmp]) (Rd.g _ rfl)
  · exact key _ (by simp [binOp, Op.intCmp]) (Rd.g _ rfl)
  · exact key _ (by simp [binOp, Op.intCmp]) (Rd.g _ rfl)
  · exact key _ (by simp [binOp, Op.intCmp]) (Rd.g _ rfl)
  · exact key _ (by simp [binOp, Op.intCmp]) (Rd.g _ rfl)
  · exact key _ (by simp [binOp, Op.intCmp]) (Rd.g _ rfl)
  · exact key _ (by simp [binOp, Op.shift, Int.not_lt.2 hn]) (Rd.g _ rfl)
  · exact key _ (by simp [binOp, Op.shift, Int.not_lt.2 hn]) (Rd.g _ rfl)
theorem does_bool (R : Rel w0 Z0 J Z s a w) {op : BinOp} {t t' : TypeId} {x y : Operand} (ho : o.op = .binOp op t x y t') {u v' r : Bool} (hx : a.eval x = .bool u) (hy : a.eval y = .bool v') (h : boF op (boD P t) u v' = some r) :
    Does P w0 Z0 Z s a w nid o (bA r) .nop := by
  unfold boF at h
  split at h
  · rename_i hd
    cases h
    have ht : P.underlying t = some .bool := by
      unfold boD at hd; split at hd
      · assumption
      · cases hd
    refine does_val R (u := .bool (u == v')) ?_ (Rd.g _ rfl)
    have e : (eqGuard .eql t x y (.bool u) (.bool v')).run P w = .ok () w := by
      unfold eqGuard
      split <;> simp [Pure.pure, Sem.run]
    have q : (Op.equal t (.bool u) (.bool v')).run P w = .ok (u == v') w := run_equalIn_bool' w 9999 t u v' ht
    simp only [execOp, ho, hx, hy, Sem.run_bind, e, Result.andThen_ok, binOp, q, Sem.run_pure]
  · rename_i hd
    cases h
    have ht : P.underlying t = some .bool := by
      unfold boD at hd; split at hd
      · assumption
      · cases hd
    refine does_val R (u := .bool (u != v')) ?_ (Rd.g _ rfl)
    have e : (eqGuard .neq t x y (.bool u) (.bool v')).run P w = .ok () w := by
      unfold eqGuard
      split <;> simp [Pure.pure, Sem.run]
    have q : (Op.equal t (.bool u) (.bool v')).run P w = .ok (u == v') w := run_equalIn_bool' w 9999 t u v' ht
    simp only [execOp, ho, hx, hy, Sem.run_bind, e, Result.andThen_ok, binOp, q, Sem.run_pure]
    rfl
  · cases h
theorem does_eqN (R : Rel w0 Z0 J Z s a w) {op : BinOp} {t t' : TypeId} {x y : Operand} (ho : o.op = .binOp op t x y t') {u v' : TV} {r : Bool} {nd : Prop} (hx : TRel w J Z (a.eval x) u) (hy : TRel w J Z (a.eval y) v') (h : eqN P t op u v' = some (nd, r)) (hn : nd) :
    Does P w0 Z0 Z s a w nid o (bA r) .nop := by
  unfold eqN at h
  split at h
  · rename_i E n f
    split at h
    · rename_i sd hs
      obtain ⟨e0, ht⟩ : ∃ e0, P.underlying t = some (.slice e0) := by
        unfold slD at hs
        split at hs
        · rename_i e0 hu; exact ⟨e0, hu⟩
        · cases hs
      have hy' : a.eval y = .slice none 0 0 := by
        have hy2 : Rd w Z (a.eval y) (.g (.slice none 0 0)) := hy
        generalize a.eval y = uy at hy2 ⊢
        cases hy2; rfl
      have hx' : 0 < n → ∃ p cap, a.eval x = .slice (some p) n cap := fun h0 => by
        revert hx
        intro hx
        have hx : Rd w Z (a.eval x) (.lst E n f) := hx
        generalize a.eval x = ux at hx ⊢
        cases hx with
        | nil => exact absurd h0 (Nat.lt_irrefl 0)
        | lst => exact ⟨_, _, rfl⟩
      have main : ∀ op', (op' = .eql ∨ op' = .neq) → 0 < n → o.op = .binOp op' t x y t' → Does P w0 Z0 Z s a w nid o (bA (op' matches .neq)) .nop := fun op' h2 h0 ho' => by
        obtain ⟨p, cap, hxx⟩ := hx' h0
        have q : (Op.equal t (.slice (some p) n cap) (.slice none 0 0)).run P w = .ok false w := run_equal_slice_nil w t e0 (some p) n cap ht
        rcases h2 with rfl | rfl
        · refine does_val R (u := .bool false) ?_ (Rd.g _ rfl)
          have e : (eqGuard .eql t x y (.slice (some p) n cap) (.slice none 0 0)).run P w = .ok () w := by
            unfold eqGuard
            split <;> simp [Pure.pure, Sem.run]
          simp only [execOp, ho', hxx, hy', Sem.run_bind, e, Result.andThen_ok, binOp, q, Sem.run_pure]
        · refine does_val R (u := .bool true) ?_ (Rd.g _ rfl)
          have e : (eqGuard .neq t x y (.slice (some p) n cap) (.slice none 0 0)).run P w = .ok () w := by
            unfold eqGuard
            split <;> simp [Pure.pure, Sem.run]
          simp only [execOp, ho', hxx, hy', Sem.run_bind, e, Result.andThen_ok, binOp, q, Sem.run_pure]
          rfl
      split at h
      · cases h
        exact main .eql (Or.inl rfl) hn ho
      · cases h
        exact main .neq (Or.inr rfl) hn ho
      · cases h
    · cases h
  · cases h
theorem does_eq (R : Rel w0 Z0 J Z s a w) {op : BinOp} {t t' : TypeId} {x y : Operand} (ho : o.op = .binOp op t x y t') {u v' : TV} {r : Bool} {ks : Bool × List LK} (hd : eqD P t = some ks) (hx : TRel w J Z (a.eval x) u) (hy : TRel w J Z (a.eval y) v') (h : eqF op ks u v' = some r) :
    Does P w0 Z0 Z s a w nid o (bA r) .nop := by
  unfold eqF at h
  split at h
  · rename_i l cs ds
    obtain ⟨A, eA, hA⟩ := hx
    obtain ⟨B, eB, hB⟩ := hy
    unfold eqD at hd
    split at hd
    · rename_i fs hu
      split at hd
      · rename_i hg
        split at hd
        · rename_i ks' hk
          cases hd
          have key : ∀ xs ys, gvs l cs = some xs → gvs l ds = some ys → (Op.equalIn 10000 t (.agg A) (.agg B)).run P w = .ok (eqVs xs ys) w := fun xs ys h1 h2 => by
            obtain ⟨a1, a2⟩ := gvs_spec (w := w) (J := J) (Z := Z) h1
            obtain ⟨b1, b2⟩ := gvs_spec (w := w) (J := J) (Z := Z) h2
            have q := eq_leaf 8 9992 t l hk xs ys a1 b1 w
            have e1 : packV P t xs = .agg A := by unfold packV; rw [hu, ← a2 _ hA]
            have e2 : packV P t ys = .agg B := by unfold packV; rw [hu, ← b2 _ hB]
            rw [e1, e2] at q
            exact q
          unfold eqC at h
          split at h
          · rename_i xs ys h1 h2
            cases h
            refine does_val R (u := .bool (eqVs xs ys)) ?_ (Rd.g _ rfl)
            simp only [execOp, ho, eA, eB, Sem.run_bind, run_eqGuard_agg w _ t x y A B hg, Result.andThen_ok, run_eql_struct, key xs ys h1 h2, Sem.run_pure]
          · rename_i xs ys h1 h2
            cases h
            refine does_val R (u := .bool (!eqVs xs ys)) ?_ (Rd.g _ rfl)
            simp only [execOp, ho, eA, eB, Sem.run_bind, run_eqGuard_agg w _ t x y A B hg, Result.andThen_ok, run_neq_struct, key xs ys h1 h2, Sem.run_pure]
          · cases h
        · cases hd
      · cases hd
    · cases hd
    · cases hd
  · rename_i l c d
    unfold eqD at hd
    split at hd
    · split at hd
      · split at hd <;> cases hd
      · cases hd
    · rename_i hu
      cases hd
      have one : ∀ (b : CV) (l : List Value) (v : Value), gvs [.str] [b] = some l → CRel w J Z v b → ∃ z, v = .string z ∧ l = [.string z] := fun b l v h1 hv => by
        obtain ⟨a1, a2⟩ := gvs_spec (w := w) (J := J) (Z := Z) h1
        have := a2 [v] ⟨hv, trivial⟩
        subst this
        cases v <;> simp [All2, LK.ok] at a1
        exact ⟨_, rfl, rfl⟩
      unfold eqC at h
      split at h
      · rename_i xs ys h1 h2
        cases h
        obtain ⟨z1, e1, rfl⟩ := one c xs _ h1 hx
        obtain ⟨z2, e2, rfl⟩ := one d ys _ h2 hy
        refine does_val R (u := .bool (eqVs [.string z1] [.string z2])) ?_ (Rd.g _ rfl)
        have e : (eqGuard .eql t x y (.string z1) (.string z2)).run P w = .ok () w := by
          unfold eqGuard
          split <;> simp [Pure.pure, Sem.run]
        simp only [execOp, ho, e1, e2, Sem.run_bind, e, Result.andThen_ok, binOp, eqVs, eqV, Bool.and_true]
        simp [Op.stringOp, ← beq_toListBytes, bne]
      · rename_i xs ys h1 h2
        cases h
        obtain ⟨z1, e1, rfl⟩ := one c xs _ h1 hx
        obtain ⟨z2, e2, rfl⟩ := one d ys _ h2 hy
        refine does_val R (u := .bool (!eqVs [.string z1] [.string z2])) ?_ (Rd.g _ rfl)
        have e : (eqGuard .neq t x y (.string z1) (.string z2)).run P w = .ok () w := by
          unfold eqGuard
          split <;> simp [Pure.pure, Sem.run]
        simp only [execOp, ho, e1, e2, Sem.run_bind, e, Result.andThen_ok, binOp, eqVs, eqV, Bool.and_true]
        simp [Op.stringOp, ← beq_toListBytes, bne]
      · cases h
    · cases hd
  · cases h
theorem does_field (R : Rel w0 Z0 J Z s a w) {t : TypeId} {x : Operand} {f off : Nat} (ho : o.op = .fieldAddr t x f) (hf : offOf P t f = some off) {y : TV} (hx : TRel w J Z (a.eval x) y) {nd : Prop} (h : fieldF off y = some (nd, v)) (hn : nd) : Does P w0 Z0 Z s a w nid o v .nop := by
  obtain ⟨fs, fd, i, h1, h2, h3, h4, h5⟩ := offOf_spec hf
  subst h5
  have hrun : ∀ b k, a.eval x = .pointer (some ⟨b, k, none⟩) → (execOp a.eval o).run P w = .ok (.value (.pointer (some ⟨b, k + fd.offset, none⟩))) w := fun b k hb => by
    simp [execOp, ho, hb, Instr.fieldAt, run_underlying h1, h2, Instr.sureAddr, fieldPlace, run_size h3, h4, Addr.add_lit]
  unfold fieldF at h
  split at h
  · rename_i m c
    simp only [Option.some.injEq, Prod.mk.injEq] at h
    obtain ⟨rfl, rfl⟩ := h
    obtain ⟨b, k, X, e, hz, hX⟩ := hx
    refine does_val R (hrun b k e) ⟨b, k + fd.offset, fun q => X (fd.offset + q), rfl, hz, fun q hq => ?_⟩
    have := hX (fd.offset + q) (by omega)
    rw [Nat.add_assoc]; exact this
  · rename_i i' o'
    simp only [Option.some.injEq, Prod.mk.injEq] at h
    obtain ⟨rfl, rfl⟩ := h
    obtain ⟨b, e, hj⟩ := hx
    exact does_val R (hrun b o' e) ⟨b, rfl, hj⟩
  · cases h
theorem does_index (R : Rel w0 Z0 J Z s a w) {t : TypeId} {x ix : Operand} (ho : o.op = .indexAddr t x ix) {k : IntKind} {n : Int} (hi : a.eval ix = .int k n) {y : TV} (hx : TRel w J Z (a.eval x) y) {nd : Prop} (h : indexF (slD P t) (arD P t) n y = some (nd, v)) (hn : nd) : Does P w0 Z0 Z s a w nid o v .nop := by
  unfold indexF at h
  split at h
  · rename_i E len f
    split at h
    · rename_i e b et hsl
      split at h
      · rename_i hE
        subst hE
        simp only [Option.some.injEq, Prod.mk.injEq] at h
        obtain ⟨rfl, rfl⟩ := h
        obtain ⟨i, z, t1, t2, t3, t4, t5, t6, t7⟩ := slD_spec hsl
        subst t5
        generalize hv : a.eval x = vx at hx
        obtain ⟨h0, h1⟩ := hn
        cases hx with
        | nil => omega
        | lst b off m cap _ _ X hz hnc hm g1 g2 =>
          have hrun : (execOp a.eval o).run P w = .ok (.value (.pointer (some ⟨b, off + n.toNat * i.size, none⟩))) w := by
            simp [execOp, ho, hv, hi, Instr.indexAt, asIntOf, run_underlying t1, h0, h1, run_size t2, Addr.add_lit]
          refine does_val R hrun ⟨b, _, fun q => X n.toNat q, rfl, hz, fun q hq => ⟨g1 _ _ (by omega) hq, g2 _ _ (by omega) hq⟩⟩
      · cases h
    · cases h
  · rename_i j off len E
    split at h
    · rename_i e b et hsl
      split at h
      · rename_i hE
        subst hE
        simp only [Option.some.injEq, Prod.mk.injEq] at h
        obtain ⟨rfl, rfl⟩ := h
        obtain ⟨i, z, t1, t2, t3, t4, t5, t6, t7⟩ := slD_spec hsl
        subst t5
        obtain ⟨h0, h1⟩ := hn
        rcases hx with ⟨rfl, _⟩ | ⟨b, cap, c, e, hv, hj, _⟩
        · omega
        have hrun : (execOp a.eval o).run P w = .ok (.value (.pointer (some ⟨b, off + n.toNat * i.size, none⟩))) w := by
          simp [execOp, ho, hv, hi, Instr.indexAt, asIntOf, run_underlying t1, h0, h1, run_size t2, Addr.add_lit]
        exact does_val R hrun ⟨b, rfl, hj⟩
      · cases h
    · cases h
  · rename_i j o'
    split at h
    · rename_i len e har
      simp only [Option.some.injEq, Prod.mk.injEq] at h
      obtain ⟨rfl, rfl⟩ := h
      obtain ⟨et, i, t1, t2, t3⟩ := arD_spec har
      subst t3
      obtain ⟨b, hv, hj⟩ := hx
      obtain ⟨h0, h1⟩ := hn
      have hrun : (execOp a.eval o).run P w = .ok (.value (.pointer (some ⟨b, o' + n.toNat * i.size, none⟩))) w := by
        simp [execOp, ho, hv, hi, Instr.indexAt, asIntOf, run_underlying t1, h0, h1, run_size t2, Addr.add_lit, Instr.sureAddr]
      exact does_val R hrun ⟨b, rfl, hj⟩
    · cases h
  · rename_i m c
    split at h
    · rename_i len e har
      simp only [Option.some.injEq, Prod.mk.injEq] at h
      obtain ⟨rfl, rfl⟩ := h
      obtain ⟨et, i, t1, t2, t3⟩ := arD_spec har
      subst t3
      obtain ⟨b, off, X, hv, hz, hX⟩ := hx
      obtain ⟨h0, h1⟩ := hn
      have hrun : (execOp a.eval o).run P w = .ok (.value (.pointer (some ⟨b, off + n.toNat * i.size, none⟩))) w := by
        simp [execOp, ho, hv, hi, Instr.indexAt, asIntOf, run_underlying t1, h0, h1, run_size t2, Addr.add_lit, Instr.sureAddr]
      refine does_val R hrun ⟨b, _, fun q => X (n.toNat * i.size + q), rfl, hz, fun q hq => ?_⟩
      have := hX (n.toNat * i.size + q) (by omega)
      rw [Nat.add_assoc]; exact this
    · cases h
  · cases h
theorem does_len (R : Rel w0 Z0 J Z s a w) {c : Call} (ho : o.op = .call c) (hc : c.callee = .builtin .len) {x : Operand} {t : TypeId} (ha : c.args.toList = [x]) (ht : c.argTypes.toList = [t]) {y : TV} (hx : TRel w J Z (a.eval x) y) {sl : Bool} (hd : lenD P t = some sl) (h : lenF sl y = some v) : Does P w0 Z0 Z s a w nid o v .nop := by
  have ea : c.args = #[x] := by rw [← Array.toArray_toList (xs := c.args), ha]
  have et : c.argTypes = #[t] := by rw [← Array.toArray_toList (xs := c.argTypes), ht]
  have hgo : ∀ n : Int, (Builtin.len_ #[t] o.type #[a.eval x]).run P w = .ok (.int .i64 n) w → ARel w J Z (.int .i64 n) v → Does P w0 Z0 Z s a w nid o v .nop := fun n hn hr => by
    refine does_val R (u := .int .i64 n) ?_ hr
    simp [execOp, ho, resolve, hc, invoke, builtin, ea, et, hn]
  unfold lenD at hd
  split at hd
  · rename_i e hu
    cases hd
    unfold lenF at h
    split at h
    · cases h
      generalize hv : a.eval x = vx at hx hgo
      cases hx with
      | nil => exact hgo _ (by simp [Builtin.len_, run_underlying hu, goInt]) (Rd.g _ rfl)
      | lst => exact hgo _ (by simp [Builtin.len_, run_underlying hu, goInt]) (Rd.g _ rfl)
    · cases h
      rcases hx with ⟨rfl, hv⟩ | ⟨b, cap, c', e', hv, _⟩
      · rw [hv] at hgo
        exact hgo _ (by simp [Builtin.len_, run_underlying hu, goInt]) (Rd.g _ rfl)
      rw [hv] at hgo
      exact hgo _ (by simp [Builtin.len_, run_underlying hu, goInt]) (Rd.g _ rfl)
    · cases h
      generalize hv : a.eval x = vx at hx hgo
      cases hx
      exact hgo _ (by simp [Builtin.len_, run_underlying hu, goInt]) (Rd.g _ rfl)
    · cases h
    · cases h
  · rename_i hu
    cases hd
    unfold lenF at h
    split at h
    · cases h
    · cases h
    · cases h
    · cases h
      generalize hv : a.eval x = vx at hx hgo
      cases hx
      exact hgo _ (by simp [Builtin.len_, run_underlying hu, goInt]) (Rd.g _ rfl)
    · cases h
  · cases hd
theorem lvs_rel (R : Rel w0 Z0 J Z s a w) : ∀ {l : List Operand} {nd : Prop} {m : List LV}, lvsF s.ev l = some (nd, m) → nd → All2 (LRel w J Z) (l.map a.eval) m
  | [], _, _, h, _ => by simp only [lvsF, Option.some.injEq, Prod.mk.injEq] at h; obtain ⟨rfl, rfl⟩ := h; trivial
  | x :: l, _, _, h, hn => by
    unfold lvsF at h
    split at h
    · rename_i u nd' m' h1 h2
      simp only [Option.some.injEq, Prod.mk.injEq] at h
      obtain ⟨rfl, rfl⟩ := h
      obtain ⟨t, ht, hu⟩ := tv_of_bind h1
      have hx := ARel.tv (R.ev x) ht hn.1
      refine ⟨?_, lvs_rel R h2 hn.2⟩
      unfold TV.lv at hu
      split at hu <;> cases hu
      · exact hx
      · exact hx
    · cases h
theorem parts_rel (R : Rel w0 Z0 J Z s a w) : ∀ {l : List (Nat × Operand)} {nd : Prop} {m : List (Nat × TV)}, partsF s.ev l = some (nd, m) → nd → All2 (fun p q => p.1 = q.1 ∧ TRel w J Z p.2 q.2) (l.map fun p => (p.1, a.eval p.2)) m
  | [], _, _, h, _ => by simp only [partsF, Option.some.injEq, Prod.mk.injEq] at h; obtain ⟨rfl, rfl⟩ := h; trivial
  | (i, x) :: l, _, _, h, hn => by
    unfold partsF at h
    split at h
    · rename_i u nd' m' h1 h2
      simp only [Option.some.injEq, Prod.mk.injEq] at h
      obtain ⟨rfl, rfl⟩ := h
      exact ⟨⟨rfl, ARel.tv (R.ev x) h1 hn.1⟩, parts_rel R h2 hn.2⟩
    · cases h
theorem fold_seg (off : Nat) : ∀ (l : List Value) (k : Nat) (A : Array Value), off + k + l.length ≤ A.size → ((l.zipIdx k).foldl (fun (cs : Array Value) p => cs.setIfInBounds (off + p.2) p.1) A).toList = A.toList.take (off + k) ++ l ++ A.toList.drop (off + k + l.length)
  | [], k, A, _ => by simp
  | v :: l, k, A, h => by
    rw [List.zipIdx_cons, List.foldl_cons, fold_seg off l (k + 1) _ (by simp at h ⊢; omega)]
    have := list_seg_step A.toList (off + k) v l (by simp at h ⊢; omega)
    simpa [Array.toList_setIfInBounds, Nat.add_assoc] using this
theorem fill_rel {place : Nat → Option (Nat × Nat)} : ∀ {l : List (Nat × Value)} {m : List (Nat × TV)} {A : Array Value} {cs out : List CV}, All2 (fun p q => p.1 = q.1 ∧ TRel w J Z p.2 q.2) l m → All2 (CRel w J Z) A.toList cs → fillF place cs m = some out →
    ∃ B, Instr.fill place A l = some B ∧ All2 (CRel w J Z) B.toList out
  | [], [], A, cs, out, _, hA, h => by simp only [fillF, Option.some.injEq] at h; subst h; exact ⟨A, rfl, hA⟩
  | (i, v) :: l, (j, u) :: m, A, cs, out, ⟨⟨h1, h2⟩, h3⟩, hA, h => by
    simp only at h1 h2
    subst h1
    unfold fillF at h
    split at h
    · cases h
    · rename_i off size hp
      split at h
      · rename_i hk
        have hv := TRel.cells h2
        have hl := hv.length
        have hlA := hA.length
        simp only [Array.length_toList] at hl hlA
        have hseg := fold_seg off v.cells.toList 0 A (by simp; omega)
        simp only [Nat.add_zero] at hseg
        have hB : All2 (CRel w J Z) ((v.cells.toList.zipIdx 0).foldl (fun (cs : Array Value) p => cs.setIfInBounds (off + p.2) p.1) A).toList (cs.take off ++ u.cells ++ cs.drop (off + size)) := by
          rw [hseg]
          have e : off + v.cells.toList.length = off + size := by simp; omega
          rw [e]
          exact ((hA.take off).append hv).append (hA.drop (off + size))
        obtain ⟨B, hb, hr⟩ := fill_rel h3 hB h
        refine ⟨B, ?_, hr⟩
        have hcond : (v.cells.size ≠ size || off + v.cells.size > A.size) = false := by simp; omega
        unfold Instr.fill
        simp only [hp]
        rw [if_neg (by simpa using hcond)]
        rw [← hb]
        congr 1
        rw [← Array.foldl_toList, Array.toList_zipIdx]
      · cases h
theorem mapM_places (P : Program) : ∀ (l : List Field), (∀ f ∈ l, (P.info? f.type).isSome = true) → (l.mapM fun f => (do pure (f.offset, ← sizeOf f.type) : Sem (Nat × Nat))).run P w = .ok (l.map fun f => (f.offset, P.cellsOf f.type)) w
  | [], _ => rfl
  | f :: l, h => by
    obtain ⟨i, hi⟩ := Option.isSome_iff_exists.1 (h f (by simp))
    have ih := mapM_places P l fun g hg => h g (by simp [hg])
    have hc : P.cellsOf f.type = i.size := by simp [Program.cellsOf, hi]
    rw [List.mapM_cons]
    simp only [Sem.run_bind, run_size hi, Result.andThen_ok, Sem.run_pure, ih, List.map_cons, hc]
theorem does_build (R : Rel w0 Z0 J Z s a w) {t : TypeId} {ps : Array (Nat × Operand)} (ho : o.op = .build t ps) (hs : fieldsOk P t = true) {z : List CV} (hz : zeroC P t = some z) {nd : Prop} {l : List (Nat × TV)} (hp : partsF s.ev ps.toList = some (nd, l)) (hn : nd) {cs : List CV} (hf : fillF (placeF P t) z l = some cs) : Does P w0 Z0 Z s a w nid o (.t (.agg cs)) .nop := by
  obtain ⟨i, zv, h1, h2, rfl, h3⟩ := zeroC_spec hz
  have hpr := parts_rel R hp hn
  obtain ⟨B, hB, hr⟩ := fill_rel hpr (all2_g (w := w) (J := J) (Z := Z) _ h3) hf
  refine does_val R (u := .agg B) ?_ ⟨B, rfl, hr⟩
  have hz' : (zeroValue t).run P w = .ok zv w := by simp [zeroValue, typeInfo, h1, h2]
  have hlst : (ps.map fun p => (p.1, a.eval p.2)).toList = ps.toList.map fun p => (p.1, a.eval p.2) := by simp
  unfold fieldsOk at hs
  split at hs
  · rename_i fs hu
    have hpl : placeF P t = fun k => ((fs.toList.map fun f => (f.offset, P.cellsOf f.type)).toArray)[k]? := by
      funext k
      simp only [placeF, hu]
      simp only [List.getElem?_toArray, List.getElem?_map, Array.getElem?_toList]
      cases hk : fs[k]? with
      | none => rfl
      | some f =>
        have hm : f ∈ fs.toList := by
          rw [← Array.getElem?_toList] at hk
          exact List.mem_of_getElem? hk
        obtain ⟨q, hq⟩ := Option.isSome_iff_exists.1 (List.all_eq_true.1 hs f hm)
        simp [hq, Program.cellsOf]
    have hmm : (fs.mapM fun f => (do pure (f.offset, ← sizeOf f.type) : Sem (Nat × Nat))).run P w = .ok (fs.toList.map fun f => (f.offset, P.cellsOf f.type)).toArray w := by
      rw [← Array.toArray_toList (xs := fs), List.mapM_toArray]
      simp only [Sem.run_map, mapM_places P fs.toList (fun f hf => List.all_eq_true.1 hs f hf), Result.andThen_ok]
    rw [hpl] at hB
    simp only [execOp, ho, Instr.build, Sem.run_bind, hz', Result.andThen_ok, run_underlying hu, hmm]
    rw [hlst, hB]
    rfl
  · rename_i n e hu
    obtain ⟨q, hq⟩ := Option.isSome_iff_exists.1 hs
    have hpl : placeF P t = fun k => some (k * q.size, q.size) := by
      funext k
      simp only [placeF, hu, hq]
    rw [hpl] at hB
    simp only [execOp, ho, Instr.build, Sem.run_bind, hz', Result.andThen_ok, run_underlying hu, run_size hq]
    rw [hlst, hB]
    rfl
  · cases hs
theorem repC_map (z : List Value) : ∀ n, repC (z.map fun v => CV.iv (.g v)) n = ((List.replicate n z).flatten).map fun v => CV.iv (.g v)
  | 0 => rfl
  | n + 1 => by rw [repC, repC_map z n, List.replicate_succ, List.flatten_cons, List.map_append]
theorem range_rep (z : Array Value) (n : Nat) : ((Array.range (n * z.size)).map (fun k => z[k % z.size]!)).toList = (List.replicate n z.toList).flatten := by
  induction n with
  | zero => simp
  | succ n ih =>
    rw [List.replicate_succ', List.flatten_append, ← ih]
    simp only [Array.toList_map, Array.toList_range, List.flatten_cons, List.flatten_nil, List.append_nil]
    rw [Nat.add_mul, Nat.one_mul, List.range_add, List.map_append]
    congr 1
    apply List.ext_getElem
    · simp
    · intro k h1 h2
      simp only [List.length_map, List.length_range] at h1
      simp only [List.getElem_map, List.getElem_range]
      rw [Nat.add_comm, Nat.add_mul_mod_self_right, Nat.mod_eq_of_lt h1]
      simp [h1]
theorem does_buildSlice (R : Rel w0 Z0 J Z s a w) (hh : hget s.heap nid = none) {t e : TypeId} {n E b : Nat} {ps : Array (Nat × Operand)} (ho : o.op = .buildSlice t n ps) (hs : slD P t = some (E, b, e)) {z : List CV} (hz : zeroC P e = some z) {nd : Prop} {l : List (Nat × TV)} (hp : partsF s.ev ps.toList = some (nd, l)) (hn : nd) {cs : List CV} (hf : fillF (fun i => some (i * E, E)) (repC z n) l = some cs)
    (hsz : n * E ≤ 16777216 ∧ 0 < n) : Does P w0 Z0 Z s a w nid o (.t (.one (.slc nid 0 n E))) (.new cs) := by
  obtain ⟨i, zv, t1, t2, t3, t4, t5, t6, t7⟩ := slD_spec hs
  obtain ⟨i', zv', h1, h2, rfl, h3⟩ := zeroC_spec hz
  obtain rfl : i' = i := by rw [t2] at h1; exact (Option.some.inj h1).symm
  obtain rfl : zv' = zv := by rw [t3] at h2; exact (Option.some.inj h2).symm
  subst t5
  have hpr := parts_rel R hp hn
  have hall : All2 (CRel w J Z) ((Array.range (n * i'.size)).map (fun k => zv'.cells[k % zv'.cells.size]!)).toList (repC (zv'.cells.toList.map fun v => CV.iv (.g v)) n) := by
    rw [repC_map, ← t4, range_rep]
    exact all2_g _ fun v hv => by
      obtain ⟨x, hx, hy⟩ := List.mem_flatten.1 hv
      rw [(List.mem_replicate.1 hx).2] at hy
      exact h3 v hy
  obtain ⟨B, hB, hr⟩ := fill_rel hpr hall hf
  have hlst : (ps.map fun p => (p.1, a.eval p.2)).toList = ps.toList.map fun p => (p.1, a.eval p.2) := by simp
  have hz' : (zeroValue e).run P w = .ok zv' w := by simp [zeroValue, typeInfo, h1, h2]
  have hne : ¬ n * i'.size = 0 := by
    have := Nat.mul_pos hsz.2 t7
    omega
  have hle : ¬ 16777216 < n * i'.size := by omega
  have hlen : B.size = n * i'.size := by
    have h1 := hr.length
    have : ∀ (l : List (Nat × TV)) (c1 c2 : List CV), fillF (fun i => some (i * i'.size, i'.size)) c1 l = some c2 → c2.length = c1.length := by
      intro l
      induction l with
      | nil => intro c1 c2 h; simp only [fillF, Option.some.injEq] at h; subst h; rfl
      | cons p l ih =>
        intro c1 c2 h
        obtain ⟨k, u⟩ := p
        unfold fillF at h
        simp only at h
        split at h
        · rename_i hk
          rw [ih _ _ h]; simp; omega
        · cases h
    have h2 := this l _ _ hf
    have h3 := hall.length
    simp at h1 h3 h2
    omega
  have hrun : (execOp a.eval o).run P w = .ok (.value (.slice (some ⟨w.heap.size, 0, none⟩) n n)) (w.alloc (.cells B e)) := by
    simp only [execOp, ho, Instr.buildSlice, Sem.run_bind, run_underlying t1, Result.andThen_ok, run_size t2]
    simp [hne, hle, hz', newRow]
    rw [hB]
    simp
  refine does_new R hh hrun hr fun w' J' hj hb => Or.inr ⟨_, n, B, e, rfl, hj, Nat.le_refl _, ?_, hb, by omega⟩
  have : n ≤ n * i'.size := Nat.le_mul_of_pos_right n t7
  unfold maxLen; omega
theorem does_buildNone (R : Rel w0 Z0 J Z s a w) (hh : hget s.heap nid = none) {t e : TypeId} {E b : Nat} {ps : Array (Nat × Operand)} (ho : o.op = .buildSlice t 0 ps) (hs : slD P t = some (E, b, e)) {nd : Prop} (hp : partsF s.ev ps.toList = some (nd, [])) : Does P w0 Z0 Z s a w nid o (.t (.one (.slc nid 0 0 E))) (.new []) := by
  obtain ⟨i, zv, t1, t2, t3, t4, t5, t6, t7⟩ := slD_spec hs
  have hps : ps.toList = [] := by
    cases hq : ps.toList with
    | nil => rfl
    | cons p l =>
      rw [hq] at hp
      obtain ⟨k, x⟩ := p
      unfold partsF at hp
      split at hp
      · simp at hp
      · cases hp
  have hps' : ps = #[] := by rw [← Array.toArray_toList (xs := ps), hps]
  subst hps'
  have hrun : (execOp a.eval o).run P w = .ok (.value (.slice (some ⟨w.heap.size, 0, none⟩) 0 0)) (w.alloc (.cells #[] e)) := by
    simp only [execOp, ho, Instr.buildSlice, Sem.run_bind, run_underlying t1, Result.andThen_ok, run_size t2]
    simp [newRow, Instr.fill]
    have h0 : (Array.range 0) = (#[] : Array Nat) := by simp [Array.range]
    rw [h0, Array.map_empty]
  exact does_new R hh (C := #[]) (e := e) hrun (by simp [All2]) fun w' J' hj hb => Or.inr ⟨_, 0, #[], e, rfl, hj, Nat.le_refl _, by unfold maxLen; omega, hb, by simp⟩
end
end Go.Sea
