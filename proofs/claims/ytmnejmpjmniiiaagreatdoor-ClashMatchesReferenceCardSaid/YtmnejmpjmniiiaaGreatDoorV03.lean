/- Part 3 of 18: contracts of functions and plain laws for the root text. No condition. -/
import Derived.Test.YtmnejmpjmniiiaaGreatDoorV01
import Derived.Test.YtmnejmpjmniiiaaGreatDoorV02
import Derived.Laws.Cover3
import Derived.Laws.CopyRow
import Derived.Laws.IdiomCopy
import Derived.Laws.MakeOwn
set_option linter.unusedVariables false
set_option linter.unusedSimpArgs false
set_option linter.unusedSectionVars false
set_option linter.deprecated false
namespace Go.Sea
open Go.RowKit
def isB (x : AV) : Prop := x.nd /\ (x.tv.bind TV.bool?).isSome = true
def toB (x : AV) : Bool := (x.tv.bind TV.bool?).getD false
def cZ (P : Program) (t : TypeId) (i : Nat) : Option (Nat × Nat) := match P.underlying t with
  | some (.struct fs) => match fs[i]? with
    | some f => match P.info? f.type with
      | some j => some (f.offset, j.size)
      | none => none
    | none => none
  | some (.array _ e) => match P.info? e with
    | some j => some (i * j.size, j.size)
    | none => none
  | _ => none
def abF (P : Program) (t : TypeId) (f : Nat) : Option (Nat × Bool × Nat) := match P.underlying t with
  | some (.struct fs) => match fs[f]? with
    | some fd => match mU P fd.type with
      | some (ag, n) => some (fd.offset, ag, n)
      | none => none
    | none => none
  | _ => none
def ixD (P : Program) (t : TypeId) : Option (Nat × Bool × Nat) := match P.underlying t with
  | some (.array n e) => match mU P e with
    | some (ag, m) => some (n, ag, m)
    | none => none
  | _ => none
def uY (P : Program) (t : TypeId) : Option Bool := match P.underlying t with
  | some (.slice _) => some true
  | some .string => some false
  | _ => none
def fF (P : Program) (t : TypeId) : Bool := match P.underlying t with
  | some (.struct fs) => fs.toList.all fun f => (P.info? f.type).isSome
  | some (.array _ e) => (P.info? e).isSome
  | _ => false
def vV (mx : Bool) (x y : TV) : Option AV := match x.int?, y.int? with
  | some (k, m), some (k', n) => some (iA k (bif mx then (if n > m then n else m) else (if n < m then n else m)))
  | _, _ => none
def TV.dp : TV -> TV
  | .one (.iv (.ptr m c)) => .one (.ip m c)
  | x => x
theorem bS.dp {w : World} {J : Nat -> Option Nat} {Z : Nat -> Prop} {v : Value} {x : TV} (h : bS w J Z v x) : bS w J Z v x.dp := by
  unfold TV.dp
  split
  · rename_i m c
    cases h with
    | ptr b off _ _ X hz h1 h2 => exact ⟨b, off, X, rfl, hz, fun o ho => ⟨h1 o ho, h2 o ho⟩⟩
  · exact h
def j5 (ρ : Operand -> AV) : Option Operand -> Option (Prop × Option Int)
  | none => some (True, none)
  | some x => match (ρ x).tv.bind TV.int? with
    | some (_, n) => some ((ρ x).nd, some n)
    | none => none
def Xq (P : Program) (t : TypeId) : Bool := match P.underlying t with
  | some .bool => true
  | _ => false
def boF (op : BinOp) (d u v : Bool) : Option Bool := match op, d with
  | .eql, true => some (u == v)
  | .neq, true => some (u != v)
  | _, _ => none
def ng : TV -> TV -> Bool
  | .agg _, .agg _ => true
  | .one (.iv (.g (.string _))), .one (.iv (.g (.string _))) => true
  | _, _ => false
def eqC (op : BinOp) (ks : List LK) (cs ds : List CV) : Option Bool := match op, Qd ks cs, Qd ks ds with
  | .eql, some xs, some ys => some (kU xs ys)
  | .neq, some xs, some ys => some (!kU xs ys)
  | _, _, _ => none
def eqF (op : BinOp) (ks : Bool × List LK) (u v : TV) : Option Bool := match ks, u, v with
  | (true, l), .agg cs, .agg ds => eqC op l cs ds
  | (false, l), .one c, .one d => eqC op l [c] [d]
  | _, _, _ => none
def eqN (P : Program) (t : TypeId) (op : BinOp) : TV -> TV -> Option (Prop × Bool)
  | .one (.iv (.lst _ n _)), .one (.iv (.g (.slice none 0 0))) => match oU P t with
    | some _ => match op with
      | .eql => some (0 < n, false)
      | .neq => some (0 < n, true)
      | _ => none
    | none => none
  | _, _ => none
def Sk (lo mx : Int) (off E : Nat) : Nat := if mx = lo then off else off + lo.toNat * E
def yQ (e : Nat) (lo hi mx : Int) : TV -> Option (Prop × AV)
  | .one (.iv (.lst E n f)) => if e = E then some (0 <= lo /\ lo <= hi /\ hi <= mx /\ mx <= n, .t (.one (.iv (.lst E (hi - lo).toNat fun i o => f (lo.toNat + i) o)))) else none
  | .one (.slc i off n E) => if e = E then some (0 <= lo /\ lo <= hi /\ hi <= mx /\ mx <= n, .t (.one (.slc i (Sk lo mx off E) (hi - lo).toNat E))) else none
  | _ => none
def sP (H : Hp) (n E : Nat) (hi : Option Int) : TV -> Option (Prop × AV)
  | .one (.ptr i o) => match H i with
    | some cs => some (0 <= hi.getD n /\ hi.getD n <= n /\ o + n * E <= cs.length /\ 0 < n /\ 0 < E /\ n <= maxLen, .t (.one (.slc i o (hi.getD n).toNat E)))
    | none => none
  | _ => none
def BF (H : Hp) (y : TV) : TV -> Option (Prop × AV × Eff)
  | .one (.slc i off n E) => match H i, Ch 1 H y with
    | some cs, some (nd, m, ns) => if E = 1 then some (nd /\ off + n <= cs.length, iA .i64 ((min m n : Nat) : Int), .set i (cs.take off ++ ns.take (min m n) ++ cs.drop (off + min m n))) else none
    | _, _ => none
  | _ => none
def ug (H : Hp) (z : List CV) : TV -> Option (Prop × AV × Eff)
  | .one (.iv (.lst _ 0 _)) => some (True, .any, .nop)
  | .one (.slc i off n E) => match H i with
    | some cs => if E = 1 then some (off + n <= cs.length, .any, .set i (cs.take off ++ nV z n ++ cs.drop (off + n))) else none
    | none => none
  | _ => none
def ncF : TV -> Bool
  | .one (.ptr _ _) | .one (.ip _ _) | .one (.iv (.ptr _ _)) => true
  | _ => false
def Dk (n E : Nat) : TV -> Option (Prop × AV)
  | .one (.iv (.lst E' m f)) => if E = 1 /\ E' = 1 then some (n <= m /\ 0 < n, .t (.one (.ip n fun o => f o 0))) else none
  | _ => none
def Jr (P : Program) (t : TypeId) : Option TypeId := match P.underlying t with
  | some (.map k e) => match P.underlying k with
    | some (.int .i64) => some e
    | _ => none
  | _ => none
def OG : List CV -> Option (List IV)
  | [] => some []
  | .iv c :: r => match OG r with
    | some l => some (c :: l)
    | none => none
  | _ => none
def TB : TV -> Option PT
  | .one (.iv c) => some (.one c)
  | .agg cs => match OG cs with
    | some l => some (.agg l)
    | none => none
  | _ => none
def XE (P : Program) (e : TypeId) : Option PT := match P.info? e with
  | some i => match i.zero with
    | some (.agg A) => if A.all Value.oneCell' then some (.agg (A.toList.map .g)) else none
    | some v => if v.oneCell' then some (.one (.g v)) else none
    | none => none
  | none => none
def Aw (k : Int) : List (Int × Fn × List LV × List LV) -> Option (Fn × List LV × List LV)
  | [] => none
  | x :: r => if x.1 = k then some x.2 else Aw k r
def H8 (ok : Bool) (z : PT) (o : Option PT) : AV := bif ok then .tup [(o.getD z).tv, .one (.iv (.g (.bool o.isSome)))] else .t (o.getD z).tv
def Ai (ok : Bool) (z : PT) (H : Hp) (k : Int) : TV -> Option AV
  | .one (.iv (.g (.map none))) => some (H8 ok z none)
  | .one (.mp i) => match H i with
    | some [.mi _ _ f] => some (H8 ok z (f k))
    | some [.ml l] => bif ok then none else match Aw k l with
      | some (g, a, b) => some (.t (.one (.fn g a b)))
      | none => none
    | _ => none
  | _ => none
def jF (f : Int -> Option PT) (k : Int) (x : PT) (j : Int) : Option PT := if j = k then some x else f j
def uo (f : Int -> Option PT) (k : Int) (j : Int) : Option PT := if j = k then none else f j
def mE (n : Nat) (f : Int -> Option PT) (k : Int) : Nat := bif (f k).isSome then n else n + 1
def xu (n : Nat) (f : Int -> Option PT) (k : Int) : Nat := bif (f k).isSome then n - 1 else n
def Lv (H : Hp) (k : Int) (v : TV) : TV -> Option Eff
  | .one (.mp i) => match H i with
    | some [.mi _ n f] => match TB v with
      | some x => some (.set i [.mi none (mE n f k) (jF f k x)])
      | none => match v, n with
        | .one (.fn g a b), 0 => some (.set i [.ml [(k, g, a, b)]])
        | _, _ => none
    | some [.ml l] => match v with
      | .one (.fn g a b) => match Aw k l with
        | none => some (.set i [.ml (l ++ [(k, g, a, b)])])
        | some _ => none
      | _ => none
    | _ => none
  | _ => none
def Kh (H : Hp) (k : Int) : TV -> Option Eff
  | .one (.mp i) => match H i with
    | some [.mi _ n f] => some (.set i [.mi none (xu n f k) (uo f k)])
    | _ => none
  | _ => none
def z8 (H : Hp) : TV -> Option AV
  | .one (.mp i) => match H i with
    | some [.mi _ n _] => some (iA .i64 n)
    | _ => none
  | .one (.iv (.g (.map none))) => some (iA .i64 0)
  | _ => none
def OJ : TV -> Option Int
  | .one (.iv (.g (.int .i64 k))) => some k
  | _ => none
def mpE (P : Program) (t : TypeId) : Option TypeId := match P.underlying t with
  | some (.map k e) => match P.underlying k with
    | some (.array 2 x) => match P.underlying x, P.cellsOf x with
      | some (.int .i64), 1 => some e
      | _, _ => none
    | _ => none
  | _ => none
def Hr : TV -> Option (Int × Int)
  | .agg [.iv (.g (.int .i64 a)), .iv (.g (.int .i64 b))] => some (a, b)
  | _ => none
def AA (ok : Bool) (z : PT) (H : Hp) (k : Int × Int) : TV -> Option AV
  | .one (.mp i) => match H i with
    | some [.m2 f] => some (H8 ok z (f k.1 k.2))
    | _ => none
  | _ => none
def sF (f : Int -> Int -> Option PT) (k : Int × Int) (x : PT) (a b : Int) : Option PT := if a = k.1 /\ b = k.2 then some x else f a b
def Kk (H : Hp) (k : Int × Int) (v : TV) : TV -> Option Eff
  | .one (.mp i) => match H i with
    | some [.m2 f] => match TB v with
      | some x => some (.set i [.m2 (sF f k x)])
      | none => none
    | _ => none
  | _ => none
def Dq (P : Program) (nid : Nat) (ρ : Operand -> AV) (H : Hp) (o : Oper) : Option (Prop × AV × Eff) :=
  match o.op with
  | .makeMap t none => match mpE P t with
    | some _ => some (True, .t (.one (.mp nid)), .new [.m2 fun _ _ => none])
    | none => none
  | .lookup t x ix ok => match mpE P t, (ρ x).tv, (ρ ix).tv.bind Hr with
    | some e, some u, some k => match XE P e with
      | some z => match AA ok z H k u with
        | some v => some ((ρ x).nd /\ (ρ ix).nd, v, .nop)
        | none => none
      | none => none
    | _, _, _ => none
  | .mapUpdate t m ix x | .insert t m ix x => match mpE P t, (ρ m).tv, (ρ ix).tv.bind Hr, (ρ x).tv with
    | some _, some u, some k, some v => match Kk H k v u with
      | some ef => some ((ρ m).nd /\ (ρ ix).nd /\ (ρ x).nd, .any, ef)
      | none => none
    | _, _, _, _ => none
  | _ => none
def TH (P : Program) (nid : Nat) (ρ : Operand -> AV) (H : Hp) (o : Oper) : Option (Prop × AV × Eff) -> Option (Prop × AV × Eff)
  | some r => some r
  | none => Dq P nid ρ H o
def qy (P : Program) (nid : Nat) (ρ : Operand -> AV) (H : Hp) (o : Oper) : Option (Prop × AV × Eff) :=
  match o.op with
  | .makeMap t none => match Jr P t with
    | some _ => some (True, .t (.one (.mp nid)), .new [.mi none 0 fun _ => none])
    | none => none
  | .lookup t x ix ok => match Jr P t, (ρ x).tv, (ρ ix).tv.bind OJ with
    | some e, some u, some k => match XE P e with
      | some z => match Ai ok z H k u with
        | some v => some ((ρ x).nd /\ (ρ ix).nd, v, .nop)
        | none => none
      | none => none
    | _, _, _ => none
  | .mapUpdate t m ix x | .insert t m ix x => match Jr P t, (ρ m).tv, (ρ ix).tv.bind OJ, (ρ x).tv with
    | some _, some u, some k, some v => match Lv H k v u with
      | some ef => some ((ρ m).nd /\ (ρ ix).nd /\ (ρ x).nd, .any, ef)
      | none => none
    | _, _, _, _ => none
  | .call c => match c.callee with
    | .builtin .delete => match c.args.toList, c.argTypes.toList with
      | [m, ix], [t, _] => match Jr P t, (ρ m).tv, (ρ ix).tv.bind OJ with
        | some _, some u, some k => match Kh H k u with
          | some ef => some ((ρ m).nd /\ (ρ ix).nd, .tup [], ef)
          | none => none
        | _, _, _ => none
      | _, _ => none
    | .builtin .len => match c.args.toList, c.argTypes.toList with
      | [x], [t] => match Jr P t, (ρ x).tv with
        | some _, some u => match z8 H u with
          | some v => some ((ρ x).nd, v, .nop)
          | none => none
        | _, _ => none
      | _, _ => none
    | _ => none
  | _ => none
def wO (P : Program) (nid : Nat) (ρ : Operand -> AV) (H : Hp) (o : Oper) : Option (Prop × AV × Eff) :=
  match o.op with
  | .nilCheck x => match (ρ x).tv with
    | some v => match ncF v with
      | true => some ((ρ x).nd, .t v, .nop)
      | false => none
    | none => none
  | .makeSlice t l c => match oU P t, (ρ l).tv.bind TV.int?, (ρ c).tv.bind TV.int? with
    | some (E, b, e), some (_, m), some (_, n) => match eX P e with
      | some z => if m = n then some ((ρ l).nd /\ (ρ c).nd /\ 0 <= n /\ (b : Int) * n <= 281474976710656 /\ n <= (maxLen : Int), .t (.one (.slc nid 0 n.toNat E)), .new (nV z n.toNat)) else none
      | none => none
    | _, _, _ => none
  | .slice t x lo hi mx => match (ρ x).tv, j5 ρ lo, j5 ρ hi, j5 ρ mx with
    | some u, some (n1, l), some (n2, h), some (n3, m) => match h, m with
      | some h, some m => match oU P t with
        | some (E, _, _) => match yQ E (l.getD 0) h m u with
          | some (nd, y) => some ((ρ x).nd /\ n1 /\ n2 /\ n3 /\ nd, y, .nop)
          | none => none
        | none => none
      | h, none => match l with
        | none => match BP P t with
          | some (n, E) => match sP H n E h u with
            | some (nd, y) => some ((ρ x).nd /\ n1 /\ n2 /\ n3 /\ nd, y, .nop)
            | none => none
          | none => none
        | some _ => none
      | none, some _ => none
    | _, _, _, _ => none
  | .sliceToArrayPointer t x => match BP P t, (ρ x).tv with
    | some (n, E), some u => match Dk n E u with
      | some (nd, y) => some ((ρ x).nd /\ nd, y, .nop)
      | none => none
    | _, _ => none
  | .call c => match c.callee with
    | .builtin .copy => match c.args.toList, c.argTypes.toList with
      | [x, y], [t, t'] => match oU P t, (ρ x).tv, (ρ y).tv with
        | some (1, _, _), some u, some v => match BF H v u with
          | some (nd, r, ef) => some ((ρ x).nd /\ (ρ y).nd /\ nd, r, ef)
          | none => none
        | _, _, _ => none
      | _, _ => none
    | .builtin .clear => match c.args.toList, c.argTypes.toList with
      | [x], [t] => match oU P t, (ρ x).tv with
        | some (1, _, e), some u => match eX P e with
          | some z => match ug H z u with
            | some (nd, r, ef) => some ((ρ x).nd /\ nd, r, ef)
            | none => none
          | none => none
        | _, _ => none
      | _, _ => none
    | _ => qy P nid ρ H o
  | _ => TH P nid ρ H o (qy P nid ρ H o)
def nP (P : Program) (nid : Nat) (ρ : Operand -> AV) (H : Hp) (o : Oper) : Option (Prop × AV × Eff) :=
  match o.op with
  | .move x => match ρ x with
    | .t y => some (True, .t y, .nop)
    | .tup xs => some (True, .tup xs, .nop)
    | .mb c y => some (c = true, .t y, .nop)
    | .any => some (True, .any, .nop)
  | .assign x => match ρ x with
    | .t y => some (True, .t y, .nop)
    | .tup xs => some (True, .tup xs, .nop)
    | .mb c y => some (c = true, .t y, .nop)
    | .any => some (True, .any, .nop)
  | .pick c x y => match (ρ c).tv.bind TV.bool? with
    | some cc => some ((ρ c).nd /\ (cc = true -> isB (ρ x)) /\ (cc = false -> isB (ρ y)), bA (bif cc then toB (ρ x) else toB (ρ y)), .nop)
    | none => none
  | .alloc t => match eX P t with
    | some cs => some (True, .t (.one (.ptr nid 0)), .new cs)
    | none => none
  | .box t x => match (ρ x).tv with
    | some v => some ((ρ x).nd, .t (.one (.ptr nid 0)), .new v.cells)
    | none => none
  | .build t ps => match fF P t, eX P t, jA ρ ps.toList with
    | true, some z, some (nd, l) => match oN (cZ P t) z l with
      | some cs => some (nd, .t (.agg cs), .nop)
      | none => none
    | _, _, _ => none
  | .buildSlice t n ps => match oU P t, jA ρ ps.toList with
    | some (E, _, e), some (nd, l) => match eX P e with
      | some z => match oN (fun i => some (i * E, E)) (nV z n) l with
        | some cs => if n * E <= 16777216 /\ 0 < n then some (nd, .t (.one (.slc nid 0 n E)), .new cs) else (match n, l with
          | 0, [] => some (True, .t (.one (.slc nid 0 0 E)), .new [])
          | _, _ => none)
        | none => none
      | none => none
    | _, _ => none
  | .slice t x lo hi mx => match oU P t, (ρ x).tv, mx, j5 ρ lo, j5 ρ hi with
    | some (E, _, _), some u, none, some (n1, l), some (n2, h) => match ED E l h u with
      | some (nd, y) => some ((ρ x).nd /\ n1 /\ n2 /\ nd, y, .nop)
      | none => none
    | _, _, _, _, _ => wO P nid ρ H o
  | .field t x f => match abF P t f, ρ x with
    | some (off, ag, n), .t (.agg cs) => some (off + n <= cs.length /\ 0 < n, (bif ag then .t (.agg ((cs.drop off).take n)) else .t (.one (cs.getD off .any))), .nop)
    | _, _ => none
  | .load t x => match mU P t, (ρ x).tv with
    | some (ag, n), some v => match sH ag n H v.dp with
      | some (nd, y) => some ((ρ x).nd /\ nd, y, .nop)
      | none => none
    | _, _ => none
  | .store t p x => match mU P t, (ρ p).tv, (ρ x).tv with
    | some (_, n), some q, some v => match pI n H v q.dp with
      | some (nd, y, ef) => some ((ρ p).nd /\ (ρ x).nd /\ nd, y, ef)
      | none => none
    | _, _, _ => none
  | .binOp op t x y _ => match (ρ x).tv.bind TV.int?, (ρ y).tv.bind TV.int? with
    | some (k, m), some (k', n) => match YT op k m n with
      | some (nd, v) => if k = k' then some ((ρ x).nd /\ (ρ y).nd /\ nd, v, .nop) else none
      | none => none
    | _, _ => match (ρ x).tv.bind TV.bool?, (ρ y).tv.bind TV.bool? with
      | some u, some v => match boF op (Xq P t) u v with
        | some r => some ((ρ x).nd /\ (ρ y).nd, bA r, .nop)
        | none => none
      | _, _ => match (ρ x).tv, (ρ y).tv with
        | some u, some v => match ng u v with
          | true => match ZN P t with
            | some ks => match eqF op ks u v with
              | some r => some ((ρ x).nd /\ (ρ y).nd, bA r, .nop)
              | none => none
            | none => none
          | false => match eqN P t op u v with
            | some (nd, r) => some ((ρ x).nd /\ (ρ y).nd /\ nd, bA r, .nop)
            | none => none
        | _, _ => none
  | .unOp op _ x => match op, (ρ x).tv with
    | .not, some v => match v.bool? with
      | some b => some ((ρ x).nd, bA (!b), .nop)
      | none => none
    | .neg, some v => match v.int? with
      | some (k, n) => some ((ρ x).nd, iA k (k.wrap (0 - n)), .nop)
      | none => none
    | _, _ => none
  | .convert src dst x => match mU P src, inD P dst, (ρ x).tv.bind TV.int? with
    | some _, some k, some (_, n) => some ((ρ x).nd, iA k (k.wrap n), .nop)
    | _, _, _ => none
  | .makeFunc f x y => match xW ρ x.toList, xW ρ y.toList with
    | some (nd, l), some (nd', l') => some (nd /\ nd', .t (.one (.fn f l l')), .nop)
    | _, _ => none
  | .fieldAddr t x f => match dB P t f, (ρ x).tv with
    | some off, some v => match DT off v.dp with
      | some (nd, y) => some ((ρ x).nd /\ nd, y, .nop)
      | none => none
    | _, _ => none
  | .indexAddr t x ix => match (ρ x).tv, (ρ ix).tv.bind TV.int? with
    | some v, some (_, n) => match Dv (oU P t) (BP P t) n v.dp with
      | some (nd, y) => some ((ρ x).nd /\ (ρ ix).nd /\ nd, y, .nop)
      | none => none
    | _, _ => none
  | .index t x ix => match ixD P t, ρ x, (ρ ix).tv.bind TV.int? with
    | some (n, ag, m), .t (.agg cs), some (_, i) => some ((ρ ix).nd /\ (0 <= i /\ i < (n : Int)) /\ i.toNat * m + m <= cs.length /\ 0 < m, (bif ag then .t (.agg ((cs.drop (i.toNat * m)).take m)) else .t (.one (cs.getD (i.toNat * m) .any))), .nop)
    | _, _, _ => none
  | .extract x k => match ρ x with
    | .tup xs => match xs[k]? with
      | some y => some (True, .t y, .nop)
      | none => none
    | _ => none
  | .call c => match c.callee with
    | .builtin .len => match c.args.toList, c.argTypes.toList with
      | [x], [t] => match uY P t, (ρ x).tv with
        | some sl, some u => match Uj sl u with
          | some v => some ((ρ x).nd, v, .nop)
          | none => none
        | some _, none => none
        | none, _ => qy P nid ρ H o
      | _, _ => none
    | .builtin .append => match c.args.toList, c.argTypes.toList with
      | [x, y], [t, t'] => match oU P t, (ρ x).tv, (ρ y).tv with
        | some (n, b, _), some u, some v => match Gm nid n b H v u with
          | some (nd, r, ef) => if t = t' then some ((ρ x).nd /\ (ρ y).nd /\ nd, r, ef) else none
          | none => none
        | _, _, _ => none
      | _, _ => none
    | .builtin .max => match c.args.toList with
      | [x, y] => match (ρ x).tv, (ρ y).tv with
        | some u, some v => match vV true u v with
          | some r => some ((ρ x).nd /\ (ρ y).nd, r, .nop)
          | none => none
        | _, _ => none
      | _ => none
    | .builtin .min => match c.args.toList with
      | [x, y] => match (ρ x).tv, (ρ y).tv with
        | some u, some v => match vV false u v with
          | some r => some ((ρ x).nd /\ (ρ y).nd, r, .nop)
          | none => none
        | _, _ => none
      | _ => none
    | _ => wO P nid ρ H o
  | _ => wO P nid ρ H o
def Does (P : Program) (w0 : World) (Z0 : Fr) (Z : Nat -> Prop) (s : AS) (a : Act) (w : World) (nid : Nat) (o : Oper) (v : AV) (ef : Eff) : Prop :=
  ∃ J' w' u, ((execOp a.eval o).run P w = .ok (.value u) w' \/ ((execOp a.eval o).run P w = .ok .skip w' /\ u = undef)) /\ Rel w0 Z0 J' Z (s.Ce nid ef) a w' /\ bD w' J' Z u v
section
variable {w0 : World} {Z0 : Fr} {J J' : Nat -> Option Nat} {Z Z' : Nat -> Prop} {s s' : AS} {a : Act} {w w' : World} {P : Program} {o : Oper} {nid : Nat} {v : AV} {ef : Eff}
theorem bg (R : Rel w0 Z0 J Z s a w) {u : Value} (h : (execOp a.eval o).run P w = .ok (.value u) w) (hr : bD w J Z u v) : Does P w0 Z0 Z s a w nid o v .nop := ⟨J, w, u, Or.inl h, R, hr⟩
theorem bV {β : Type} {x : AV} {f : TV -> Option β} {y : β} (h : x.tv.bind f = some y) : ∃ t, x.tv = some t /\ f t = some y := by
  cases hx : x.tv with
  | none => rw [hx] at h; cases h
  | some t => exact ⟨t, rfl, by rw [hx] at h; exact h⟩
theorem Da (R : Rel w0 Z0 J Z s a w) {x : Operand} {nd : Prop} (ho : o.op = .move x \/ o.op = .assign x) (h : (match s.ev x with
    | .t y => some (True, AV.t y, Eff.nop)
    | .tup xs => some (True, .tup xs, .nop)
    | .mb c y => some (c = true, .t y, .nop)
    | .any => some (True, .any, .nop)) = some (nd, v, ef)) (hn : nd) : Does P w0 Z0 Z s a w nid o v ef := by
  have hx := R.ev x
  have hrun : (execOp a.eval o).run P w = .ok (.value (a.eval x)) w := by
    rcases ho with ho | ho <;> simp [execOp, ho]
  split at h <;> rename_i e <;> rw [e] at hx <;> simp only [Option.some.injEq, Prod.mk.injEq] at h <;> obtain ⟨rfl, rfl, rfl⟩ := h
  · exact bg R hrun hx
  · exact bg R hrun hx
  · exact bg R hrun (hx.1 hn)
  · exact bg R hrun trivial
theorem Nj (R : Rel w0 Z0 J Z s a w) {x : Operand} (h : isB (s.ev x)) : a.eval x = .bool (toB (s.ev x)) := by
  obtain ⟨h1, h2⟩ := h
  obtain ⟨b, hb⟩ := Option.isSome_iff_exists.1 h2
  obtain ⟨t, ht, hb'⟩ := bV hb
  have := (bD.tv (R.ev x) ht h1).bool hb'
  rw [this, toB, hb]; rfl
theorem Px (R : Rel w0 Z0 J Z s a w) {c x y : Operand} (ho : o.op = .pick c x y) {cc : Bool} (hc : (s.ev c).tv.bind TV.bool? = some cc) (h1 : (s.ev c).nd) (h2 : cc = true -> isB (s.ev x)) (h3 : cc = false -> isB (s.ev y)) :
    Does P w0 Z0 Z s a w nid o (bA (bif cc then toB (s.ev x) else toB (s.ev y))) .nop := by
  obtain ⟨t, ht, hb'⟩ := bV hc
  have hcc := (bD.tv (R.ev c) ht h1).bool hb'
  have hrun : (execOp a.eval o).run P w = .ok (.value (if cc = true then a.eval x else a.eval y)) w := by
    simp [execOp, ho, hcc, asBool]
  refine bg R hrun ?_
  cases cc with
  | true => rw [if_pos rfl, Nj R (h2 rfl)]; exact Rd.g _ rfl
  | false => rw [if_neg (by simp), Nj R (h3 rfl)]; exact Rd.g _ rfl
theorem lY {t : TypeId} {cs : List CV} (h : eX P t = some cs) : ∃ i z, P.info? t = some i /\ i.zero = some z /\ cs = z.cells.toList.map (fun v => .iv (.g v)) /\ (∀ v ∈ z.cells.toList, v.oneCell' = true) := by
  unfold eX at h
  split at h
  · rename_i i h1
    split at h
    · rename_i z h2
      split at h
      · rename_i h3
        cases h
        refine ⟨i, z, h1, h2, rfl, fun v hv => ?_⟩
        rw [Array.all_eq_true'] at h3
        exact h3 v (by simpa using hv)
      · cases h
    · cases h
  · cases h
theorem take_len {α : Type} (l : List α) (n : Nat) (h : l.length = n) : l.take n = l := List.take_of_length_le (by omega)
theorem pJ (R : Rel w0 Z0 J Z s a w) (hh : hget s.heap nid = none) {cs : List CV} {C : Array Value} {e : TypeId} {av : AV} {u : Value} (hrun : (execOp a.eval o).run P w = .ok (.value u) (w.alloc (.cells C e)))
    (hC : aU (bQ w J Z) C.toList cs) (hu : ∀ (w' : World) (J' : Nat -> Option Nat), J' nid = some w.heap.size -> w'.heap[w.heap.size]? = some (.cells C e (0, 0)) -> bD w' J' Z u av) : Does P w0 Z0 Z s a w nid o av (.new cs) := by
  refine ⟨gI J nid w.heap.size, _, u, Or.inl hrun, R.new hh (bn _ _ _) (fun q hq => bE _ _ _ _ hq) ?_, hu _ _ (by simp [gI]) (heap_alloc_new w _)⟩
  rw [take_len _ _ hC.length]; exact hC
theorem Ko (R : Rel w0 Z0 J Z s a w) (hh : hget s.heap nid = none) {t : TypeId} (ho : o.op = .alloc t) {cs : List CV} (hz : eX P t = some cs) : Does P w0 Z0 Z s a w nid o (.t (.one (.ptr nid 0))) (.new cs) := by
  obtain ⟨i, z, h1, h2, rfl, h3⟩ := lY hz
  have hrun : (execOp a.eval o).run P w = .ok (.value (.pointer (some ⟨w.heap.size, 0, none⟩))) (w.alloc (.cells z.cells t)) := by
    simp [execOp, ho, Instr.alloc, zeroValue, typeInfo, h1, h2, newVar, newRow]
  exact pJ R hh hrun (sQ _ h3) fun w' J' hj hb => ⟨_, rfl, hj, _, _, hb⟩
theorem QZ (R : Rel w0 Z0 J Z s a w) (hh : hget s.heap nid = none) {t : TypeId} {x : Operand} (ho : o.op = .box t x) {y : TV} (hx : (s.ev x).tv = some y) (hn : (s.ev x).nd) : Does P w0 Z0 Z s a w nid o (.t (.one (.ptr nid 0))) (.new y.cells) := by
  have h := bD.tv (R.ev x) hx hn
  have hrun : (execOp a.eval o).run P w = .ok (.value (.pointer (some ⟨w.heap.size, 0, none⟩))) (w.alloc (.cells (a.eval x).cells t)) := by
    simp [execOp, ho, Instr.box, newVar, newRow]
  exact pJ R hh hrun (bS.cells h) fun w' J' hj hb => ⟨_, rfl, hj, _, _, hb⟩
theorem Sm (R : Rel w0 Z0 J Z s a w) {op : BinOp} {t t' : TypeId} {x y : Operand} (ho : o.op = .binOp op t x y t') {k : IntKind} {m n : Int} {nd : Prop} (hx : a.eval x = .int k m) (hy : a.eval y = .int k n) (h : YT op k m n = some (nd, v)) (hn : nd) :
    Does P w0 Z0 Z s a w nid o v .nop := by
  have hg : ∀ A B : Value, A = .int k m -> B = .int k n -> (eqGuard op t x y A B).run P w = .ok () w := by
    rintro _ _ rfl rfl
    unfold eqGuard
    split <;> simp [Pure.pure, Sem.run]
  have key : ∀ u : Value, (binOp op t (.int k m) (.int k n)).run P w = .ok u w -> bD w J Z u v -> Does P w0 Z0 Z s a w nid o v .nop := fun u hu hr => by
    refine bg R (u := u) ?_ hr
    simp only [execOp, ho, hx, hy, Sem.run_bind, hg _ _ rfl rfl, Result.andThen_ok, hu, Sem.run_pure]
  unfold YT at h
  split at h <;> simp only [Option.some.injEq, Prod.mk.injEq, reduceCtorEq] at h <;> obtain ⟨rfl, rfl⟩ := h
  · exact key _ (by simp [binOp, Op.intArith]) (Rd.g _ rfl)
  · exact key _ (by simp [binOp, Op.intArith]) (Rd.g _ rfl)
  · exact key _ (by simp [binOp, Op.intArith]) (Rd.g _ rfl)
  · exact key _ (by simp [binOp, Op.intDiv, hn]) (Rd.g _ rfl)
  · exact key _ (by simp [binOp, Op.intDiv, hn]) (Rd.g _ rfl)
  · exact key _ (by simp only [binOp_and, intBits_and, Sem.run_pure]) (Rd.g _ rfl)
  · exact key _ (by simp only [binOp_or, intBits_or, Sem.run_pure]) (Rd.g _ rfl)
  · exact key _ (by simp only [binOp_xor, intBits_xor, Sem.run_pure]) (Rd.g _ rfl)
  · exact key _ (by simp only [binOp_andNot, intBits_andNot, Sem.run_pure]) (Rd.g _ rfl)
  · exact key _ (by simp [binOp, Op.intCmp]) (Rd.g _ rfl)
  · exact key _ (by simp [binOp, Op.intCmp]) (Rd.g _ rfl)
  · exact key _ (by simp [binOp, Op.intCmp]) (Rd.g _ rfl)
  · exact key _ (by simp [binOp, Op.intCmp]) (Rd.g _ rfl)
  · exact key _ (by simp [binOp, Op.intCmp]) (Rd.g _ rfl)
  · exact key _ (by simp [binOp, Op.intCmp]) (Rd.g _ rfl)
  · exact key _ (by simp [binOp, Op.shift, Int.not_lt.2 hn]) (Rd.g _ rfl)
  · exact key _ (by simp [binOp, Op.shift, Int.not_lt.2 hn]) (Rd.g _ rfl)
theorem O9 (R : Rel w0 Z0 J Z s a w) {op : BinOp} {t t' : TypeId} {x y : Operand} (ho : o.op = .binOp op t x y t') {u v' r : Bool} (hx : a.eval x = .bool u) (hy : a.eval y = .bool v') (h : boF op (Xq P t) u v' = some r) :
    Does P w0 Z0 Z s a w nid o (bA r) .nop := by
  unfold boF at h
  split at h
  · rename_i hd
    cases h
    have ht : P.underlying t = some .bool := by
      unfold Xq at hd; split at hd
      · assumption
      · cases hd
    refine bg R (u := .bool (u == v')) ?_ (Rd.g _ rfl)
    have e : (eqGuard .eql t x y (.bool u) (.bool v')).run P w = .ok () w := by
      unfold eqGuard
      split <;> simp [Pure.pure, Sem.run]
    have q : (Op.equal t (.bool u) (.bool v')).run P w = .ok (u == v') w := run_equalIn_bool' w 9999 t u v' ht
    simp only [execOp, ho, hx, hy, Sem.run_bind, e, Result.andThen_ok, binOp, q, Sem.run_pure]
  · rename_i hd
    cases h
    have ht : P.underlying t = some .bool := by
      unfold Xq at hd; split at hd
      · assumption
      · cases hd
    refine bg R (u := .bool (u != v')) ?_ (Rd.g _ rfl)
    have e : (eqGuard .neq t x y (.bool u) (.bool v')).run P w = .ok () w := by
      unfold eqGuard
      split <;> simp [Pure.pure, Sem.run]
    have q : (Op.equal t (.bool u) (.bool v')).run P w = .ok (u == v') w := run_equalIn_bool' w 9999 t u v' ht
    simp only [execOp, ho, hx, hy, Sem.run_bind, e, Result.andThen_ok, binOp, q, Sem.run_pure]
    rfl
  · cases h
theorem Rm (R : Rel w0 Z0 J Z s a w) {op : BinOp} {t t' : TypeId} {x y : Operand} (ho : o.op = .binOp op t x y t') {u v' : TV} {r : Bool} {nd : Prop} (hx : bS w J Z (a.eval x) u) (hy : bS w J Z (a.eval y) v') (h : eqN P t op u v' = some (nd, r)) (hn : nd) :
    Does P w0 Z0 Z s a w nid o (bA r) .nop := by
  unfold eqN at h
  split at h
  · rename_i E n f
    split at h
    · rename_i sd hs
      obtain ⟨e0, ht⟩ : ∃ e0, P.underlying t = some (.slice e0) := by
        unfold oU at hs
        split at hs
        · rename_i e0 hu; exact ⟨e0, hu⟩
        · cases hs
      have hy' : a.eval y = .slice none 0 0 := by
        have hy2 : Rd w Z (a.eval y) (.g (.slice none 0 0)) := hy
        generalize a.eval y = uy at hy2 ⊢
        cases hy2; rfl
      have hx' : 0 < n -> ∃ p cap, a.eval x = .slice (some p) n cap := fun h0 => by
        revert hx
        intro hx
        have hx : Rd w Z (a.eval x) (.lst E n f) := hx
        generalize a.eval x = ux at hx ⊢
        cases hx with
        | nil => exact absurd h0 (Nat.lt_irrefl 0)
        | lst => exact ⟨_, _, rfl⟩
      have main : ∀ op', (op' = .eql \/ op' = .neq) -> 0 < n -> o.op = .binOp op' t x y t' -> Does P w0 Z0 Z s a w nid o (bA (op' matches .neq)) .nop := fun op' h2 h0 ho' => by
        obtain ⟨p, cap, hxx⟩ := hx' h0
        have q : (Op.equal t (.slice (some p) n cap) (.slice none 0 0)).run P w = .ok false w := run_equal_slice_nil w t e0 (some p) n cap ht
        rcases h2 with rfl | rfl
        · refine bg R (u := .bool false) ?_ (Rd.g _ rfl)
          have e : (eqGuard .eql t x y (.slice (some p) n cap) (.slice none 0 0)).run P w = .ok () w := by
            unfold eqGuard
            split <;> simp [Pure.pure, Sem.run]
          simp only [execOp, ho', hxx, hy', Sem.run_bind, e, Result.andThen_ok, binOp, q, Sem.run_pure]
        · refine bg R (u := .bool true) ?_ (Rd.g _ rfl)
          have e : (eqGuard .neq t x y (.slice (some p) n cap) (.slice none 0 0)).run P w = .ok () w := by
            unfold eqGuard
            split <;> simp [Pure.pure, Sem.run]
          simp only [execOp, ho', hxx, hy', Sem.run_bind, e, Result.andThen_ok, binOp, q, Sem.run_pure]
          rfl
      split at h
      · cases h
        exact main .eql (Or.inl rfl) hn ho
      · cases h
        exact main .neq (Or.inr rfl) hn ho
      · cases h
    · cases h
  · cases h
theorem Yg (R : Rel w0 Z0 J Z s a w) {op : BinOp} {t t' : TypeId} {x y : Operand} (ho : o.op = .binOp op t x y t') {u v' : TV} {r : Bool} {ks : Bool × List LK} (hd : ZN P t = some ks) (hx : bS w J Z (a.eval x) u) (hy : bS w J Z (a.eval y) v') (h : eqF op ks u v' = some r) :
    Does P w0 Z0 Z s a w nid o (bA r) .nop := by
  unfold eqF at h
  split at h
  · rename_i l cs ds
    obtain ⟨A, eA, hA⟩ := hx
    obtain ⟨B, eB, hB⟩ := hy
    unfold ZN at hd
    split at hd
    · rename_i fs hu
      split at hd
      · rename_i hg
        split at hd
        · rename_i ks' hk
          cases hd
          have key : ∀ xs ys, Qd l cs = some xs -> Qd l ds = some ys -> (Op.equalIn 10000 t (.agg A) (.agg B)).run P w = .ok (kU xs ys) w := fun xs ys h1 h2 => by
            obtain ⟨a1, a2⟩ := mZ (w := w) (J := J) (Z := Z) h1
            obtain ⟨b1, b2⟩ := mZ (w := w) (J := J) (Z := Z) h2
            have q := MF 8 9992 t l hk xs ys a1 b1 w
            have e1 : ig P t xs = .agg A := by unfold ig; rw [hu, <- a2 _ hA]
            have e2 : ig P t ys = .agg B := by unfold ig; rw [hu, <- b2 _ hB]
            rw [e1, e2] at q
            exact q
          unfold eqC at h
          split at h
          · rename_i xs ys h1 h2
            cases h
            refine bg R (u := .bool (kU xs ys)) ?_ (Rd.g _ rfl)
            simp only [execOp, ho, eA, eB, Sem.run_bind, run_eqGuard_agg w _ t x y A B hg, Result.andThen_ok, run_eql_struct, key xs ys h1 h2, Sem.run_pure]
          · rename_i xs ys h1 h2
            cases h
            refine bg R (u := .bool (!kU xs ys)) ?_ (Rd.g _ rfl)
            simp only [execOp, ho, eA, eB, Sem.run_bind, run_eqGuard_agg w _ t x y A B hg, Result.andThen_ok, run_neq_struct, key xs ys h1 h2, Sem.run_pure]
          · cases h
        · cases hd
      · cases hd
    · cases hd
    · cases hd
  · rename_i l c d
    unfold ZN at hd
    split at hd
    · split at hd
      · split at hd <;> cases hd
      · cases hd
    · rename_i hu
      cases hd
      have one : ∀ (b : CV) (l : List Value) (v : Value), Qd [.str] [b] = some l -> bQ w J Z v b -> ∃ z, v = .string z /\ l = [.string z] := fun b l v h1 hv => by
        obtain ⟨a1, a2⟩ := mZ (w := w) (J := J) (Z := Z) h1
        have := a2 [v] ⟨hv, trivial⟩
        subst this
        cases v <;> simp [aU, LK.ok] at a1
        exact ⟨_, rfl, rfl⟩
      unfold eqC at h
      split at h
      · rename_i xs ys h1 h2
        cases h
        obtain ⟨z1, e1, rfl⟩ := one c xs _ h1 hx
        obtain ⟨z2, e2, rfl⟩ := one d ys _ h2 hy
        refine bg R (u := .bool (kU [.string z1] [.string z2])) ?_ (Rd.g _ rfl)
        have e : (eqGuard .eql t x y (.string z1) (.string z2)).run P w = .ok () w := by
          unfold eqGuard
          split <;> simp [Pure.pure, Sem.run]
        simp only [execOp, ho, e1, e2, Sem.run_bind, e, Result.andThen_ok, binOp, kU, eqV, Bool.and_true]
        simp [Op.stringOp, <- beq_toListBytes, bne]
      · rename_i xs ys h1 h2
        cases h
        obtain ⟨z1, e1, rfl⟩ := one c xs _ h1 hx
        obtain ⟨z2, e2, rfl⟩ := one d ys _ h2 hy
        refine bg R (u := .bool (!kU [.string z1] [.string z2])) ?_ (Rd.g _ rfl)
        have e : (eqGuard .neq t x y (.string z1) (.string z2)).run P w = .ok () w := by
          unfold eqGuard
          split <;> simp [Pure.pure, Sem.run]
        simp only [execOp, ho, e1, e2, Sem.run_bind, e, Result.andThen_ok, binOp, kU, eqV, Bool.and_true]
        simp [Op.stringOp, <- beq_toListBytes, bne]
      · cases h
    · cases hd
  · cases h
theorem JI (R : Rel w0 Z0 J Z s a w) {t : TypeId} {x : Operand} {f off : Nat} (ho : o.op = .fieldAddr t x f) (hf : dB P t f = some off) {y : TV} (hx : bS w J Z (a.eval x) y) {nd : Prop} (h : DT off y = some (nd, v)) (hn : nd) : Does P w0 Z0 Z s a w nid o v .nop := by
  obtain ⟨fs, fd, i, h1, h2, h3, h4, h5⟩ := Lm hf
  subst h5
  have hrun : ∀ b k, a.eval x = .pointer (some ⟨b, k, none⟩) -> (execOp a.eval o).run P w = .ok (.value (.pointer (some ⟨b, k + fd.offset, none⟩))) w := fun b k hb => by
    simp [execOp, ho, hb, Instr.fieldAt, run_underlying h1, h2, Instr.sureAddr, fieldPlace, dO h3, h4, Addr.add_lit]
  unfold DT at h
  split at h
  · rename_i m c
    simp only [Option.some.injEq, Prod.mk.injEq] at h
    obtain ⟨rfl, rfl⟩ := h
    obtain ⟨b, k, X, e, hz, hX⟩ := hx
    refine bg R (hrun b k e) ⟨b, k + fd.offset, fun q => X (fd.offset + q), rfl, hz, fun q hq => ?_⟩
    have := hX (fd.offset + q) (by omega)
    rw [Nat.add_assoc]; exact this
  · rename_i i' o'
    simp only [Option.some.injEq, Prod.mk.injEq] at h
    obtain ⟨rfl, rfl⟩ := h
    obtain ⟨b, e, hj⟩ := hx
    exact bg R (hrun b o' e) ⟨b, rfl, hj⟩
  · cases h
theorem Ky (R : Rel w0 Z0 J Z s a w) {t : TypeId} {x ix : Operand} (ho : o.op = .indexAddr t x ix) {k : IntKind} {n : Int} (hi : a.eval ix = .int k n) {y : TV} (hx : bS w J Z (a.eval x) y) {nd : Prop} (h : Dv (oU P t) (BP P t) n y = some (nd, v)) (hn : nd) : Does P w0 Z0 Z s a w nid o v .nop := by
  unfold Dv at h
  split at h
  · rename_i E len f
    split at h
    · rename_i e b et hsl
      split at h
      · rename_i hE
        subst hE
        simp only [Option.some.injEq, Prod.mk.injEq] at h
        obtain ⟨rfl, rfl⟩ := h
        obtain ⟨i, z, t1, t2, t3, t4, t5, t6, t7⟩ := iB hsl
        subst t5
        generalize hv : a.eval x = vx at hx
        obtain ⟨h0, h1⟩ := hn
        cases hx with
        | nil => omega
        | lst b off m cap _ _ X hz hnc hm g1 g2 =>
          have hrun : (execOp a.eval o).run P w = .ok (.value (.pointer (some ⟨b, off + n.toNat * i.size, none⟩))) w := by
            simp [execOp, ho, hv, hi, Instr.indexAt, asIntOf, run_underlying t1, h0, h1, dO t2, Addr.add_lit]
          refine bg R hrun ⟨b, _, fun q => X n.toNat q, rfl, hz, fun q hq => ⟨g1 _ _ (by omega) hq, g2 _ _ (by omega) hq⟩⟩
      · cases h
    · cases h
  · rename_i j off len E
    split at h
    · rename_i e b et hsl
      split at h
      · rename_i hE
        subst hE
        simp only [Option.some.injEq, Prod.mk.injEq] at h
        obtain ⟨rfl, rfl⟩ := h
        obtain ⟨i, z, t1, t2, t3, t4, t5, t6, t7⟩ := iB hsl
        subst t5
        obtain ⟨h0, h1⟩ := hn
        rcases hx with ⟨rfl, _⟩ | ⟨b, cap, c, e, hv, hj, _, _, hbb, _⟩
        · omega
        have hrun : (execOp a.eval o).run P w = .ok (.value (.pointer (some ⟨b, off + n.toNat * i.size, none⟩))) w := by
          simp [execOp, ho, hv, hi, Instr.indexAt, asIntOf, run_underlying t1, h0, h1, dO t2, Addr.add_lit]
        exact bg R hrun ⟨b, rfl, hj, _, _, hbb⟩
      · cases h
    · cases h
  · rename_i j o'
    split at h
    · rename_i len e har
      simp only [Option.some.injEq, Prod.mk.injEq] at h
      obtain ⟨rfl, rfl⟩ := h
      obtain ⟨et, i, t1, t2, t3⟩ := vH har
      subst t3
      obtain ⟨b, hv, hj⟩ := hx
      obtain ⟨h0, h1⟩ := hn
      have hrun : (execOp a.eval o).run P w = .ok (.value (.pointer (some ⟨b, o' + n.toNat * i.size, none⟩))) w := by
        simp [execOp, ho, hv, hi, Instr.indexAt, asIntOf, run_underlying t1, h0, h1, dO t2, Addr.add_lit, Instr.sureAddr]
      exact bg R hrun ⟨b, rfl, hj⟩
    · cases h
  · rename_i m c
    split at h
    · rename_i len e har
      simp only [Option.some.injEq, Prod.mk.injEq] at h
      obtain ⟨rfl, rfl⟩ := h
      obtain ⟨et, i, t1, t2, t3⟩ := vH har
      subst t3
      obtain ⟨b, off, X, hv, hz, hX⟩ := hx
      obtain ⟨h0, h1⟩ := hn
      have hrun : (execOp a.eval o).run P w = .ok (.value (.pointer (some ⟨b, off + n.toNat * i.size, none⟩))) w := by
        simp [execOp, ho, hv, hi, Instr.indexAt, asIntOf, run_underlying t1, h0, h1, dO t2, Addr.add_lit, Instr.sureAddr]
      refine bg R hrun ⟨b, _, fun q => X (n.toNat * i.size + q), rfl, hz, fun q hq => ?_⟩
      have := hX (n.toNat * i.size + q) (by omega)
      rw [Nat.add_assoc]; exact this
    · cases h
  · cases h
theorem QW (R : Rel w0 Z0 J Z s a w) {c : Call} (ho : o.op = .call c) (hc : c.callee = .builtin .len) {x : Operand} {t : TypeId} (ha : c.args.toList = [x]) (ht : c.argTypes.toList = [t]) {y : TV} (hx : bS w J Z (a.eval x) y) {sl : Bool} (hd : uY P t = some sl) (h : Uj sl y = some v) : Does P w0 Z0 Z s a w nid o v .nop := by
  have ea : c.args = #[x] := by rw [<- Array.toArray_toList (xs := c.args), ha]
  have et : c.argTypes = #[t] := by rw [<- Array.toArray_toList (xs := c.argTypes), ht]
  have hgo : ∀ n : Int, (Builtin.len_ #[t] o.type #[a.eval x]).run P w = .ok (.int .i64 n) w -> bD w J Z (.int .i64 n) v -> Does P w0 Z0 Z s a w nid o v .nop := fun n hn hr => by
    refine bg R (u := .int .i64 n) ?_ hr
    simp [execOp, ho, resolve, hc, invoke, builtin, ea, et, hn]
  unfold uY at hd
  split at hd
  · rename_i e hu
    cases hd
    unfold Uj at h
    split at h
    · cases h
      generalize hv : a.eval x = vx at hx hgo
      cases hx with
      | nil => exact hgo _ (by simp [Builtin.len_, run_underlying hu, goInt]) (Rd.g _ rfl)
      | lst => exact hgo _ (by simp [Builtin.len_, run_underlying hu, goInt]) (Rd.g _ rfl)
    · cases h
      rcases hx with ⟨rfl, hv⟩ | ⟨b, cap, c', e', hv, _⟩
      · rw [hv] at hgo
        exact hgo _ (by simp [Builtin.len_, run_underlying hu, goInt]) (Rd.g _ rfl)
      rw [hv] at hgo
      exact hgo _ (by simp [Builtin.len_, run_underlying hu, goInt]) (Rd.g _ rfl)
    · cases h
      generalize hv : a.eval x = vx at hx hgo
      cases hx
      exact hgo _ (by simp [Builtin.len_, run_underlying hu, goInt]) (Rd.g _ rfl)
    · cases h
    · cases h
  · rename_i hu
    cases hd
    unfold Uj at h
    split at h
    · cases h
    · cases h
    · cases h
    · cases h
      generalize hv : a.eval x = vx at hx hgo
      cases hx
      exact hgo _ (by simp [Builtin.len_, run_underlying hu, goInt]) (Rd.g _ rfl)
    · cases h
  · cases hd
theorem E9 (R : Rel w0 Z0 J Z s a w) : ∀ {l : List Operand} {nd : Prop} {m : List LV}, xW s.ev l = some (nd, m) -> nd -> aU (jR w J Z) (l.map a.eval) m
  | [], _, _, h, _ => by simp only [xW, Option.some.injEq, Prod.mk.injEq] at h; obtain ⟨rfl, rfl⟩ := h; trivial
  | x :: l, _, _, h, hn => by
    unfold xW at h
    split at h
    · rename_i u nd' m' h1 h2
      simp only [Option.some.injEq, Prod.mk.injEq] at h
      obtain ⟨rfl, rfl⟩ := h
      obtain ⟨t, ht, hu⟩ := bV h1
      have hx := bD.tv (R.ev x) ht hn.1
      refine ⟨?_, E9 R h2 hn.2⟩
      unfold TV.lv at hu
      split at hu <;> cases hu
      · exact hx
      · exact hx
      · exact hx
    · cases h
theorem wM (R : Rel w0 Z0 J Z s a w) : ∀ {l : List (Nat × Operand)} {nd : Prop} {m : List (Nat × TV)}, jA s.ev l = some (nd, m) -> nd -> aU (fun p q => p.1 = q.1 /\ bS w J Z p.2 q.2) (l.map fun p => (p.1, a.eval p.2)) m
  | [], _, _, h, _ => by simp only [jA, Option.some.injEq, Prod.mk.injEq] at h; obtain ⟨rfl, rfl⟩ := h; trivial
  | (i, x) :: l, _, _, h, hn => by
    unfold jA at h
    split at h
    · rename_i u nd' m' h1 h2
      simp only [Option.some.injEq, Prod.mk.injEq] at h
      obtain ⟨rfl, rfl⟩ := h
      exact ⟨⟨rfl, bD.tv (R.ev x) h1 hn.1⟩, wM R h2 hn.2⟩
    · cases h
theorem Gy (off : Nat) : ∀ (l : List Value) (k : Nat) (A : Array Value), off + k + l.length <= A.size -> ((l.zipIdx k).foldl (fun (cs : Array Value) p => cs.setIfInBounds (off + p.2) p.1) A).toList = A.toList.take (off + k) ++ l ++ A.toList.drop (off + k + l.length)
  | [], k, A, _ => by simp
  | v :: l, k, A, h => by
    rw [List.zipIdx_cons, List.foldl_cons, Gy off l (k + 1) _ (by simp at h ⊢; omega)]
    have := list_seg_step A.toList (off + k) v l (by simp at h ⊢; omega)
    simpa [Array.toList_setIfInBounds, Nat.add_assoc] using this
theorem AP {place : Nat -> Option (Nat × Nat)} : ∀ {l : List (Nat × Value)} {m : List (Nat × TV)} {A : Array Value} {cs out : List CV}, aU (fun p q => p.1 = q.1 /\ bS w J Z p.2 q.2) l m -> aU (bQ w J Z) A.toList cs -> oN place cs m = some out ->
    ∃ B, Instr.fill place A l = some B /\ aU (bQ w J Z) B.toList out
  | [], [], A, cs, out, _, hA, h => by simp only [oN, Option.some.injEq] at h; subst h; exact ⟨A, rfl, hA⟩
  | (i, v) :: l, (j, u) :: m, A, cs, out, ⟨⟨h1, h2⟩, h3⟩, hA, h => by
    simp only at h1 h2
    subst h1
    unfold oN at h
    split at h
    · cases h
    · rename_i off size hp
      split at h
      · rename_i hk
        have hv := bS.cells h2
        have hl := hv.length
        have hlA := hA.length
        simp only [Array.length_toList] at hl hlA
        have hseg := Gy off v.cells.toList 0 A (by simp; omega)
        simp only [Nat.add_zero] at hseg
        have hB : aU (bQ w J Z) ((v.cells.toList.zipIdx 0).foldl (fun (cs : Array Value) p => cs.setIfInBounds (off + p.2) p.1) A).toList (cs.take off ++ u.cells ++ cs.drop (off + size)) := by
          rw [hseg]
          have e : off + v.cells.toList.length = off + size := by simp; omega
          rw [e]
          exact ((hA.take off).append hv).append (hA.drop (off + size))
        obtain ⟨B, hb, hr⟩ := AP h3 hB h
        refine ⟨B, ?_, hr⟩
        have hcond : (v.cells.size ≠ size || off + v.cells.size > A.size) = false := by simp; omega
        unfold Instr.fill
        simp only [hp]
        rw [if_neg (by simpa using hcond)]
        rw [<- hb]
        congr 1
        rw [<- Array.foldl_toList, Array.toList_zipIdx]
      · cases h
theorem xg (P : Program) : ∀ (l : List Field), (∀ f ∈ l, (P.info? f.type).isSome = true) -> (l.mapM fun f => (do pure (f.offset, <- sizeOf f.type) : Sem (Nat × Nat))).run P w = .ok (l.map fun f => (f.offset, P.cellsOf f.type)) w
  | [], _ => rfl
  | f :: l, h => by
    obtain ⟨i, hi⟩ := Option.isSome_iff_exists.1 (h f (by simp))
    have ih := xg P l fun g hg => h g (by simp [hg])
    have hc : P.cellsOf f.type = i.size := by simp [Program.cellsOf, hi]
    rw [List.mapM_cons]
    simp only [Sem.run_bind, dO hi, Result.andThen_ok, Sem.run_pure, ih, List.map_cons, hc]
theorem Lx (R : Rel w0 Z0 J Z s a w) {t : TypeId} {ps : Array (Nat × Operand)} (ho : o.op = .build t ps) (hs : fF P t = true) {z : List CV} (hz : eX P t = some z) {nd : Prop} {l : List (Nat × TV)} (hp : jA s.ev ps.toList = some (nd, l)) (hn : nd) {cs : List CV} (hf : oN (cZ P t) z l = some cs) : Does P w0 Z0 Z s a w nid o (.t (.agg cs)) .nop := by
  obtain ⟨i, zv, h1, h2, rfl, h3⟩ := lY hz
  have hpr := wM R hp hn
  obtain ⟨B, hB, hr⟩ := AP hpr (sQ (w := w) (J := J) (Z := Z) _ h3) hf
  refine bg R (u := .agg B) ?_ ⟨B, rfl, hr⟩
  have hz' : (zeroValue t).run P w = .ok zv w := by simp [zeroValue, typeInfo, h1, h2]
  have hlst : (ps.map fun p => (p.1, a.eval p.2)).toList = ps.toList.map fun p => (p.1, a.eval p.2) := by simp
  unfold fF at hs
  split at hs
  · rename_i fs hu
    have hpl : cZ P t = fun k => ((fs.toList.map fun f => (f.offset, P.cellsOf f.type)).toArray)[k]? := by
      funext k
      simp only [cZ, hu]
      simp only [List.getElem?_toArray, List.getElem?_map, Array.getElem?_toList]
      cases hk : fs[k]? with
      | none => rfl
      | some f =>
        have hm : f ∈ fs.toList := by
          rw [<- Array.getElem?_toList] at hk
          exact List.mem_of_getElem? hk
        obtain ⟨q, hq⟩ := Option.isSome_iff_exists.1 (List.all_eq_true.1 hs f hm)
        simp [hq, Program.cellsOf]
    have hmm : (fs.mapM fun f => (do pure (f.offset, <- sizeOf f.type) : Sem (Nat × Nat))).run P w = .ok (fs.toList.map fun f => (f.offset, P.cellsOf f.type)).toArray w := by
      rw [<- Array.toArray_toList (xs := fs), List.mapM_toArray]
      simp only [Sem.run_map, xg P fs.toList (fun f hf => List.all_eq_true.1 hs f hf), Result.andThen_ok]
    rw [hpl] at hB
    simp only [execOp, ho, Instr.build, Sem.run_bind, hz', Result.andThen_ok, run_underlying hu, hmm]
    rw [hlst, hB]
    rfl
  · rename_i n e hu
    obtain ⟨q, hq⟩ := Option.isSome_iff_exists.1 hs
    have hpl : cZ P t = fun k => some (k * q.size, q.size) := by
      funext k
      simp only [cZ, hu, hq]
    rw [hpl] at hB
    simp only [execOp, ho, Instr.build, Sem.run_bind, hz', Result.andThen_ok, run_underlying hu, dO hq]
    rw [hlst, hB]
    rfl
  · cases hs
theorem uz (z : List Value) : ∀ n, nV (z.map fun v => CV.iv (.g v)) n = ((List.replicate n z).flatten).map fun v => CV.iv (.g v)
  | 0 => rfl
  | n + 1 => by rw [nV, uz z n, List.replicate_succ, List.flatten_cons, List.map_append]
theorem w9 (z : Array Value) (n : Nat) : ((Array.range (n * z.size)).map (fun k => z[k % z.size]!)).toList = (List.replicate n z.toList).flatten := by
  induction n with
  | zero => simp
  | succ n ih =>
    rw [List.replicate_succ', List.flatten_append, <- ih]
    simp only [Array.toList_map, Array.toList_range, List.flatten_cons, List.flatten_nil, List.append_nil]
    rw [Nat.add_mul, Nat.one_mul, List.range_add, List.map_append]
    congr 1
    apply List.ext_getElem
    · simp
    · intro k h1 h2
      simp only [List.length_map, List.length_range] at h1
      simp only [List.getElem_map, List.getElem_range]
      rw [Nat.add_comm, Nat.add_mul_mod_self_right, Nat.mod_eq_of_lt h1]
      simp [h1]
theorem x9 (R : Rel w0 Z0 J Z s a w) (hh : hget s.heap nid = none) {t e : TypeId} {n E b : Nat} {ps : Array (Nat × Operand)} (ho : o.op = .buildSlice t n ps) (hs : oU P t = some (E, b, e)) {z : List CV} (hz : eX P e = some z) {nd : Prop} {l : List (Nat × TV)} (hp : jA s.ev ps.toList = some (nd, l)) (hn : nd) {cs : List CV} (hf : oN (fun i => some (i * E, E)) (nV z n) l = some cs)
    (hsz : n * E <= 16777216 /\ 0 < n) : Does P w0 Z0 Z s a w nid o (.t (.one (.slc nid 0 n E))) (.new cs) := by
  obtain ⟨i, zv, t1, t2, t3, t4, t5, t6, t7⟩ := iB hs
  obtain ⟨i', zv', h1, h2, rfl, h3⟩ := lY hz
  obtain rfl : i' = i := by rw [t2] at h1; exact (Option.some.inj h1).symm
  obtain rfl : zv' = zv := by rw [t3] at h2; exact (Option.some.inj h2).symm
  subst t5
  have hpr := wM R hp hn
  have hall : aU (bQ w J Z) ((Array.range (n * i'.size)).map (fun k => zv'.cells[k % zv'.cells.size]!)).toList (nV (zv'.cells.toList.map fun v => CV.iv (.g v)) n) := by
    rw [uz, <- t4, w9]
    exact sQ _ fun v hv => by
      obtain ⟨x, hx, hy⟩ := List.mem_flatten.1 hv
      rw [(List.mem_replicate.1 hx).2] at hy
      exact h3 v hy
  obtain ⟨B, hB, hr⟩ := AP hpr hall hf
  have hlst : (ps.map fun p => (p.1, a.eval p.2)).toList = ps.toList.map fun p => (p.1, a.eval p.2) := by simp
  have hz' : (zeroValue e).run P w = .ok zv' w := by simp [zeroValue, typeInfo, h1, h2]
  have hne : ¬ n * i'.size = 0 := by
    have := Nat.mul_pos hsz.2 t7
    omega
  have hle : ¬ 16777216 < n * i'.size := by omega
  have hlen : B.size = n * i'.size := by
    have h1 := hr.length
    have : ∀ (l : List (Nat × TV)) (c1 c2 : List CV), oN (fun i => some (i * i'.size, i'.size)) c1 l = some c2 -> c2.length = c1.length := by
      intro l
      induction l with
      | nil => intro c1 c2 h; simp only [oN, Option.some.injEq] at h; subst h; rfl
      | cons p l ih =>
        intro c1 c2 h
        obtain ⟨k, u⟩ := p
        unfold oN at h
        simp only at h
        split at h
        · rename_i hk
          rw [ih _ _ h]; simp; omega
        · cases h
    have h2 := this l _ _ hf
    have h3 := hall.length
    simp at h1 h3 h2
    omega
  have hrun : (execOp a.eval o).run P w = .ok (.value (.slice (some ⟨w.heap.size, 0, none⟩) n n)) (w.alloc (.cells B e)) := by
    simp only [execOp, ho, Instr.buildSlice, Sem.run_bind, run_underlying t1, Result.andThen_ok, dO t2]
    simp [hne, hle, hz', newRow]
    rw [hB]
    simp
  refine pJ R hh hrun hr fun w' J' hj hb => Or.inr ⟨_, n, B, e, rfl, hj, Nat.le_refl _, ?_, hb, by omega⟩
  have : n <= n * i'.size := Nat.le_mul_of_pos_right n t7
  unfold maxLen; omega
theorem AL (R : Rel w0 Z0 J Z s a w) (hh : hget s.heap nid = none) {t e : TypeId} {E b : Nat} {ps : Array (Nat × Operand)} (ho : o.op = .buildSlice t 0 ps) (hs : oU P t = some (E, b, e)) {nd : Prop} (hp : jA s.ev ps.toList = some (nd, [])) : Does P w0 Z0 Z s a w nid o (.t (.one (.slc nid 0 0 E))) (.new []) := by
  obtain ⟨i, zv, t1, t2, t3, t4, t5, t6, t7⟩ := iB hs
  have hps : ps.toList = [] := by
    cases hq : ps.toList with
    | nil => rfl
    | cons p l =>
      rw [hq] at hp
      obtain ⟨k, x⟩ := p
      unfold jA at hp
      split at hp
      · simp at hp
      · cases hp
  have hps' : ps = #[] := by rw [<- Array.toArray_toList (xs := ps), hps]
  subst hps'
  have hrun : (execOp a.eval o).run P w = .ok (.value (.slice (some ⟨w.heap.size, 0, none⟩) 0 0)) (w.alloc (.cells #[] e)) := by
    simp only [execOp, ho, Instr.buildSlice, Sem.run_bind, run_underlying t1, Result.andThen_ok, dO t2]
    simp [newRow, Instr.fill]
    have h0 : (Array.range 0) = (#[] : Array Nat) := by simp [Array.range]
    rw [h0, Array.map_empty]
  exact pJ R hh (C := #[]) (e := e) hrun (by simp [aU]) fun w' J' hj hb => Or.inr ⟨_, 0, #[], e, rfl, hj, Nat.le_refl _, by unfold maxLen; omega, hb, by simp⟩
end
end Go.Sea
namespace Go.Sea
open Go.RowKit MapKept
theorem pz {P : Program} {t e : TypeId} (h : Jr P t = some e) : ∃ k, P.underlying t = some (.map k e) /\ P.underlying k = some (.int .i64) := by
  unfold Jr at h
  split at h
  · split at h
    · cases h; exact ⟨_, by assumption, by assumption⟩
    · cases h
  · cases h
theorem Mi {w : World} {Z : Nat -> Prop} : ∀ (l : List Value), (∀ v ∈ l, v.oneCell' = true) -> aU (Rd w Z) l (l.map .g)
  | [], _ => trivial
  | v :: l, h => ⟨Rd.g v (h v (by simp)), Mi l fun x hx => h x (by simp [hx])⟩
theorem Hw {P : Program} {e : TypeId} {x : PT} (h : XE P e = some x) : ∃ zv, (∀ w, (zeroValue e).run P w = .ok zv w) /\ ∀ (w : World) (Z : Nat -> Prop), bZ w Z zv x := by
  unfold XE at h
  split at h
  · rename_i i h1
    split at h
    · rename_i A h2
      split at h
      · rename_i h3
        cases h
        refine ⟨.agg A, fun w => by simp [zeroValue, typeInfo, h1, h2], fun w Z => ⟨A, rfl, Mi _ fun v hv => ?_⟩⟩
        rw [Array.all_eq_true'] at h3
        exact h3 v (by simpa using hv)
      · cases h
    · rename_i v h2 h3
      split at h
      · rename_i h4
        cases h
        exact ⟨v, fun w => by simp [zeroValue, typeInfo, h1, h3], fun w Z => Rd.g v h4⟩
      · cases h
    · cases h
  · cases h
theorem N9 {w : World} {J : Nat -> Option Nat} {Z : Nat -> Prop} : ∀ {l : List Value} {cs : List CV} {m : List IV}, aU (bQ w J Z) l cs -> OG cs = some m -> aU (Rd w Z) l m
  | [], [], _, _, h => by simp only [OG, Option.some.injEq] at h; subst h; trivial
  | v :: l, c :: cs, _, ⟨h1, h2⟩, h => by
    unfold OG at h
    split at h
    · rename_i e; cases e
    · rename_i e
      cases e
      split at h
      · rename_i m' h3
        cases h
        exact ⟨h1, N9 h2 h3⟩
      · cases h
    · cases h
theorem G6 {w : World} {J : Nat -> Option Nat} {Z : Nat -> Prop} {v : Value} {x : TV} {y : PT} (h : bS w J Z v x) (h1 : TB x = some y) : bZ w Z v y := by
  unfold TB at h1
  split at h1
  · cases h1; exact h
  · split at h1
    · rename_i l h2
      cases h1
      obtain ⟨A, e, h⟩ := h
      exact ⟨A, e, N9 h h2⟩
    · cases h1
  · cases h1
section
variable {w0 : World} {Z0 : Fr} {J J' : Nat -> Option Nat} {Z Z' : Nat -> Prop} {s s' : AS} {a : Act} {w w' : World} {P : Program} {o : Oper} {nid : Nat} {v : AV} {ef : Eff}
theorem Rel.ac9 (R : Rel w0 Z0 J Z s a w) {nid : Nat} {cs : List CV} {o : Obj} (hh : hget s.heap nid = none) (hB : iO (w.alloc o) (gI J nid w.heap.size) Z w.heap.size cs) : Rel w0 Z0 (gI J nid w.heap.size) Z { s with heap := hset s.heap nid cs } a (w.alloc o) := by
  have G : Grow (fun _ => True) w J Z (w.alloc o) (gI J nid w.heap.size) Z := by
    refine ⟨fun i b _ h => ?_, fun _ h => h, fun b hz hb => Below.heap_alloc _ _ _ hb.lt, fun i b _ h c' e' f' hb => ⟨c', ?_, rfl⟩, fun b o hb _ => (Below.heap_alloc _ _ _ (Array.getElem?_eq_some_iff.1 hb).1).trans hb⟩
    · unfold gI
      rw [if_neg]
      · exact h
      · rintro rfl; rw [R.hole _ hh] at h; cases h
    · rw [Below.heap_alloc _ _ _ (R.jlt i b h).2.1]; exact hb
  have hsz : (w.alloc o).heap.size = w.heap.size + 1 := by simp
  refine R.step G ((Below.refl _ _).alloc (R.below.size) _) R.zfrom (fun b h => by have := R.zlt b h; omega) (fun i b h => ?_) (fun i j b hi hj => ?_) rfl (fun i h => ?_) (fun i x h hne => ?_) (fun t => Or.inr ⟨rfl, AV.bM _⟩) (fun _ t => Or.inr ⟨rfl, AV.bM _⟩)
  · unfold gI at h
    split at h
    · cases h; exact ⟨R.below.size, by omega, fun hz => by have := R.zlt _ hz; omega⟩
    · have := R.jlt i b h; exact ⟨this.1, by omega, this.2.2⟩
  · unfold gI at hi hj
    split at hi <;> split at hj
    · omega
    · cases hi; have := R.jlt j _ hj; omega
    · cases hj; have := R.jlt i _ hi; omega
    · exact R.inj i j b hi hj
  · unfold gI
    by_cases k : i = nid
    · subst k; simp [bn] at h
    · rw [if_neg k]; simp only [bE _ _ _ _ k] at h; exact R.hole i h
  · by_cases k : i = nid
    · subst k
      simp only [bn, Option.some.injEq] at h
      subst h
      exact ⟨w.heap.size, by simp [gI], hB⟩
    · simp only [bE _ _ _ _ k] at h
      exact R.keep G h hne trivial (fun c _ => c.bM) fun b g1 _ => Below.heap_alloc _ _ _ (R.jlt i b g1).2.1
abbrev nQ (w : World) (b : Nat) (o : Obj) : World := { w with heap := w.heap.setIfInBounds b o }
theorem fU {b b' : Nat} {o : Obj} (h : b' ≠ b) : (nQ w b o).heap[b']? = w.heap[b']? := by simp [Ne.symm h]
theorem iI {b : Nat} {o : Obj} (h : b < w.heap.size) : (nQ w b o).heap[b]? = some o := by simp [h]
theorem Rel.Io (R : Rel w0 Z0 J Z s a w) {i b : Nat} {cs : List CV} {es es' : Array MapEntry} {clock clock' : Nat} (h0 : (hget s.heap i).isSome = true) (hj : J i = some b) (hb : w.heap[b]? = some (.map es clock)) (hc : clock <= clock')
    (hsub : clock' = clock -> ∀ x, x ∈ es'.toList -> ∃ y, y ∈ es.toList /\ y.born = x.born /\ y.key = x.key) (hB : kE (fun _ => True) w J Z (nQ w b (.map es' clock')) J Z -> iO (nQ w b (.map es' clock')) J Z b cs) :
    Rel w0 Z0 J Z { s with heap := hset s.heap i cs } a (nQ w b (.map es' clock')) := by
  have hne : ∀ {b' : Nat} {o : Obj}, w.heap[b']? = some o -> (∀ e c, o ≠ .map e c) -> b' ≠ b := fun h k e => by subst e; rw [hb] at h; cases h; exact k _ _ rfl
  have G : kE (fun _ => True) w J Z (nQ w b (.map es' clock')) J Z :=
    ⟨fun _ _ _ h => h, fun _ h => h, fun b' _ ⟨c, e, f, h⟩ => fU (hne h fun _ _ q => by cases q), fun k b' _ _ c e f h => ⟨c, (fU (hne h fun _ _ q => by cases q)).trans h, rfl⟩⟩
  have hlt := R.jlt i b hj
  have hs' : (nQ w b (.map es' clock')).heap[b]? = some (.map es' clock') := by simp [hlt.2.1]
  refine ⟨?_, R.size, R.below.trans ⟨rfl, rfl, rfl, by simp, fun k hk => fU (by omega)⟩, R.zfrom, fun c h => by have := R.zlt c h; simpa using this, fun k c h => by have := R.jlt k c h; simpa using this, R.inj, fun k h => ?_, fun k x h hn => ?_, fun t => bD.dK G (AV.bM _) (R.slots t), fun f t => bD.dK G (AV.bM _) (R.ghost f t), fun x hx => ?_, R.lnd, R.ro, R.tab⟩
  · obtain ⟨M, h1, h2, h3⟩ := R.nodef
    exact ⟨M, h1, h2, fun c hc => ⟨(h3 c hc).1, (fU (hne (h3 c hc).2 fun _ _ q => by cases q)).trans (h3 c hc).2⟩⟩
  · by_cases q : k = i
    · subst q; simp [bn] at h
    · simp only [bE _ _ _ _ q] at h; exact R.hole k h
  · by_cases q : k = i
    · subst q
      simp only [bn, Option.some.injEq] at h
      subst h
      exact ⟨b, hj, hB G⟩
    · simp only [bE _ _ _ _ q] at h
      obtain ⟨b', g1, g2⟩ := R.blk k x h hn
      have hbb : b' ≠ b := fun e => q (R.inj k i b (e ▸ g1) hj)
      have hh := fU (w := w) (o := .map es' clock') hbb
      refine ⟨b', g1, ?_⟩
      unfold iO at g2 ⊢
      split at g2
      · obtain ⟨rfl, e1, c1, k1, k2, k3⟩ := g2
        exact ⟨rfl, e1, c1, hh.trans k1, k2, k3.mono G.zz G.blk⟩
      · obtain ⟨rfl, e1, c1, k1, k3⟩ := g2
        exact ⟨rfl, e1, c1, hh.trans k1, k3.mono G.zz G.blk⟩
      · obtain ⟨rfl, e1, c1, k1, k2, k3⟩ := g2
        exact ⟨rfl, e1, c1, hh.trans k1, k2, k3.mono fun _ _ hr => ⟨hr.1, bQ.dK G (CV.bM _) hr.2⟩⟩
      · obtain ⟨rfl, m, seen, e1, c1, k1, k2, k3, k4, k5⟩ := g2
        by_cases hm : m = b
        · subst hm
          rw [hb] at k3
          cases k3
          refine ⟨rfl, m, seen, es', clock', hh.trans k1, k2, hs', Nat.le_trans k4 hc, fun e x hx kk hk => ?_⟩
          have e2 : clock' = clock := by omega
          obtain ⟨y, hy, hy1, hy2⟩ := hsub e2 x hx
          rw [<- hy1]
          exact k5 (by omega) y hy kk (hy2.trans hk)
        · exact ⟨rfl, m, seen, e1, c1, hh.trans k1, k2, (fU hm).trans k3, k4, k5⟩
      · rcases g2 with ⟨c, e, k1, k2⟩ | ⟨⟨o, k1, k2⟩, k3⟩
        · exact Or.inl ⟨c, e, hh.trans k1, k2.mono fun _ y => bQ.dK G (CV.bM _)⟩
        · exact Or.inr ⟨⟨o, hh.trans k1, k2⟩, k3⟩
  · obtain ⟨fn, tmps, dd, q0, q1, q2⟩ := R.loops x hx
    exact ⟨fn, tmps, dd, q0, (fU (hne q1 fun _ _ q => by cases q)).trans q1, q2⟩
theorem Rel.ajq (R : Rel w0 Z0 J Z s a w) {i b : Nat} {cs : List CV} {m : Option Nat} {c0 c1 c2 : Nat} {sn sn' : Array Nat} (h0 : (hget s.heap i).isSome = true) (hj : J i = some b) (hb : w.heap[b]? = some (.mapIter m c0 sn c1))
    (hB : kE (fun _ => True) w J Z (nQ w b (.mapIter m c0 sn' c2)) J Z -> iO (nQ w b (.mapIter m c0 sn' c2)) J Z b cs) :
    Rel w0 Z0 J Z { s with heap := hset s.heap i cs } a (nQ w b (.mapIter m c0 sn' c2)) := by
  have hne : ∀ {b' : Nat} {o : Obj}, w.heap[b']? = some o -> (∀ x y z t, o ≠ .mapIter x y z t) -> b' ≠ b := fun h k e => by subst e; rw [hb] at h; cases h; exact k _ _ _ _ rfl
  have G : kE (fun _ => True) w J Z (nQ w b (.mapIter m c0 sn' c2)) J Z :=
    ⟨fun _ _ _ h => h, fun _ h => h, fun b' _ ⟨c, e, f, h⟩ => fU (hne h fun _ _ _ _ q => by cases q), fun k b' _ _ c e f h => ⟨c, (fU (hne h fun _ _ _ _ q => by cases q)).trans h, rfl⟩⟩
  have hlt := R.jlt i b hj
  refine ⟨?_, R.size, R.below.trans ⟨rfl, rfl, rfl, by simp, fun k hk => fU (by omega)⟩, R.zfrom, fun c h => by have := R.zlt c h; simpa using this, fun k c h => by have := R.jlt k c h; simpa using this, R.inj, fun k h => ?_, fun k x h hn => ?_, fun t => bD.dK G (AV.bM _) (R.slots t), fun f t => bD.dK G (AV.bM _) (R.ghost f t), fun x hx => ?_, R.lnd, R.ro, R.tab⟩
  · obtain ⟨M, h1, h2, h3⟩ := R.nodef
    exact ⟨M, h1, h2, fun c hc => ⟨(h3 c hc).1, (fU (hne (h3 c hc).2 fun _ _ _ _ q => by cases q)).trans (h3 c hc).2⟩⟩
  · by_cases q : k = i
    · subst q; simp [bn] at h
    · simp only [bE _ _ _ _ q] at h; exact R.hole k h
  · by_cases q : k = i
    · subst q
      simp only [bn, Option.some.injEq] at h
      subst h
      exact ⟨b, hj, hB G⟩
    · simp only [bE _ _ _ _ q] at h
      obtain ⟨b', g1, g2⟩ := R.blk k x h hn
      have hbb : b' ≠ b := fun e => q (R.inj k i b (e ▸ g1) hj)
      have hh := fU (w := w) (o := .mapIter m c0 sn' c2) hbb
      refine ⟨b', g1, ?_⟩
      unfold iO at g2 ⊢
      split at g2
      · obtain ⟨rfl, e1, c1, k1, k2, k3⟩ := g2
        exact ⟨rfl, e1, c1, hh.trans k1, k2, k3.mono G.zz G.blk⟩
      · obtain ⟨rfl, e1, c1, k1, k3⟩ := g2
        exact ⟨rfl, e1, c1, hh.trans k1, k3.mono G.zz G.blk⟩
      · obtain ⟨rfl, e1, c1, k1, k2, k3⟩ := g2
        exact ⟨rfl, e1, c1, hh.trans k1, k2, k3.mono fun _ _ hr => ⟨hr.1, bQ.dK G (CV.bM _) hr.2⟩⟩
      · obtain ⟨rfl, m, seen, e1, c1, k1, k2, k3, k4⟩ := g2
        exact ⟨rfl, m, seen, e1, c1, hh.trans k1, k2, (fU (hne k3 fun _ _ _ _ q => by cases q)).trans k3, k4⟩
      · rcases g2 with ⟨c, e, k1, k2⟩ | ⟨⟨o, k1, k2⟩, k3⟩
        · exact Or.inl ⟨c, e, hh.trans k1, k2.mono fun _ y => bQ.dK G (CV.bM _)⟩
        · exact Or.inr ⟨⟨o, hh.trans k1, k2⟩, k3⟩
  · obtain ⟨fn, tmps, dd, q0, q1, q2⟩ := R.loops x hx
    exact ⟨fn, tmps, dd, q0, (fU (hne q1 fun _ _ _ _ q => by cases q)).trans q1, q2⟩
theorem Rel.tell (R : Rel w0 Z0 J Z s a w) {i : Nat} {cs : List CV} (h0 : (hget s.heap i).isSome = true) (hB : cs ≠ [] -> ∃ b, J i = some b /\ iO w J Z b cs) : Rel w0 Z0 J Z { s with heap := hset s.heap i cs } a w :=
  ⟨R.nodef, R.size, R.below, R.zfrom, R.zlt, R.jlt, R.inj, fun k h => by
    by_cases q : k = i
    · subst q; simp [bn] at h
    · simp only [bE _ _ _ _ q] at h; exact R.hole k h, fun k x h hn => by
    by_cases q : k = i
    · subst q
      simp only [bn, Option.some.injEq] at h
      subst h
      exact hB hn
    · simp only [bE _ _ _ _ q] at h
      exact R.blk k x h hn, R.slots, R.ghost, R.loops, R.lnd, R.ro, R.tab⟩
theorem iW.keys {es : Array MapEntry} {clock n : Nat} {f : Int -> Option PT} (h : iW w Z es clock n f) : ∀ x ∈ es.toList, IsKey (.int .i64) x.key := fun x hx => by
  obtain ⟨k, y, k1, _⟩ := h.2.2.1 x hx
  rw [k1]; exact rfl
theorem QY.keys {es : Array MapEntry} {clock : Nat} {l : List (Int × Fn × List LV × List LV)} (h : QY w J Z es clock l) : ∀ x ∈ es.toList, IsKey (.int .i64) x.key := fun x hx => by
  obtain ⟨j, hj, e⟩ := List.getElem_of_mem hx
  have hl := h.2.length
  have : ∃ y, l[j]? = some y := ⟨l[j]'(by omega), List.getElem?_eq_getElem (by omega)⟩
  obtain ⟨y, hy⟩ := this
  obtain ⟨x', hx', hr⟩ := h.2.get hy
  rw [List.getElem?_eq_getElem hj, Option.some.injEq] at hx'
  rw [<- e, hx', hr.1]; exact rfl
theorem iW.DC {es : Array MapEntry} {clock n : Nat} {f : Int -> Option PT} (h : iW w Z es clock n f) {k : Int} (hk : ∀ x ∈ es.toList, x.key ≠ .int .i64 k) {u : Value} {x : PT} (hx : bZ w Z u x) :
    iW w Z (es.push { key := .int .i64 k, val := u, born := clock }) (clock + 1) (mE n f k) (jF f k x) := by
  obtain ⟨h1, h2, h3, h4⟩ := h
  have hf := h4 k hk
  refine ⟨by simp [mE, hf, h1], stamped_push h2 hk, fun y hy => ?_, fun j hj => ?_⟩
  · simp only [Array.toList_push, List.mem_append, List.mem_singleton] at hy
    rcases hy with hy | rfl
    · obtain ⟨j, z, k1, k2, k3⟩ := h3 y hy
      have : j ≠ k := fun e => hk y hy (by rw [k1, e])
      exact ⟨j, z, k1, by simp only [jF, if_neg this]; exact k2, k3⟩
    · exact ⟨k, x, rfl, by simp [jF], hx⟩
  · have hjk : j ≠ k := fun e => hj _ (by simp only [Array.toList_push, List.mem_append, List.mem_singleton]; exact Or.inr rfl) (by rw [e])
    simp only [jF, if_neg hjk]
    exact h4 j fun y hy => hj y (by simp only [Array.toList_push, List.mem_append, List.mem_singleton]; exact Or.inl hy)
theorem D8 {es : Array MapEntry} (h : (es.toList.map (·.key)).Nodup) {i j : Nat} {x y : MapEntry} (hi : es[i]? = some x) (hj : es[j]? = some y) (e : x.key = y.key) : i = j := by
  have h1 : (es.toList.map (·.key))[i]? = some x.key := by simp [hi]
  have h2 : (es.toList.map (·.key))[j]? = some y.key := by simp [hj]
  rw [e] at h1
  obtain ⟨l1, e1⟩ := List.getElem?_eq_some_iff.1 h1
  obtain ⟨l2, e2⟩ := List.getElem?_eq_some_iff.1 h2
  have hp := List.pairwise_iff_getElem.1 h
  rcases Nat.lt_trichotomy i j with hl | hl | hl
  · exact absurd (e1.trans e2.symm) (hp i j l1 l2 hl)
  · exact hl
  · exact absurd (e2.trans e1.symm) (hp j i l2 l1 hl)
theorem mK {es : Array MapEntry} {x : MapEntry} (h : x ∈ es.toList) : ∃ i : Nat, es[i]? = some x := by
  obtain ⟨i, hi, e⟩ := List.getElem_of_mem h
  exact ⟨i, by rw [<- Array.getElem?_toList, List.getElem?_eq_getElem hi, e]⟩
theorem at_mem {es : Array MapEntry} {x : MapEntry} {i : Nat} (h : es[i]? = some x) : x ∈ es.toList := Array.mem_toList_iff.2 (Array.mem_of_getElem? h)
theorem iW.Dm {es : Array MapEntry} {clock n : Nat} {f : Int -> Option PT} (h : iW w Z es clock n f) {k : Int} {j : Nat} {e : MapEntry} (hj : es[j]? = some e) (hk : e.key = .int .i64 k) {u : Value} {x : PT} (hx : bZ w Z u x) :
    iW w Z (es.modify j fun e => { e with key := .int .i64 k, val := u }) clock (mE n f k) (jF f k x) := by
  obtain ⟨h1, h2, h3, h4⟩ := h
  have hf : (f k).isSome = true := by
    obtain ⟨k', y, k1, k2, _⟩ := h3 e (at_mem hj)
    rw [hk] at k1; cases k1
    rw [k2]; rfl
  have hkey : ∀ e', es[j]? = some e' -> ({ e' with key := .int .i64 k, val := u } : MapEntry).key = e'.key := fun e' he' => by rw [hj] at he'; cases he'; exact hk.symm
  refine ⟨by simp [mE, hf, h1], stamped_modify h2 _ _ (fun _ _ => rfl) (fun e' _ he' => hkey e' he'), fun y hy => ?_, fun q hq => ?_⟩
  · obtain ⟨i, hi⟩ := mK hy
    rw [Array.getElem?_modify] at hi
    by_cases hij : j = i
    · subst hij
      rw [if_pos rfl, hj, Option.map_some, Option.some.injEq] at hi
      subst hi
      exact ⟨k, x, rfl, by simp [jF], hx⟩
    · rw [if_neg hij] at hi
      obtain ⟨q, z, k1, k2, k3⟩ := h3 y (at_mem hi)
      have : q ≠ k := fun e' => hij (D8 h2.2.2 hj hi (by rw [hk, k1, e']))
      exact ⟨q, z, k1, by simp only [jF, if_neg this]; exact k2, k3⟩
  · have hqk : q ≠ k := fun e' => by
      refine hq { e with key := .int .i64 k, val := u } (at_mem (i := j) ?_) (by rw [e'])
      rw [Array.getElem?_modify, if_pos rfl, hj]; rfl
    simp only [jF, if_neg hqk]
    refine h4 q fun y hy => ?_
    obtain ⟨i, hi⟩ := mK hy
    by_cases hij : j = i
    · subst hij
      rw [hj] at hi; cases hi
      rw [hk]; intro h; cases h; exact hqk rfl
    · exact hq y (at_mem (i := i) (by rw [Array.getElem?_modify, if_neg hij]; exact hi))
theorem iW.del {es : Array MapEntry} {clock n : Nat} {f : Int -> Option PT} (h : iW w Z es clock n f) {k : Int} {j : Nat} {e : MapEntry} (hj : es[j]? = some e) (hk : e.key = .int .i64 k) :
    iW w Z (es.eraseIdxIfInBounds j) clock (xu n f k) (uo f k) := by
  obtain ⟨h1, h2, h3, h4⟩ := h
  have hlt : j < es.size := (Array.getElem?_eq_some_iff.1 hj).1
  have hf : (f k).isSome = true := by
    obtain ⟨k', y, k1, k2, _⟩ := h3 e (at_mem hj)
    rw [hk] at k1; cases k1
    rw [k2]; rfl
  have ht : (es.eraseIdxIfInBounds j).toList = es.toList.eraseIdx j := by
    unfold Array.eraseIdxIfInBounds
    rw [dif_pos hlt, Array.toList_eraseIdx]
  have hmem : ∀ y, y ∈ es.toList.eraseIdx j ↔ ∃ i, i ≠ j /\ es[i]? = some y := fun y => by
    rw [List.mem_eraseIdx_iff_getElem?]
    simp only [Array.getElem?_toList]
  refine ⟨?_, stamped_erase h2 j, fun y hy => ?_, fun q hq => ?_⟩
  · have : (es.eraseIdxIfInBounds j).size = es.size - 1 := by
      rw [<- Array.length_toList, ht, List.length_eraseIdx, if_pos (by simpa using hlt)]; simp
    simp [xu, hf, this, h1]
  · rw [ht, hmem] at hy
    obtain ⟨i, hij, hi⟩ := hy
    obtain ⟨q, z, k1, k2, k3⟩ := h3 y (at_mem hi)
    have : q ≠ k := fun e' => hij (D8 h2.2.2 hi hj (by rw [hk, k1, e']))
    exact ⟨q, z, k1, by simp only [uo, if_neg this]; exact k2, k3⟩
  · unfold uo
    split
    · rfl
    · rename_i hqk
      refine h4 q fun y hy => ?_
      obtain ⟨i, hi⟩ := mK hy
      by_cases hij : i = j
      · subst hij
        rw [hj] at hi; cases hi
        rw [hk]; intro h; cases h; exact hqk rfl
      · exact hq y (by rw [ht, hmem]; exact ⟨i, hij, hi⟩)
theorem iW.empty (clock : Nat) : iW w Z #[] clock 0 fun _ => none := ⟨rfl, stamped_empty clock, fun x hx => by simp at hx, fun _ _ => rfl⟩
theorem uU {x : TV} {k : Int} {u : Value} (h : bS w J Z u x) (h1 : OJ x = some k) : u = .int .i64 k := by
  unfold OJ at h1
  split at h1
  · cases h1; cases h; rfl
  · cases h1
theorem Dx (R : Rel w0 Z0 J Z s a w) (hh : hget s.heap nid = none) {t : TypeId} (ho : o.op = .makeMap t none) : Does P w0 Z0 Z s a w nid o (.t (.one (.mp nid))) (.new [.mi none 0 fun _ => none]) := by
  refine ⟨gI J nid w.heap.size, w.alloc (.map #[] 0), .map (some w.heap.size), Or.inl ?_, R.ac9 hh ⟨rfl, #[], 0, heap_alloc_new w _, (fun _ h => by cases h), iW.empty 0⟩, ⟨_, rfl, by simp [gI]⟩⟩
  simp [execOp, ho, Instr.makeMap]
theorem sJ {k : Int} : ∀ {l : List MapEntry} {m : List (Int × Fn × List LV × List LV)}, aU (fun (x : MapEntry) (y : Int × Fn × List LV × List LV) => x.key = .int .i64 y.1 /\ bQ w J Z x.val (.fn y.2.1 y.2.2.1 y.2.2.2)) l m ->
    (l.map (·.key)).Nodup -> (∀ {x y z}, Aw k m = some (x, y, z) -> ∃ e, e ∈ l /\ e.key = .int .i64 k /\ bQ w J Z e.val (.fn x y z)) /\ (Aw k m = none -> ∀ e ∈ l, e.key ≠ .int .i64 k)
  | [], [], _, _ => ⟨fun h => (by cases h), fun _ e he => (by cases he)⟩
  | e :: l, y :: m, ⟨h1, h2⟩, hn => by
    have ih := sJ (k := k) h2 (List.nodup_cons.1 hn).2
    unfold Aw
    by_cases hy : y.1 = k
    · rw [if_pos hy]
      refine ⟨fun h => ?_, fun h => by cases h⟩
      simp only [Option.some.injEq] at h
      refine ⟨e, List.mem_cons_self .., by rw [h1.1, hy], ?_⟩
      have := h1.2
      rw [h] at this
      exact this
    · rw [if_neg hy]
      refine ⟨fun h => ?_, fun h e' he' => ?_⟩
      · obtain ⟨e', a1, a2, a3⟩ := ih.1 h
        exact ⟨e', List.mem_cons_of_mem _ a1, a2, a3⟩
      · rcases List.mem_cons.1 he' with rfl | he'
        · rw [h1.1]; intro q; cases q; exact hy rfl
        · exact ih.2 h e' he'
theorem zm {es : Array MapEntry} (h : (es.toList.map (·.key)).Nodup) {x y : MapEntry} (hx : x ∈ es.toList) (hy : y ∈ es.toList) (e : x.key = y.key) : x = y := by
  obtain ⟨i, hi⟩ := mK hx
  obtain ⟨j, hj⟩ := mK hy
  obtain rfl := D8 h hi hj e
  rw [hi] at hj
  exact Option.some.inj hj
theorem sj {t e kt : TypeId} (ht : P.underlying t = some (.map kt e)) (hk : P.underlying kt = some (.int .i64)) {b : Nat} {es : Array MapEntry} {clock : Nat} (hb : w.heap[b]? = some (.map es clock)) (hkeys : ∀ x ∈ es.toList, IsKey (.int .i64) x.key) {k : Int} {zv : Value} (hz : (zeroValue e).run P w = .ok zv w) (ok : Bool) :
    ((∀ x ∈ es.toList, x.key ≠ .int .i64 k) /\ (Instr.lookup t (.map (some b)) (.int .i64 k) ok).run P w = .ok (if ok then .tuple #[zv, .bool false] else zv) w) ∨
    ∃ x, x ∈ es.toList /\ x.key = .int .i64 k /\ (Instr.lookup t (.map (some b)) (.int .i64 k) ok).run P w = .ok (if ok then .tuple #[x.val, .bool true] else x.val) w := by
  have hkey : IsKey (.int .i64) (.int .i64 k) := rfl
  rcases findNow_spec hkey es.toList 0 hkeys with ⟨h1, h2⟩ | ⟨j, x, h1, h2, h3⟩
  · refine Or.inl ⟨h2, ?_⟩
    have hf := run_findKey (P := P) (w := w) hk h1
    simp only [Instr.lookup, Sem.run_bind, run_underlying ht, MapKept.run_getObj_map hb, run_checkKey hk hkey, hf, hz, Result.andThen, Sem.run_pure]
  · refine Or.inr ⟨x, at_mem (by simpa using h2), h3, ?_⟩
    have hf := run_findKey (P := P) (w := w) hk h1
    simp only [Instr.lookup, Sem.run_bind, run_underlying ht, MapKept.run_getObj_map hb, run_checkKey hk hkey, hf, Result.andThen, Sem.run_pure]
theorem ni {ok : Bool} {z : PT} {f : Option PT} {u : Value} (hu : bZ w Z u (f.getD z)) : bD w J Z (if ok then .tuple #[u, .bool f.isSome] else u) (H8 ok z f) := by
  cases ok with
  | true => exact ⟨_, rfl, bZ.tv hu, Rd.g _ rfl, trivial⟩
  | false => exact bZ.tv hu
theorem GY (R : Rel w0 Z0 J Z s a w) {t e : TypeId} {x ix : Operand} {ok : Bool} (ho : o.op = .lookup t x ix ok) (ht : Jr P t = some e) {u : TV} (hx : bS w J Z (a.eval x) u) {k : Int} (hi : a.eval ix = .int .i64 k) {z : PT} (hz : XE P e = some z) (h : Ai ok z (hget s.heap) k u = some v) : Does P w0 Z0 Z s a w nid o v .nop := by
  obtain ⟨kt, t1, t2⟩ := pz ht
  obtain ⟨zv, z1, z2⟩ := Hw hz
  unfold Ai at h
  split at h
  · cases h
    cases hx' : a.eval x <;> rw [hx'] at hx <;> cases hx
    refine bg R (u := if ok then .tuple #[zv, .bool false] else zv) ?_ (ni (f := none) (z2 w Z))
    have hkey : IsKey (.int .i64) (.int .i64 k) := rfl
    simp only [execOp, ho, hx', hi, Instr.lookup, Sem.run_bind, run_underlying t1, run_checkKey t2 hkey, Result.andThen, Sem.run_pure, run_findKey t2 (show Instr.findNow (.int .i64) (.int .i64 k) (#[] : Array MapEntry).toList 0 = some none from rfl), z1]
  · rename_i i
    obtain ⟨b, hv, hj⟩ := hx
    split at h
    · rename_i c n f hcs
      cases h
      obtain ⟨b', g1, _, es, clock, g2, _, g3⟩ := R.blk i _ hcs (by simp)
      obtain rfl : b = b' := by rw [hj] at g1; exact Option.some.inj g1
      rcases sj (k := k) t1 t2 g2 g3.keys (z1 w) ok with ⟨q1, q2⟩ | ⟨y, q1, q2, q3⟩
      · refine bg R (u := if ok then .tuple #[zv, .bool false] else zv) (by simp only [execOp, ho, hv, hi, Sem.run_bind, q2, Result.andThen, Sem.run_pure]) ?_
        rw [g3.2.2.2 k q1]
        exact ni (f := none) (z2 w Z)
      · obtain ⟨k', y', k1, k2, k3⟩ := g3.2.2.1 y q1
        rw [q2] at k1; cases k1
        refine bg R (u := if ok then .tuple #[y.val, .bool true] else y.val) (by simp only [execOp, ho, hv, hi, Sem.run_bind, q3, Result.andThen, Sem.run_pure]) ?_
        rw [k2]
        exact ni (f := some y') k3
    · rename_i l hcs
      cases ok with
      | true => cases h
      | false =>
        simp only [cond_false] at h
        split at h
        · rename_i g x1 y1 hf
          cases h
          obtain ⟨b', g1, _, es, clock, g2, g3⟩ := R.blk i _ hcs (by simp)
          obtain rfl : b = b' := by rw [hj] at g1; exact Option.some.inj g1
          obtain ⟨y, a1, a2, a3⟩ := (sJ (k := k) g3.2 g3.1.2.2).1 hf
          rcases sj (k := k) t1 t2 g2 g3.keys (z1 w) false with ⟨q1, q2⟩ | ⟨y', q1, q2, q3⟩
          · exact absurd a2 (q1 y a1)
          · obtain rfl := zm g3.1.2.2 a1 q1 (a2.trans q2.symm)
            exact bg R (u := y.val) (by simp only [execOp, ho, hv, hi, Sem.run_bind, q3, Result.andThen, Sem.run_pure]; rfl) a3
        · cases h
    · cases h
  · cases h
theorem sM {t e kt : TypeId} (ht : P.underlying t = some (.map kt e)) (hk : P.underlying kt = some (.int .i64)) {b : Nat} {es : Array MapEntry} {clock : Nat} (hb : w.heap[b]? = some (.map es clock)) (hkeys : ∀ x ∈ es.toList, IsKey (.int .i64) x.key) {k : Int} (u : Value) :
    ((∀ x ∈ es.toList, x.key ≠ .int .i64 k) /\ (Instr.mapUpdate t (.map (some b)) (.int .i64 k) u).run P w = .ok () (nQ w b (.map (es.push { key := .int .i64 k, val := u, born := clock }) (clock + 1)))) ∨
    ∃ (j : Nat) (x : MapEntry), es[j]? = some x /\ x.key = .int .i64 k /\ (Instr.mapUpdate t (.map (some b)) (.int .i64 k) u).run P w = .ok () (nQ w b (.map (es.modify j fun e => { e with key := .int .i64 k, val := u }) clock)) := by
  have hkey : IsKey (.int .i64) (.int .i64 k) := rfl
  rcases findNow_spec hkey es.toList 0 hkeys with ⟨h1, h2⟩ | ⟨j, x, h1, h2, h3⟩
  · refine Or.inl ⟨h2, ?_⟩
    simp [Instr.mapUpdate, run_underlying ht, MapKept.run_getObj_map hb, run_checkKey hk hkey, run_findKey hk h1, run_setObj_map _ hb, Result.andThen]
  · have hj : es[j]? = some x := by simpa using h2
    refine Or.inr ⟨j, x, hj, h3, ?_⟩
    simp [Instr.mapUpdate, run_underlying ht, MapKept.run_getObj_map hb, run_checkKey hk hkey, run_findKey hk h1, hj, h3, run_keyThatStays hkey, run_setObj_map _ hb, Result.andThen]
theorem Ab {es : Array MapEntry} {j : Nat} {x : MapEntry} {key u : Value} (hj : es[j]? = some x) (hk : x.key = key) : ∀ y, y ∈ (es.modify j fun e => { e with key := key, val := u }).toList -> ∃ z, z ∈ es.toList /\ z.born = y.born /\ z.key = y.key := fun y hy => by
  obtain ⟨i, hi⟩ := mK hy
  rw [Array.getElem?_modify] at hi
  by_cases hij : j = i
  · subst hij
    rw [if_pos rfl, hj, Option.map_some, Option.some.injEq] at hi
    subst hi
    exact ⟨x, at_mem hj, rfl, hk⟩
  · rw [if_neg hij] at hi
    exact ⟨y, at_mem hi, rfl, rfl⟩
theorem Iu (R : Rel w0 Z0 J Z s a w) {t e : TypeId} {m ix x : Operand} (ho : o.op = .mapUpdate t m ix x \/ o.op = .insert t m ix x) (ht : Jr P t = some e) {u : TV} (hm : bS w J Z (a.eval m) u) {k : Int} (hi : a.eval ix = .int .i64 k) {y : TV} (hx : bS w J Z (a.eval x) y) (h : Lv (hget s.heap) k y u = some ef) : Does P w0 Z0 Z s a w nid o .any ef := by
  obtain ⟨kt, t1, t2⟩ := pz ht
  have hrun : ∀ {b : Nat} {w' : World}, a.eval m = .map (some b) -> (Instr.mapUpdate t (.map (some b)) (.int .i64 k) (a.eval x)).run P w = .ok () w' -> (execOp a.eval o).run P w = .ok .skip w' := fun hv h => by
    rcases ho with ho | ho <;> simp only [execOp, ho, hv, hi, Sem.run_bind, h, Result.andThen, Sem.run_pure]
  unfold Lv at h
  split at h
  · rename_i i
    obtain ⟨b, hv, hj⟩ := hm
    split at h
    · rename_i c n f hcs
      obtain ⟨b', g1, _, es, clock, g2, _, g3⟩ := R.blk i _ hcs (by simp)
      obtain rfl : b = b' := by rw [hj] at g1; exact Option.some.inj g1
      have hsome : (hget s.heap i).isSome = true := by rw [hcs]; rfl
      split at h
      · rename_i x' hx'
        cases h
        have hp := G6 hx hx'
        rcases sM (k := k) t1 t2 g2 g3.keys (a.eval x) with ⟨q1, q2⟩ | ⟨j, e', q1, q2, q3⟩
        · exact ⟨J, _, undef, Or.inr ⟨hrun hv q2, rfl⟩, R.Io hsome hj g2 (Nat.le_succ _) (fun h => by omega) fun G => ⟨rfl, _, _, iI (R.jlt i b hj).2.1, (fun _ h => by cases h), (g3.DC q1 hp).mono G.zz G.blk⟩, trivial⟩
        · exact ⟨J, _, undef, Or.inr ⟨hrun hv q3, rfl⟩, R.Io hsome hj g2 (Nat.le_refl _) (fun _ => Ab q1 q2) fun G => ⟨rfl, _, _, iI (R.jlt i b hj).2.1, (fun _ h => by cases h), (g3.Dm q1 q2 hp).mono G.zz G.blk⟩, trivial⟩
      · split at h
        · rename_i g l1 l2 _
          cases h
          have hes : es = #[] := Array.eq_empty_of_size_eq_zero g3.1
          subst hes
          rcases sM (k := k) t1 t2 g2 g3.keys (a.eval x) with ⟨q1, q2⟩ | ⟨j, e', q1, q2, q3⟩
          · exact ⟨J, _, undef, Or.inr ⟨hrun hv q2, rfl⟩, R.Io hsome hj g2 (Nat.le_succ _) (fun h => by omega) fun G => ⟨rfl, _, _, iI (R.jlt i b hj).2.1, stamped_push g3.2.1 q1, ⟨rfl, bQ.dK G (CV.bM _) hx⟩, trivial⟩, trivial⟩
          · simp at q1
        · cases h
    · rename_i l hcs
      obtain ⟨b', g1, _, es, clock, g2, g3⟩ := R.blk i _ hcs (by simp)
      obtain rfl : b = b' := by rw [hj] at g1; exact Option.some.inj g1
      have hsome : (hget s.heap i).isSome = true := by rw [hcs]; rfl
      split at h
      · rename_i g l1 l2
        split at h
        · rename_i hf
          cases h
          have hno := (sJ (k := k) g3.2 g3.1.2.2).2 hf
          rcases sM (k := k) t1 t2 g2 g3.keys (a.eval x) with ⟨q1, q2⟩ | ⟨j, e', q1, q2, q3⟩
          · refine ⟨J, _, undef, Or.inr ⟨hrun hv q2, rfl⟩, R.Io hsome hj g2 (Nat.le_succ _) (fun h => by omega) fun G => ⟨rfl, _, _, iI (R.jlt i b hj).2.1, stamped_push g3.1 q1, ?_⟩, trivial⟩
            rw [Array.toList_push]
            exact (aU.mono (fun _ _ hr => ⟨hr.1, bQ.dK G (CV.bM _) hr.2⟩) g3.2).append ⟨⟨rfl, bQ.dK G (CV.bM _) hx⟩, trivial⟩
          · exact absurd q2 (hno e' (at_mem q1))
        · cases h
      · cases h
    · cases h
  · cases h
theorem Ue (R : Rel w0 Z0 J Z s a w) {c : Call} (ho : o.op = .call c) (hc : c.callee = .builtin .delete) {m ix : Operand} {t t' e : TypeId} (ha : c.args.toList = [m, ix]) (htt : c.argTypes.toList = [t, t']) (ht : Jr P t = some e) {u : TV} (hm : bS w J Z (a.eval m) u) {k : Int} (hi : a.eval ix = .int .i64 k) (h : Kh (hget s.heap) k u = some ef) : Does P w0 Z0 Z s a w nid o (.tup []) ef := by
  have ea : c.args = #[m, ix] := by rw [<- Array.toArray_toList (xs := c.args), ha]
  have et : c.argTypes = #[t, t'] := by rw [<- Array.toArray_toList (xs := c.argTypes), htt]
  obtain ⟨kt, t1, t2⟩ := pz ht
  unfold Kh at h
  split at h
  · rename_i i
    obtain ⟨b, hv, hj⟩ := hm
    split at h
    · rename_i cc n f hcs
      cases h
      obtain ⟨b', g1, _, es, clock, g2, _, g3⟩ := R.blk i _ hcs (by simp)
      obtain rfl : b = b' := by rw [hj] at g1; exact Option.some.inj g1
      have hsome : (hget s.heap i).isSome = true := by rw [hcs]; rfl
      have hkey : IsKey (.int .i64) (.int .i64 k) := rfl
      rcases findNow_spec hkey es.toList 0 g3.keys with ⟨h1, h2⟩ | ⟨j, x, h1, h2, h3⟩
      · refine ⟨J, nQ w b (.map es clock), .tuple #[], Or.inl ?_, R.Io hsome hj g2 (Nat.le_refl _) (fun _ x hx => ⟨x, hx, rfl, rfl⟩) fun G => ⟨rfl, es, clock, iI (R.jlt i b hj).2.1, (fun _ h => by cases h), ?_⟩, ⟨#[], rfl, trivial⟩⟩
        · simp [execOp, ho, resolve, hc, invoke, builtin, ea, et, Builtin.delete_, hv, hi, run_underlying t1, MapKept.run_getObj_map g2, run_checkKey t2 hkey, run_findKey t2 h1, run_setObj_map _ g2, Result.andThen]
        · have hn := g3.2.2.2 k h2
          have e1 : uo f k = f := by
            funext q
            unfold uo
            split
            · rename_i e; rw [e, hn]
            · rfl
          rw [e1, show xu n f k = n by simp [xu, hn]]
          exact g3.mono G.zz G.blk
      · have hjx : es[j]? = some x := by simpa using h2
        refine ⟨J, nQ w b (.map (es.eraseIdxIfInBounds j) clock), .tuple #[], Or.inl ?_, R.Io hsome hj g2 (Nat.le_refl _) (fun _ x hx => ⟨x, ?_, rfl, rfl⟩) fun G => ⟨rfl, _, _, iI (R.jlt i b hj).2.1, (fun _ h => by cases h), (g3.del hjx h3).mono G.zz G.blk⟩, ⟨#[], rfl, trivial⟩⟩
        · simp [execOp, ho, resolve, hc, invoke, builtin, ea, et, Builtin.delete_, hv, hi, run_underlying t1, MapKept.run_getObj_map g2, run_checkKey t2 hkey, run_findKey t2 h1, run_setObj_map _ g2, Result.andThen]
        · have hlt : j < es.size := (Array.getElem?_eq_some_iff.1 hjx).1
          have ht : (es.eraseIdxIfInBounds j).toList = es.toList.eraseIdx j := by
            unfold Array.eraseIdxIfInBounds
            rw [dif_pos hlt, Array.toList_eraseIdx]
          rw [ht] at hx
          exact (List.eraseIdx_sublist _ _).subset hx
    · cases h
  · cases h
theorem O6 (R : Rel w0 Z0 J Z s a w) {c : Call} (ho : o.op = .call c) (hc : c.callee = .builtin .len) {x : Operand} {t e : TypeId} (ha : c.args.toList = [x]) (htt : c.argTypes.toList = [t]) (ht : Jr P t = some e) {u : TV} (hx : bS w J Z (a.eval x) u) (h : z8 (hget s.heap) u = some v) : Does P w0 Z0 Z s a w nid o v .nop := by
  have ea : c.args = #[x] := by rw [<- Array.toArray_toList (xs := c.args), ha]
  have et : c.argTypes = #[t] := by rw [<- Array.toArray_toList (xs := c.argTypes), htt]
  obtain ⟨kt, t1, t2⟩ := pz ht
  unfold z8 at h
  split at h
  · rename_i i
    obtain ⟨b, hv, hj⟩ := hx
    split at h
    · rename_i cc n f hcs
      cases h
      obtain ⟨b', g1, _, es, clock, g2, _, g3⟩ := R.blk i _ hcs (by simp)
      obtain rfl : b = b' := by rw [hj] at g1; exact Option.some.inj g1
      refine bg R (u := goInt n) ?_ (Rd.g _ rfl)
      simp [execOp, ho, resolve, hc, invoke, builtin, ea, et, Builtin.len_, run_underlying t1, hv, MapKept.run_getObj_map g2, Result.andThen, g3.1]
    · cases h
  · cases h
    cases hx' : a.eval x <;> rw [hx'] at hx <;> cases hx
    exact bg R (u := goInt 0) (by simp [execOp, ho, resolve, hc, invoke, builtin, ea, et, Builtin.len_, run_underlying t1, hx', Result.andThen]) (Rd.g _ rfl)
  · cases h
theorem sO (R : Rel w0 Z0 J Z s a w) (hh : hget s.heap nid = none) {nd : Prop} (h : qy P nid s.ev (hget s.heap) o = some (nd, v, ef)) (hn : nd) : Does P w0 Z0 Z s a w nid o v ef := by
  unfold qy at h
  split at h
  · rename_i t ho
    split at h
    · simp only [Option.some.injEq, Prod.mk.injEq] at h
      obtain ⟨rfl, rfl, rfl⟩ := h
      exact Dx R hh ho
    · cases h
  · rename_i t x ix ok ho
    split at h
    · rename_i e u k h1 h2 h3
      split at h
      · rename_i z hz
        split at h
        · rename_i v' hl
          simp only [Option.some.injEq, Prod.mk.injEq] at h
          obtain ⟨rfl, rfl, rfl⟩ := h
          obtain ⟨u2, e2, e3⟩ := bV h3
          exact GY R ho h1 (bD.tv (R.ev x) h2 hn.1) (uU (bD.tv (R.ev ix) e2 hn.2) e3) hz hl
        · cases h
      · cases h
    · cases h
  · rename_i t m ix x ho
    split at h
    · rename_i u k y h1 h2 h3 h4
      split at h
      · rename_i ef' hp
        simp only [Option.some.injEq, Prod.mk.injEq] at h
        obtain ⟨rfl, rfl, rfl⟩ := h
        obtain ⟨u2, e2, e3⟩ := bV h3
        exact Iu R (Or.inl ho) h1 (bD.tv (R.ev m) h2 hn.1) (uU (bD.tv (R.ev ix) e2 hn.2.1) e3) (bD.tv (R.ev x) h4 hn.2.2) hp
      · cases h
    · cases h
  · rename_i t m ix x ho
    split at h
    · rename_i u k y h1 h2 h3 h4
      split at h
      · rename_i ef' hp
        simp only [Option.some.injEq, Prod.mk.injEq] at h
        obtain ⟨rfl, rfl, rfl⟩ := h
        obtain ⟨u2, e2, e3⟩ := bV h3
        exact Iu R (Or.inr ho) h1 (bD.tv (R.ev m) h2 hn.1) (uU (bD.tv (R.ev ix) e2 hn.2.1) e3) (bD.tv (R.ev x) h4 hn.2.2) hp
      · cases h
    · cases h
  · rename_i c ho
    split at h
    · rename_i hc
      split at h
      · rename_i m ix t t' ha ht
        split at h
        · rename_i u k h1 h2 h3
          split at h
          · rename_i ef' hp
            simp only [Option.some.injEq, Prod.mk.injEq] at h
            obtain ⟨rfl, rfl, rfl⟩ := h
            obtain ⟨u2, e2, e3⟩ := bV h3
            exact Ue R ho hc ha ht h1 (bD.tv (R.ev m) h2 hn.1) (uU (bD.tv (R.ev ix) e2 hn.2) e3) hp
          · cases h
        · cases h
      · cases h
    · rename_i hc
      split at h
      · rename_i x t ha ht
        split at h
        · rename_i u h1 h2
          split at h
          · rename_i v' hp
            simp only [Option.some.injEq, Prod.mk.injEq] at h
            obtain ⟨rfl, rfl, rfl⟩ := h
            exact O6 R ho hc ha ht h1 (bD.tv (R.ev x) h2 hn) hp
          · cases h
        · cases h
      · cases h
    · cases h
  · cases h
theorem GN {P : Program} {t e : TypeId} (h : mpE P t = some e) : ∃ k x, P.underlying t = some (.map k e) /\ P.underlying k = some (.array 2 x) /\ P.underlying x = some (.int .i64) /\ P.cellsOf x = 1 := by
  unfold mpE at h
  split at h
  · split at h
    · split at h
      · cases h; exact ⟨_, _, by assumption, by assumption, by assumption, by assumption⟩
      · cases h
    · cases h
  · cases h
theorem wN {x : TypeId} (hx : P.underlying x = some (.int .i64)) (a b : Int) (w : World) : (part x #[.int .i64 a, .int .i64 b] 0).run P w = .ok (.int .i64 a) w /\ (part x #[.int .i64 a, .int .i64 b] 1).run P w = .ok (.int .i64 b) w := by
  have hl : oC P 1 x = some [.int .i64] := by simp [oC, hx]
  have hp : ∀ v, ig P x [v] = v := fun v => by unfold ig; rw [hx]; rfl
  have h1 := qY hl (px := []) (x1 := [.int .i64 a]) (x2 := [.int .i64 b]) ⟨rfl, trivial⟩ w
  have h2 := qY hl (px := [.int .i64 a]) (x1 := [.int .i64 b]) (x2 := []) ⟨rfl, trivial⟩ w
  rw [hp] at h1 h2
  exact ⟨h1, h2⟩
theorem JD {k x : TypeId} (hk : P.underlying k = some (.array 2 x)) (hx : P.underlying x = some (.int .i64)) (hc : P.cellsOf x = 1) (a b c d : Int) (w : World) : (Op.equal k (dw a b) (dw c d)).run P w = .ok (a == c && b == d) w := by
  obtain ⟨i, hi⟩ := info_of_underlying hx
  have e : (Op.equal k (dw a b) (dw c d)).run P w = (Op.eqItems 9999 x (P.cellsOf x) #[.int .i64 a, .int .i64 b] #[.int .i64 c, .int .i64 d] (List.range 2)).run P w := run_equalIn_array (d := 9999) (w := w) _ _ hk hi
  rw [e, hc]
  have p1 := wN hx a b w
  have p2 := wN hx c d w
  have q1 := run_equalIn_int (P := P) w 9998 x .i64 .i64 a c hx
  have q2 := run_equalIn_int (P := P) w 9998 x .i64 .i64 b d hx
  have r : List.range 2 = [0, 1] := rfl
  rw [r]
  simp only [Op.eqItems, Sem.run_bind, Nat.zero_mul, Nat.one_mul, p1.1, p1.2, p2.1, p2.2, Result.andThen_ok, q1]
  cases a == c
  · simp
  · simp only [Bool.not_true, Bool.false_eq_true, if_false, Sem.run_bind, p1.2, p2.2, Result.andThen_ok, q2, Bool.true_and]
    cases b == d <;> simp [Op.eqItems]
theorem nW {k x : TypeId} (hk : P.underlying k = some (.array 2 x)) (hx : P.underlying x = some (.int .i64)) (hc : P.cellsOf x = 1) (em : Bool) (a b : Int) (w : World) : (Instr.checkKey em 10000 k (dw a b)).run P w = .ok () w := by
  obtain ⟨i, hi⟩ := info_of_underlying hx
  have p1 := wN hx a b w
  have hs := run_sizeOf (w := w) hi
  rw [hc] at hs
  have q : ∀ v, (Instr.checkKey em 9999 x (.int .i64 v)).run P w = .ok () w := fun v => run_checkKey hx (k := .int .i64 v) rfl em 9998
  have e : ∀ d, (Instr.checkKey em (d + 1) k (dw a b)).run P w = (do for i in [0:2] do Instr.checkKey em d x (<- part x #[.int .i64 a, .int .i64 b] (i * (<- sizeOf x))) : Sem Unit).run P w := fun d => by
    simp only [Instr.checkKey, dw, Sem.run_bind, run_underlying hk, Result.andThen_ok]
  refine (e 9999).trans ?_
  simp only [Std.Legacy.Range.forIn_eq_forIn_range', Std.Legacy.Range.size, Nat.sub_zero, Nat.add_one_sub_one, Nat.div_one]
  have r : List.range' 0 2 = [0, 1] := rfl
  rw [r]
  simp [List.forIn_cons, Sem.run_bind, hs, p1.1, p1.2, q, Result.andThen_ok]
theorem Cq {k x : TypeId} (hk : P.underlying k = some (.array 2 x)) (hx : P.underlying x = some (.int .i64)) (hc : P.cellsOf x = 1) (a b : Int) (w : World) (l : List MapEntry) (hl : ∀ x ∈ l, ∃ c d, x.key = dw c d) :
    ((Instr.findKey k (dw a b) l).run P w = .ok none w /\ ∀ x ∈ l, x.key ≠ dw a b) \/ ∃ j e, (Instr.findKey k (dw a b) l).run P w = .ok (some (j, e.val)) w /\ l[j]? = some e /\ e.key = dw a b := by
  have ask : ∀ (l : List MapEntry) (i : Nat), (∀ x ∈ l, ∃ c d, x.key = dw c d) -> ((Instr.findAsking k (dw a b) l i).run P w = .ok none w /\ ∀ x ∈ l, x.key ≠ dw a b) \/ ∃ j e, (Instr.findAsking k (dw a b) l i).run P w = .ok (some (i + j, e.val)) w /\ l[j]? = some e /\ e.key = dw a b := fun l => by
    induction l with
    | nil => intro i _; exact Or.inl ⟨by simp [Instr.findAsking], by simp⟩
    | cons e l ih =>
      intro i h
      obtain ⟨c, d, hcd⟩ := h e (List.mem_cons_self ..)
      have he := JD hk hx hc a b c d w
      rw [<- hcd] at he
      by_cases g : a = c /\ b = d
      · refine Or.inr ⟨0, e, ?_, rfl, by rw [hcd, g.1, g.2]⟩
        rw [show (a == c && b == d) = true by rw [g.1, g.2]; simp] at he
        simp [Instr.findAsking, Sem.run_bind, he]
      · have gb : (a == c && b == d) = false := by
          rw [Bool.and_eq_false_iff]; simp only [beq_eq_false_iff_ne, ne_eq]
          by_cases g1 : a = c
          · exact Or.inr fun g2 => g ⟨g1, g2⟩
          · exact Or.inl g1
        rw [gb] at he
        rcases ih (i + 1) (fun x hx => h x (List.mem_cons_of_mem _ hx)) with ⟨h1, h2⟩ | ⟨j, y, h1, h2, h3⟩
        · refine Or.inl ⟨by simp [Instr.findAsking, Sem.run_bind, he, h1], fun y hy => ?_⟩
          rcases List.mem_cons.1 hy with rfl | hy
          · rw [hcd]; intro q; exact g ⟨(rJ q).1.symm, (rJ q).2.symm⟩
          · exact h2 y hy
        · refine Or.inr ⟨j + 1, y, ?_, h2, h3⟩
          simp [Instr.findAsking, Sem.run_bind, he, h1]; omega
  cases l with
  | nil => exact Or.inl ⟨by simp [Instr.findKey, run_underlying hk, Instr.findNow], by simp⟩
  | cons e l =>
    obtain ⟨c, d, hcd⟩ := hl e (List.mem_cons_self ..)
    have hn : Instr.findNow (.array 2 x) (dw a b) (e :: l) 0 = none := by
      simp [Instr.findNow, hcd, dw, Instr.sameNow]
    have hf : (Instr.findKey k (dw a b) (e :: l)).run P w = (Instr.findAsking k (dw a b) (e :: l) 0).run P w := by
      simp [Instr.findKey, run_underlying hk, hn]
    rw [hf]
    rcases ask (e :: l) 0 hl with h | ⟨j, y, h1, h2, h3⟩
    · exact Or.inl h
    · exact Or.inr ⟨j, y, by rw [h1, Nat.zero_add], h2, h3⟩
theorem J5 (a b : Int) (w : World) : (Instr.keyThatStays (dw a b) (dw a b)).run P w = .ok (dw a b) w := by
  have : Instr.sameBits 10000 (dw a b) (dw a b) = true := by
    show Instr.sameBits (9999 + 1) _ _ = true
    simp [Instr.sameBits, dw]
  simp [Instr.keyThatStays, this]
theorem lJ.keys {es : Array MapEntry} {clock : Nat} {f : Int -> Int -> Option PT} (h : lJ w Z es clock f) : ∀ x ∈ es.toList, ∃ c d, x.key = dw c d := fun x hx => by
  obtain ⟨a, b, _, k1, _⟩ := h.2.1 x hx
  exact ⟨a, b, k1⟩
theorem vZ {x : TV} {k : Int × Int} {u : Value} (h : bS w J Z u x) (h1 : Hr x = some k) : u = dw k.1 k.2 := by
  unfold Hr at h1
  split at h1
  · cases h1
    obtain ⟨A, rfl, h⟩ := h
    obtain ⟨L⟩ := A
    match L, h with
    | [_, _], ⟨r1, r2, _⟩ => cases r1; cases r2; rfl
  · cases h1
theorem lJ.DC {es : Array MapEntry} {clock : Nat} {f : Int -> Int -> Option PT} (h : lJ w Z es clock f) {k : Int × Int} (hk : ∀ x ∈ es.toList, x.key ≠ dw k.1 k.2) {u : Value} {x : PT} (hx : bZ w Z u x) :
    lJ w Z (es.push { key := dw k.1 k.2, val := u, born := clock }) (clock + 1) (sF f k x) := by
  obtain ⟨h2, h3, h4⟩ := h
  refine ⟨stamped_push h2 hk, fun y hy => ?_, fun a b hj => ?_⟩
  · simp only [Array.toList_push, List.mem_append, List.mem_singleton] at hy
    rcases hy with hy | rfl
    · obtain ⟨a, b, z, k1, k2, k3⟩ := h3 y hy
      have : ¬ (a = k.1 /\ b = k.2) := fun e => hk y hy (by rw [k1, e.1, e.2])
      exact ⟨a, b, z, k1, by simp only [sF, if_neg this]; exact k2, k3⟩
    · exact ⟨k.1, k.2, x, rfl, by simp [sF], hx⟩
  · have hjk : ¬ (a = k.1 /\ b = k.2) := fun e => hj _ (by simp only [Array.toList_push, List.mem_append, List.mem_singleton]; exact Or.inr rfl) (by rw [e.1, e.2])
    simp only [sF, if_neg hjk]
    exact h4 a b fun y hy => hj y (by simp only [Array.toList_push, List.mem_append, List.mem_singleton]; exact Or.inl hy)
theorem lJ.Dm {es : Array MapEntry} {clock : Nat} {f : Int -> Int -> Option PT} (h : lJ w Z es clock f) {k : Int × Int} {j : Nat} {e : MapEntry} (hj : es[j]? = some e) (hk : e.key = dw k.1 k.2) {u : Value} {x : PT} (hx : bZ w Z u x) :
    lJ w Z (es.modify j fun e => { e with key := dw k.1 k.2, val := u }) clock (sF f k x) := by
  obtain ⟨h2, h3, h4⟩ := h
  have hkey : ∀ e', es[j]? = some e' -> ({ e' with key := dw k.1 k.2, val := u } : MapEntry).key = e'.key := fun e' he' => by rw [hj] at he'; cases he'; exact hk.symm
  refine ⟨stamped_modify h2 _ _ (fun _ _ => rfl) (fun e' _ he' => hkey e' he'), fun y hy => ?_, fun a b hq => ?_⟩
  · obtain ⟨i, hi⟩ := mK hy
    rw [Array.getElem?_modify] at hi
    by_cases hij : j = i
    · subst hij
      rw [if_pos rfl, hj, Option.map_some, Option.some.injEq] at hi
      subst hi
      exact ⟨k.1, k.2, x, rfl, by simp [sF], hx⟩
    · rw [if_neg hij] at hi
      obtain ⟨a, b, z, k1, k2, k3⟩ := h3 y (at_mem hi)
      have : ¬ (a = k.1 /\ b = k.2) := fun e' => hij (D8 h2.2.2 hj hi (by rw [hk, k1, e'.1, e'.2]))
      exact ⟨a, b, z, k1, by simp only [sF, if_neg this]; exact k2, k3⟩
  · have hqk : ¬ (a = k.1 /\ b = k.2) := fun e' => by
      refine hq { e with key := dw k.1 k.2, val := u } (at_mem (i := j) ?_) (by rw [e'.1, e'.2])
      rw [Array.getElem?_modify, if_pos rfl, hj]; rfl
    simp only [sF, if_neg hqk]
    refine h4 a b fun y hy => ?_
    obtain ⟨i, hi⟩ := mK hy
    by_cases hij : j = i
    · subst hij
      rw [hj] at hi; cases hi
      rw [hk]; intro h; have := rJ h; exact hqk ⟨this.1.symm, this.2.symm⟩
    · exact hq y (at_mem (i := i) (by rw [Array.getElem?_modify, if_neg hij]; exact hi))
theorem Cg (R : Rel w0 Z0 J Z s a w) (hh : hget s.heap nid = none) {t : TypeId} (ho : o.op = .makeMap t none) : Does P w0 Z0 Z s a w nid o (.t (.one (.mp nid))) (.new [.m2 fun _ _ => none]) := by
  refine ⟨gI J nid w.heap.size, w.alloc (.map #[] 0), .map (some w.heap.size), Or.inl ?_, R.ac9 hh ⟨rfl, #[], 0, heap_alloc_new w _, stamped_empty 0, (fun x hx => by simp at hx), fun _ _ _ => rfl⟩, ⟨_, rfl, by simp [gI]⟩⟩
  simp [execOp, ho, Instr.makeMap]
theorem EB (R : Rel w0 Z0 J Z s a w) {t e : TypeId} {x ix : Operand} {ok : Bool} (ho : o.op = .lookup t x ix ok) (ht : mpE P t = some e) {u : TV} (hx : bS w J Z (a.eval x) u) {k : Int × Int} (hi : a.eval ix = dw k.1 k.2) {z : PT} (hz : XE P e = some z) (h : AA ok z (hget s.heap) k u = some v) : Does P w0 Z0 Z s a w nid o v .nop := by
  obtain ⟨kt, xt, t1, t2, t3, t4⟩ := GN ht
  obtain ⟨zv, z1, z2⟩ := Hw hz
  unfold AA at h
  split at h
  · rename_i i
    obtain ⟨b, hv, hj⟩ := hx
    split at h
    · rename_i f hcs
      cases h
      obtain ⟨b', g1, _, es, clock, g2, g3⟩ := R.blk i _ hcs (by simp)
      obtain rfl : b = b' := by rw [hj] at g1; exact Option.some.inj g1
      rcases Cq t2 t3 t4 k.1 k.2 w es.toList g3.keys with ⟨q1, q2⟩ | ⟨j, y, q1, q2, q3⟩
      · refine bg R (u := if ok then .tuple #[zv, .bool false] else zv) ?_ ?_
        · simp only [execOp, ho, hv, hi, Instr.lookup, Sem.run_bind, run_underlying t1, MapKept.run_getObj_map g2, nW t2 t3 t4, q1, z1, Result.andThen, Sem.run_pure]
        · rw [g3.2.2 _ _ q2]
          exact ni (f := none) (z2 w Z)
      · obtain ⟨k1', k2', y', k1, k2, k3⟩ := g3.2.1 y (at_mem (by rw [<- Array.getElem?_toList]; exact q2))
        rw [q3] at k1
        obtain ⟨rfl, rfl⟩ := rJ k1
        refine bg R (u := if ok then .tuple #[y.val, .bool true] else y.val) ?_ ?_
        · simp only [execOp, ho, hv, hi, Instr.lookup, Sem.run_bind, run_underlying t1, MapKept.run_getObj_map g2, nW t2 t3 t4, q1, Result.andThen, Sem.run_pure]
        · rw [k2]
          exact ni (f := some y') k3
    · cases h
  · cases h
theorem Cx (R : Rel w0 Z0 J Z s a w) {t e : TypeId} {m ix x : Operand} (ho : o.op = .mapUpdate t m ix x \/ o.op = .insert t m ix x) (ht : mpE P t = some e) {u : TV} (hm : bS w J Z (a.eval m) u) {k : Int × Int} (hi : a.eval ix = dw k.1 k.2) {y : TV} (hx : bS w J Z (a.eval x) y) (h : Kk (hget s.heap) k y u = some ef) : Does P w0 Z0 Z s a w nid o .any ef := by
  obtain ⟨kt, xt, t1, t2, t3, t4⟩ := GN ht
  have hrun : ∀ {b : Nat} {w' : World}, a.eval m = .map (some b) -> (Instr.mapUpdate t (.map (some b)) (dw k.1 k.2) (a.eval x)).run P w = .ok () w' -> (execOp a.eval o).run P w = .ok .skip w' := fun hv h => by
    rcases ho with ho | ho <;> simp only [execOp, ho, hv, hi, Sem.run_bind, h, Result.andThen, Sem.run_pure]
  unfold Kk at h
  split at h
  · rename_i i
    obtain ⟨b, hv, hj⟩ := hm
    split at h
    · rename_i f hcs
      obtain ⟨b', g1, _, es, clock, g2, g3⟩ := R.blk i _ hcs (by simp)
      obtain rfl : b = b' := by rw [hj] at g1; exact Option.some.inj g1
      have hsome : (hget s.heap i).isSome = true := by rw [hcs]; rfl
      split at h
      · rename_i x' hx'
        cases h
        have hp := G6 hx hx'
        rcases Cq t2 t3 t4 k.1 k.2 w es.toList g3.keys with ⟨q1, q2⟩ | ⟨j, e', q1, q2, q3⟩
        · have hr : (Instr.mapUpdate t (.map (some b)) (dw k.1 k.2) (a.eval x)).run P w = .ok () (nQ w b (.map (es.push { key := dw k.1 k.2, val := a.eval x, born := clock }) (clock + 1))) := by
            simp [Instr.mapUpdate, run_underlying t1, MapKept.run_getObj_map g2, nW t2 t3 t4, q1, run_setObj_map _ g2, Result.andThen]
          exact ⟨J, _, undef, Or.inr ⟨hrun hv hr, rfl⟩, R.Io hsome hj g2 (Nat.le_succ _) (fun h => by omega) fun G => ⟨rfl, _, _, iI (R.jlt i b hj).2.1, (g3.DC q2 hp).mono G.zz G.blk⟩, trivial⟩
        · have hje : es[j]? = some e' := by rw [<- Array.getElem?_toList]; exact q2
          have hr : (Instr.mapUpdate t (.map (some b)) (dw k.1 k.2) (a.eval x)).run P w = .ok () (nQ w b (.map (es.modify j fun e => { e with key := dw k.1 k.2, val := a.eval x }) clock)) := by
            simp [Instr.mapUpdate, run_underlying t1, MapKept.run_getObj_map g2, nW t2 t3 t4, q1, hje, q3, J5, run_setObj_map _ g2, Result.andThen]
          exact ⟨J, _, undef, Or.inr ⟨hrun hv hr, rfl⟩, R.Io hsome hj g2 (Nat.le_refl _) (fun _ => Ab hje q3) fun G => ⟨rfl, _, _, iI (R.jlt i b hj).2.1, (g3.Dm hje q3 hp).mono G.zz G.blk⟩, trivial⟩
      · cases h
    · cases h
  · cases h
theorem JK (R : Rel w0 Z0 J Z s a w) (hh : hget s.heap nid = none) {nd : Prop} (h : Dq P nid s.ev (hget s.heap) o = some (nd, v, ef)) (hn : nd) : Does P w0 Z0 Z s a w nid o v ef := by
  unfold Dq at h
  split at h
  · rename_i t ho
    split at h
    · simp only [Option.some.injEq, Prod.mk.injEq] at h
      obtain ⟨rfl, rfl, rfl⟩ := h
      exact Cg R hh ho
    · cases h
  · rename_i t x ix ok ho
    split at h
    · rename_i e u k h1 h2 h3
      split at h
      · rename_i z hz
        split at h
        · rename_i v' hl
          simp only [Option.some.injEq, Prod.mk.injEq] at h
          obtain ⟨rfl, rfl, rfl⟩ := h
          obtain ⟨u2, e2, e3⟩ := bV h3
          exact EB R ho h1 (bD.tv (R.ev x) h2 hn.1) (vZ (bD.tv (R.ev ix) e2 hn.2) e3) hz hl
        · cases h
      · cases h
    · cases h
  · rename_i t m ix x ho
    split at h
    · rename_i u k y h1 h2 h3 h4
      split at h
      · rename_i ef' hp
        simp only [Option.some.injEq, Prod.mk.injEq] at h
        obtain ⟨rfl, rfl, rfl⟩ := h
        obtain ⟨u2, e2, e3⟩ := bV h3
        exact Cx R (Or.inl ho) h1 (bD.tv (R.ev m) h2 hn.1) (vZ (bD.tv (R.ev ix) e2 hn.2.1) e3) (bD.tv (R.ev x) h4 hn.2.2) hp
      · cases h
    · cases h
  · rename_i t m ix x ho
    split at h
    · rename_i u k y h1 h2 h3 h4
      split at h
      · rename_i ef' hp
        simp only [Option.some.injEq, Prod.mk.injEq] at h
        obtain ⟨rfl, rfl, rfl⟩ := h
        obtain ⟨u2, e2, e3⟩ := bV h3
        exact Cx R (Or.inr ho) h1 (bD.tv (R.ev m) h2 hn.1) (vZ (bD.tv (R.ev ix) e2 hn.2.1) e3) (bD.tv (R.ev x) h4 hn.2.2) hp
      · cases h
    · cases h
  · cases h
theorem KO (R : Rel w0 Z0 J Z s a w) (hh : hget s.heap nid = none) {nd : Prop} (h : TH P nid s.ev (hget s.heap) o (qy P nid s.ev (hget s.heap) o) = some (nd, v, ef)) (hn : nd) : Does P w0 Z0 Z s a w nid o v ef := by
  cases e : qy P nid s.ev (hget s.heap) o with
  | some r => rw [e] at h; exact sO R hh (e.trans h) hn
  | none => rw [e] at h; exact JK R hh h hn
end
end Go.Sea
namespace Go.Sea
open Go.RowKit
section
variable {w0 : World} {Z0 : Fr} {J J' : Nat -> Option Nat} {Z Z' : Nat -> Prop} {s s' : AS} {a : Act} {w w' : World} {P : Program} {o : Oper} {nid : Nat} {v : AV} {ef : Eff}
theorem VO (R : Rel w0 Z0 J Z s a w) {x : Operand} (ho : o.op = .nilCheck x) {u : TV} (hx : bS w J Z (a.eval x) u) (h : ncF u = true) : Does P w0 Z0 Z s a w nid o (.t u) .nop := by
  refine bg R (u := a.eval x) ?_ hx
  have : ∃ b k, a.eval x = .pointer (some ⟨b, k, none⟩) := by
    unfold ncF at h
    split at h
    · obtain ⟨b, e, _⟩ := hx; exact ⟨b, _, e⟩
    · obtain ⟨b, off, X, e, _⟩ := hx; exact ⟨b, off, e⟩
    · generalize a.eval x = vx at hx
      cases hx with
      | ptr b off m f X => exact ⟨b, off, rfl⟩
    · cases h
  obtain ⟨b, k, e⟩ := this
  simp [execOp, ho, e]
theorem Er (z : Array Value) (n : Nat) : (madeCells z (n * z.size)).toList = (List.replicate n z.toList).flatten := w9 z n
theorem PX (R : Rel w0 Z0 J Z s a w) (hh : hget s.heap nid = none) {t e : TypeId} {E b : Nat} {l c : Operand} (ho : o.op = .makeSlice t l c) (hs : oU P t = some (E, b, e)) {z : List CV} (hz : eX P e = some z) {k k' : IntKind} {n : Int}
    (hl : a.eval l = .int k n) (hc : a.eval c = .int k' n) (h0 : 0 <= n) (hb : (b : Int) * n <= 281474976710656) (hm : n <= (maxLen : Int)) : Does P w0 Z0 Z s a w nid o (.t (.one (.slc nid 0 n.toNat E))) (.new (nV z n.toNat)) := by
  obtain ⟨i, zv, t1, t2, t3, t4, t5, t6, t7⟩ := iB hs
  obtain ⟨i', zv', h1, h2, rfl, h3⟩ := lY hz
  obtain rfl : i' = i := by rw [t2] at h1; exact (Option.some.inj h1).symm
  obtain rfl : zv' = zv := by rw [t3] at h2; exact (Option.some.inj h2).symm
  subst t5
  subst t6
  have hm' : n <= 9223372036854775807 := by simpa [maxLen] using hm
  have hr := run_make (P := P) w t e i' zv' t1 t2 t3 k k' n n (by omega) (Int.le_refl _) hb hm'
  have hall : aU (bQ w J Z) (madeCells zv'.cells (n.toNat * i'.size)).toList (nV (zv'.cells.toList.map fun v => CV.iv (.g v)) n.toNat) := by
    rw [uz, <- t4, Er]
    exact sQ _ fun v hv => by
      obtain ⟨x, hx, hy⟩ := List.mem_flatten.1 hv
      rw [(List.mem_replicate.1 hx).2] at hy
      exact h3 v hy
  refine pJ R hh (C := madeCells zv'.cells (n.toNat * i'.size)) (e := e) (u := .slice (some ⟨w.heap.size, 0, none⟩) n.toNat n.toNat) (by simp only [execOp, ho, hl, hc, Sem.run_bind, hr, Result.andThen_ok, Sem.run_pure]) hall fun w' J' hj hb' => ?_
  refine Or.inr ⟨w.heap.size, n.toNat, _, e, rfl, hj, Nat.le_refl _, by omega, hb', ?_⟩
  rw [size_madeCells, Nat.zero_add]
  exact Nat.le_refl _
theorem y9 (R : Rel w0 Z0 J Z s a w) {x : Option Operand} {nd : Prop} {m : Int} (h : j5 s.ev x = some (nd, some m)) (hn : nd) : ∃ y k, x = some y /\ a.eval y = .int k m := by
  cases x with
  | none => simp [j5] at h
  | some y =>
    simp only [j5] at h
    split at h
    · rename_i k m' h1
      simp only [Option.some.injEq, Prod.mk.injEq] at h
      obtain ⟨rfl, rfl⟩ := h
      obtain ⟨t, ht, hu⟩ := bV h1
      exact ⟨y, k, rfl, (bD.tv (R.ev y) ht hn).int hu⟩
    · cases h
theorem yB {s : AS} {x : Option Operand} {nd : Prop} (h : j5 s.ev x = some (nd, none)) : x = none := by
  cases x with
  | none => rfl
  | some y =>
    simp only [j5] at h
    split at h
    · simp at h
    · cases h
theorem vS (k : IntKind) (m : Int) (y : Nat) (code : BoundsCode) (h0 : 0 <= m) (h1 : m <= y) : (Instr.sliceBound (.int k m) y code).run P w = .ok m.toNat w := by
  simp [Instr.sliceBound, asIntOf, h0, h1]
theorem FB (R : Rel w0 Z0 J Z s a w) {t e : TypeId} {x : Operand} {lo hi mx : Option Operand} {E b : Nat} (ho : o.op = .slice t x lo hi mx) (hs : oU P t = some (E, b, e)) {u : TV} (hx : bS w J Z (a.eval x) u) {n1 n2 n3 nd : Prop} {l : Option Int} {h m : Int}
    (hl : j5 s.ev lo = some (n1, l)) (hh : j5 s.ev hi = some (n2, some h)) (hm : j5 s.ev mx = some (n3, some m)) (k1 : n1) (k2 : n2) (k3 : n3) {y : AV} (hf : yQ E (l.getD 0) h m u = some (nd, y)) (hn : nd) : Does P w0 Z0 Z s a w nid o y .nop := by
  obtain ⟨i, zv, t1, t2, t3, t4, t5, t6, t7⟩ := iB hs
  subst t5
  obtain ⟨oh, kh, rfl, eh⟩ := y9 R hh k2
  obtain ⟨om, km, rfl, em⟩ := y9 R hm k3
  have gl : (lo.map a.eval = none /\ l = none) \/ ∃ k m, lo.map a.eval = some (.int k m) /\ l = some m := by
    cases l with
    | none => rw [yB hl]; exact Or.inl ⟨rfl, rfl⟩
    | some m => obtain ⟨y, k, rfl, e⟩ := y9 R hl k1; exact Or.inr ⟨k, m, by simp [e], rfl⟩
  have hrun : ∀ (p : Option Addr) (n cap : Nat), a.eval x = .slice p n cap -> n <= cap -> 0 <= l.getD 0 -> l.getD 0 <= h -> h <= m -> m <= n ->
      (execOp a.eval o).run P w = .ok (.value (.slice (if m.toNat = (l.getD 0).toNat then p else p.map (·.add ((l.getD 0).toNat * i.size))) (h.toNat - (l.getD 0).toNat) (m.toNat - (l.getD 0).toNat))) w := fun p n cap hv hc g1 g2 g3 g4 => by
    have b1 := vS (P := P) (w := w) km m cap .slice3Acap (by omega) (by omega)
    have b2 := vS (P := P) (w := w) kh h m.toNat .slice3B (by omega) (by omega)
    have hb : (Instr.sliceBounds true n cap (lo.map a.eval) (some (.int kh h)) (some (.int km m))).run P w = .ok ((l.getD 0).toNat, h.toNat, m.toNat) w := by
      rcases gl with ⟨e1, rfl⟩ | ⟨k, q, e1, rfl⟩
      · rw [e1]; simp [Instr.sliceBounds, b1, b2]
      · have b3 := vS (P := P) (w := w) k q h.toNat .slice3C g1 (by simp at g2; omega)
        rw [e1]; simp [Instr.sliceBounds, b1, b2, b3]
    simp only [execOp, ho, hv, Instr.sliceAt, Sem.run_bind, run_underlying t1, Result.andThen_ok, Instr.slice, Option.map_some, eh, em, hb, dO t2, Sem.run_pure]
  unfold yQ at hf
  split at hf
  · rename_i E' n f
    split at hf
    · rename_i hE
      subst hE
      simp only [Option.some.injEq, Prod.mk.injEq] at hf
      obtain ⟨rfl, rfl⟩ := hf
      obtain ⟨g1, g2, g3, g4⟩ := hn
      generalize hv : a.eval x = vx at hx
      cases hx with
      | nil p cap _ _ =>
        have z1 : l.getD 0 = 0 := by omega
        have z2 : h = 0 := by omega
        have z3 : m = 0 := by omega
        subst z2
        subst z3
        refine bg R (hrun p 0 cap hv (Nat.zero_le _) g1 g2 g3 g4) ?_
        rw [z1]
        exact Rd.nil _ _ _ _
      | lst bb off _ cap _ _ X hz hnc hm' q1 q2 =>
        refine bg R (hrun _ n cap hv hnc g1 g2 g3 g4) ?_
        rw [show (h.toNat - (l.getD 0).toNat) = (h - l.getD 0).toNat by omega]
        by_cases hq : m.toNat = (l.getD 0).toNat
        · rw [if_pos hq, show (h - l.getD 0).toNat = 0 by omega]
          exact Rd.nil _ _ _ _
        · rw [if_neg hq]
          simp only [Option.map_some, Addr.add_lit]
          refine Rd.lst bb _ _ _ _ _ (fun k o => X ((l.getD 0).toNat + k) o) hz (by omega) (by omega) (fun k o hk ho => ?_) (fun k o hk ho => q2 _ _ (by omega) ho)
          have := q1 ((l.getD 0).toNat + k) o (by omega) ho
          rw [Nat.add_mul, <- Nat.add_assoc] at this
          exact this
    · cases hf
  · rename_i j off n E'
    split at hf
    · rename_i hE
      subst hE
      simp only [Option.some.injEq, Prod.mk.injEq] at hf
      obtain ⟨rfl, rfl⟩ := hf
      obtain ⟨g1, g2, g3, g4⟩ := hn
      rcases hx with ⟨rfl, hv⟩ | ⟨bb, cap, c, e', hv, hj, hc1, hc2, hb, hs'⟩
      · have hr := hrun _ 0 0 hv (Nat.le_refl _) g1 g2 g3 g4
        have z1 : (l.getD 0).toNat = 0 := by omega
        have z2 : h.toNat = 0 := by omega
        have z3 : m.toNat = 0 := by omega
        rw [z1, z2, z3] at hr
        simp only [if_true, Nat.sub_zero] at hr
        exact bg R hr (Or.inl ⟨by omega, rfl⟩)
      · have hr := hrun _ n cap hv hc1 g1 g2 g3 g4
        have hcl : (m.toNat - (l.getD 0).toNat) * i.size + (l.getD 0).toNat * i.size <= cap * i.size := by
          rw [<- Nat.add_mul, Nat.sub_add_cancel (by omega)]
          exact Nat.mul_le_mul_right _ (by omega)
        have he : (if m.toNat = (l.getD 0).toNat then (some ⟨bb, off, none⟩ : Option Addr) else (some ⟨bb, off, none⟩ : Option Addr).map (·.add ((l.getD 0).toNat * i.size))) = some ⟨bb, Sk (l.getD 0) m off i.size, none⟩ := by
          unfold Sk
          by_cases hq : m = l.getD 0
          · rw [if_pos (by rw [hq]), if_pos hq]
          · rw [if_neg (by omega), if_neg hq]; simp [Addr.add_lit]
        rw [he, show h.toNat - (l.getD 0).toNat = (h - l.getD 0).toNat by omega] at hr
        refine bg R hr (Or.inr ⟨bb, _, c, e', rfl, hj, by omega, by omega, hb, ?_⟩)
        unfold Sk
        by_cases hq : m = l.getD 0
        · rw [if_pos hq, show m.toNat - (l.getD 0).toNat = 0 by omega]; omega
        · rw [if_neg hq]; omega
    · cases hf
  · cases hf
theorem Kq (R : Rel w0 Z0 J Z s a w) {t : TypeId} {x : Operand} {lo hi mx : Option Operand} {n E : Nat} (ho : o.op = .slice t x lo hi mx) (hs : BP P t = some (n, E)) {u : TV} (hx : bS w J Z (a.eval x) u) {n1 n2 n3 nd : Prop} {h : Option Int}
    (hl : j5 s.ev lo = some (n1, none)) (hh : j5 s.ev hi = some (n2, h)) (hm : j5 s.ev mx = some (n3, none)) (k2 : n2) {y : AV} (hf : sP (hget s.heap) n E h u = some (nd, y)) (hn : nd) : Does P w0 Z0 Z s a w nid o y .nop := by
  obtain ⟨e, i, t1, t2, t3⟩ := vH hs
  subst t3
  obtain rfl := yB hl
  obtain rfl := yB hm
  have gh : (hi.map a.eval = none /\ h = none) \/ ∃ k m, hi.map a.eval = some (.int k m) /\ h = some m := by
    cases h with
    | none => rw [yB hh]; exact Or.inl ⟨rfl, rfl⟩
    | some m => obtain ⟨y, k, rfl, e⟩ := y9 R hh k2; exact Or.inr ⟨k, m, by simp [e], rfl⟩
  unfold sP at hf
  split at hf
  · rename_i j k
    split at hf
    · rename_i cs hcs
      simp only [Option.some.injEq, Prod.mk.injEq] at hf
      obtain ⟨rfl, rfl⟩ := hf
      obtain ⟨g1, g2, g3, g4, g5, g6⟩ := hn
      obtain ⟨b, hv, hj, hob⟩ := hx
      have hpos : 0 < n * i.size := Nat.mul_pos g4 g5
      obtain ⟨c, e', q2, q3⟩ := R.cells hcs (by rintro rfl; simp at g3; omega) hj hob
      have hlen := q3.length
      rw [List.length_take] at hlen
      have hcsz : cs.length <= c.size := by simp at hlen; omega
      have hb : (Instr.sliceBounds false n n (none : Option Value) (hi.map a.eval) none).run P w = .ok (0, (h.getD n).toNat, n) w := by
        rcases gh with ⟨e1, rfl⟩ | ⟨k', q, e1, rfl⟩
        · rw [e1]; simp [Instr.sliceBounds]
        · have b2 := vS (P := P) (w := w) k' q n .sliceAlen g1 g2
          rw [e1]; simp [Instr.sliceBounds, b2]
      have hr : (execOp a.eval o).run P w = .ok (.value (.slice (some ⟨b, k, none⟩) (h.getD n).toNat n)) w := by
        have hne : ¬ n = 0 := by omega
        simp only [execOp, ho, hv, Instr.sliceAt, Sem.run_bind, run_underlying t1, Result.andThen_ok, Instr.sureAddr, Option.map_none, hb, dO t2, Sem.run_pure]
        simp [hne, Addr.add_lit]
      exact bg R hr (Or.inr ⟨b, n, c, e', rfl, hj, by omega, g6, q2, by omega⟩)
    · cases hf
  · cases hf
theorem JQ (R : Rel w0 Z0 J Z s a w) {t : TypeId} {x : Operand} {n E : Nat} (ho : o.op = .sliceToArrayPointer t x) (hs : BP P t = some (n, E)) {u : TV} (hx : bS w J Z (a.eval x) u) {nd : Prop} {y : AV} (hf : Dk n E u = some (nd, y)) (hn : nd) : Does P w0 Z0 Z s a w nid o y .nop := by
  obtain ⟨e, i, t1, t2, t3⟩ := vH hs
  unfold Dk at hf
  split at hf
  · rename_i E' m f
    split at hf
    · rename_i hE
      obtain ⟨rfl, rfl⟩ := hE
      simp only [Option.some.injEq, Prod.mk.injEq] at hf
      obtain ⟨rfl, rfl⟩ := hf
      generalize hv : a.eval x = vx at hx
      cases hx with
      | nil p cap _ _ => omega
      | lst b off _ cap _ _ X hz hc hm h1 h2 =>
        have hr : (execOp a.eval o).run P w = .ok (.value (.pointer (some ⟨b, off, none⟩))) w := by
          have hlt : ¬ m < n := by omega
          simp [execOp, ho, hv, Instr.arrayAt, run_underlying t1, hlt]
        refine bg R hr ⟨b, off, fun o => X o 0, rfl, hz, fun o ho' => ⟨?_, h2 o 0 (by omega) (by omega)⟩⟩
        have := h1 o 0 (by omega) (by omega)
        simpa using this
    · cases hf
  · cases hf
theorem Rel.back (R : Rel w0 Z0 J Z s a w) {i : Nat} {cs cs' : List CV} (h0 : hget s.heap i = some cs) (he : cs' = cs) : Rel w0 Z0 J Z { s with heap := hset s.heap i cs' } a w := by
  subst he
  refine R.same fun k => ?_
  by_cases hk : k = i
  · subst hk; rw [bn, h0]
  · rw [bE _ _ _ _ hk]
theorem Mg (R : Rel w0 Z0 J Z s a w) {i b : Nat} {cs vs : List CV} {c : Array Value} {e : TypeId} {news : List Value} {off : Nat} (h0 : hget s.heap i = some cs) (hj : J i = some b) (hb : w.heap[b]? = some (.cells c e (0, 0))) (hne : cs ≠ [])
    (hv : aU (bQ w J Z) news vs) (hl : off + vs.length <= cs.length) : off + news.length <= c.size /\ Rel w0 Z0 J Z { s with heap := hset s.heap i (cs.take off ++ vs ++ cs.drop (off + vs.length)) } a (w.setRow b (c.toList.take off ++ news ++ c.toList.drop (off + news.length)).toArray) := by
  obtain ⟨c', e', g2, g3⟩ := R.cells h0 hne hj ⟨_, _, hb⟩
  rw [hb] at g2
  obtain ⟨rfl, rfl⟩ : c = c' /\ e = e' := by simp at g2; exact g2
  have hlen := g3.length
  rw [List.length_take] at hlen
  have hcsz : cs.length <= c.size := by simp at hlen; omega
  have hlv := hv.length
  have hN : (c.toList.take off ++ news ++ c.toList.drop (off + news.length)).toArray.size = c.size := by simp; omega
  refine ⟨by omega, Rel.set (c' := (c.toList.take off ++ news ++ c.toList.drop (off + news.length)).toArray) R h0 hj hb hN (bn _ _ _) (fun q hq => bE _ _ _ _ hq) ?_⟩
  have ht1 := g3.take off
  have ht2 := g3.drop (off + vs.length)
  have ht3 := (ht1.append hv).append ht2
  have e1 := FW c.toList news off cs.length (by omega) (by simpa using hcsz)
  rw [hlv] at e1
  have e2 : (cs.take off ++ vs ++ cs.drop (off + vs.length)).length = cs.length := by simp; omega
  show aU _ (List.take _ (c.toList.take off ++ news ++ c.toList.drop (off + news.length))) _
  rw [e2, hlv, e1]
  exact ht3
theorem aeu {news : List Value} {ns : List CV} (h : aU (bQ w J Z) news ns) : ∀ u ∈ news, u.oneCell' = true := fun u hu => by
  obtain ⟨q, hq, e⟩ := List.getElem_of_mem hu
  have : q < ns.length := by rw [<- h.length]; exact hq
  obtain ⟨x, hx, hr⟩ := h.get (List.getElem?_eq_getElem this)
  rw [List.getElem?_eq_getElem hq, Option.some.injEq] at hx
  rw [<- e, hx]; exact bQ.one hr
theorem OQ (R : Rel w0 Z0 J Z s a w) {c : Call} (ho : o.op = .call c) (hc : c.callee = .builtin .copy) {x y : Operand} {t t' e : TypeId} {b : Nat} (ha : c.args.toList = [x, y]) (ht : c.argTypes.toList = [t, t']) (hs : oU P t = some (1, b, e))
    {u v' : TV} (hx : bS w J Z (a.eval x) u) (hy : bS w J Z (a.eval y) v') {nd : Prop} {r : AV} (hf : BF (hget s.heap) v' u = some (nd, r, ef)) (hn : nd) : Does P w0 Z0 Z s a w nid o r ef := by
  obtain ⟨i, zv, t1, t2, t3, t4, t5, t6, t7⟩ := iB hs
  have ea : c.args = #[x, y] := by rw [<- Array.toArray_toList (xs := c.args), ha]
  have et : c.argTypes = #[t, t'] := by rw [<- Array.toArray_toList (xs := c.argTypes), ht]
  have hu : (P.info? e).map (·.size) = some 1 := by rw [t2]; simp [t5]
  unfold BF at hf
  split at hf
  · rename_i j off n E
    split at hf
    · rename_i cs nd' m ns h1 h2
      split at hf
      · rename_i hE
        subst hE
        simp only [Option.some.injEq, Prod.mk.injEq] at hf
        obtain ⟨rfl, rfl, rfl⟩ := hf
        have hsrc := ru R h2 hn.1 hy
        have hrun : ∀ {A B : Value} {k : Nat} {W : World}, a.eval x = A -> a.eval y = B -> (Builtin.copy_ #[t, t'] o.type #[A, B]).run P w = .ok (goInt k) W -> (execOp a.eval o).run P w = .ok (.value (goInt k)) W := fun {A B k W} e1 e2 h => by
          simp [execOp, ho, resolve, hc, invoke, builtin, ea, et, e1, e2, h, Result.andThen]
        have zero : ∀ (p p' : Option Addr) (cap cap' : Nat), a.eval x = .slice p n cap -> a.eval y = .slice p' m cap' -> min m n = 0 -> Does P w0 Z0 Z s a w nid o (iA .i64 ((min m n : Nat) : Int)) (.set j (cs.take off ++ ns.take (min m n) ++ cs.drop (off + min m n))) := fun p p' cap cap' e1 e2 h0 => by
          have hr := hrun e1 e2 (run_copy_none (P := P) w t t' o.type e p p' n cap m cap' t1 hu h0)
          refine ⟨J, w, goInt 0, Or.inl hr, ?_, ?_⟩
          · exact R.back h1 (by rw [h0]; simp)
          · rw [h0]; exact Rd.g _ rfl
        have ey : ∃ p' cap', a.eval y = .slice p' m cap' := by
          rcases hsrc with ⟨rfl, _, p, cc, e⟩ | ⟨_, b2, o2, cap2, news, e, _⟩
          · exact ⟨p, cc, e⟩
          · exact ⟨_, cap2, e⟩
        obtain ⟨p', cap', ey⟩ := ey
        rcases hx with ⟨rfl, hv⟩ | ⟨bb, cap, cc, e', hv, hj, hc1, hc2, hb, hs'⟩
        · exact zero _ _ _ _ hv ey (Nat.min_zero _)
        · by_cases h0 : min m n = 0
          · exact zero _ _ _ _ hv ey h0
          · rcases hsrc with ⟨rfl, _, _⟩ | ⟨hpos, b2, o2, cap2, news, e2, n1, n2, n3, n4⟩
            · exact absurd (Nat.zero_min _) h0
            · have hk : (news.take (min m n)).length = min m n := by rw [List.length_take, n1]; omega
              have hv4 := n4.take (min m n)
              have hlen4 := n4.length
              have hk2 : (ns.take (min m n)).length = min m n := by rw [List.length_take, <- hlen4, n1]; omega
              obtain ⟨hfit, hR⟩ := Mg (off := off) R h1 hj hb (by rintro rfl; simp at hn; omega) hv4 (by rw [hk2]; omega)
              rw [hk2] at hR
              have hcr := run_copy_row (P := P) w t t' o.type e bb off n cap ⟨b2, o2, none⟩ m cap2 cc e' (news.take (min m n)) t1 hu hb hk (fun q u hq => by
                rw [List.getElem?_take] at hq
                split at hq
                · exact n2 q u hq
                · cases hq) hfit (fun u hu => n3 u (List.mem_of_mem_take hu))
              have hr := hrun hv e2 hcr
              rw [hk] at hr
              exact ⟨J, _, _, Or.inl hr, by rw [hk] at hR; exact hR, Rd.g _ rfl⟩
      · cases hf
    · cases hf
  · cases hf
theorem zn (z : Array Value) (n : Nat) : (Builtin.zeroCells z n).toList = (List.replicate n z.toList).flatten := w9 z n
theorem La (R : Rel w0 Z0 J Z s a w) {c : Call} (ho : o.op = .call c) (hc : c.callee = .builtin .clear) {x : Operand} {t e : TypeId} {b : Nat} (ha : c.args.toList = [x]) (ht : c.argTypes.toList = [t]) (hs : oU P t = some (1, b, e))
    {z : List CV} (hz : eX P e = some z) {u : TV} (hx : bS w J Z (a.eval x) u) {nd : Prop} {r : AV} (hf : ug (hget s.heap) z u = some (nd, r, ef)) (hn : nd) : Does P w0 Z0 Z s a w nid o r ef := by
  obtain ⟨i, zv, t1, t2, t3, t4, t5, t6, t7⟩ := iB hs
  obtain ⟨i', zv', h1, h2, rfl, h3⟩ := lY hz
  obtain rfl : i' = i := by rw [t2] at h1; exact (Option.some.inj h1).symm
  obtain rfl : zv' = zv := by rw [t3] at h2; exact (Option.some.inj h2).symm
  have ea : c.args = #[x] := by rw [<- Array.toArray_toList (xs := c.args), ha]
  have et : c.argTypes = #[t] := by rw [<- Array.toArray_toList (xs := c.argTypes), ht]
  unfold ug at hf
  split at hf
  · simp only [Option.some.injEq, Prod.mk.injEq] at hf
    obtain ⟨rfl, rfl, rfl⟩ := hf
    refine ⟨J, w, .tuple #[], Or.inl ?_, R, trivial⟩
    have hv : ∃ p cap, a.eval x = .slice p 0 cap := by
      generalize hv : a.eval x = vx at hx
      cases hx with
      | nil p cap _ _ => exact ⟨p, cap, rfl⟩
      | lst b off _ cap _ _ X hz hn' hm' h1' h2' => exact ⟨_, cap, rfl⟩
    obtain ⟨p, cap, hv⟩ := hv
    have hcl : (Builtin.clear_ #[t] o.type #[.slice p 0 cap]).run P w = .ok (.tuple #[]) w := by
      cases p <;> simp [Builtin.clear_, run_underlying t1]
    simp [execOp, ho, resolve, hc, invoke, builtin, ea, et, hv, hcl, Result.andThen]
  · rename_i j off n E
    split at hf
    · rename_i cs hcs
      split at hf
      · rename_i hE
        subst hE
        simp only [Option.some.injEq, Prod.mk.injEq] at hf
        obtain ⟨rfl, rfl, rfl⟩ := hf
        have hrun : ∀ {A : Value} {W : World}, a.eval x = A -> (Builtin.clear_ #[t] o.type #[A]).run P w = .ok (.tuple #[]) W -> (execOp a.eval o).run P w = .ok (.value (.tuple #[])) W := fun {A W} e1 h => by
          simp [execOp, ho, resolve, hc, invoke, builtin, ea, et, e1, h, Result.andThen]
        have none0 : ∀ (p : Option Addr) (cap : Nat), a.eval x = .slice p 0 cap -> n = 0 -> Does P w0 Z0 Z s a w nid o .any (.set j (cs.take off ++ nV (zv'.cells.toList.map fun v => CV.iv (.g v)) n ++ cs.drop (off + n))) := fun p cap e1 h0 => by
          subst h0
          refine ⟨J, w, .tuple #[], Or.inl (hrun e1 ?_), R.back hcs (by simp [nV]), trivial⟩
          cases p <;> simp [Builtin.clear_, run_underlying t1]
        rcases hx with ⟨rfl, hv⟩ | ⟨bb, cap, cc, e', hv, hj, hc1, hc2, hb, hs'⟩
        · exact none0 _ _ hv rfl
        · by_cases h0 : n = 0
          · subst h0; exact none0 _ _ hv rfl
          · have hall : aU (bQ w J Z) (Builtin.zeroCells zv'.cells n).toList (nV (zv'.cells.toList.map fun v => CV.iv (.g v)) n) := by
              rw [uz, zn]
              exact sQ _ fun v hv => by
                obtain ⟨x, hx, hy⟩ := List.mem_flatten.1 hv
                rw [(List.mem_replicate.1 hx).2] at hy
                exact h3 v hy
            have hzl : (Builtin.zeroCells zv'.cells n).toList.length = n := by simp [Builtin.zeroCells]; rw [t4]; omega
            have hzl2 := hall.length
            rw [hzl] at hzl2
            obtain ⟨hfit, hR⟩ := Mg (off := off) R hcs hj hb (by rintro rfl; simp at hn; omega) hall (by rw [<- hzl2]; exact hn)
            rw [<- hzl2] at hR
            have hst := run_storeCells_at P bb off e' (Builtin.zeroCells zv'.cells n).toList 0 cc w hb (by simpa using hfit) (aeu hall)
            simp only [Nat.add_zero] at hst
            refine ⟨J, _, .tuple #[], Or.inl (hrun hv ?_), hR, trivial⟩
            have hz' : (zeroValue e).run P w = .ok zv' w := by simp [zeroValue, typeInfo, h1, h2]
            obtain ⟨q, rfl⟩ : ∃ q, n = q + 1 := ⟨n - 1, by omega⟩
            simp [Builtin.clear_, run_underlying t1, hz', hst]
      · cases hf
    · cases hf
  · cases hf
theorem tL (R : Rel w0 Z0 J Z s a w) (hh : hget s.heap nid = none) {nd : Prop} (h : wO P nid s.ev (hget s.heap) o = some (nd, v, ef)) (hn : nd) : Does P w0 Z0 Z s a w nid o v ef := by
  unfold wO at h
  split at h
  · rename_i x ho
    split at h
    · rename_i u h1
      split at h
      · rename_i h2
        simp only [Option.some.injEq, Prod.mk.injEq] at h
        obtain ⟨rfl, rfl, rfl⟩ := h
        exact VO R ho (bD.tv (R.ev x) h1 hn) h2
      · cases h
    · cases h
  · rename_i t l c ho
    split at h
    · rename_i E b e k m k' n h1 h2 h3
      split at h
      · rename_i z h4
        split at h
        · rename_i hmn
          subst hmn
          simp only [Option.some.injEq, Prod.mk.injEq] at h
          obtain ⟨rfl, rfl, rfl⟩ := h
          obtain ⟨u1, g1, e1⟩ := bV h2
          obtain ⟨u2, g2, e2⟩ := bV h3
          exact PX R hh ho h1 h4 ((bD.tv (R.ev l) g1 hn.1).int e1) ((bD.tv (R.ev c) g2 hn.2.1).int e2) hn.2.2.1 hn.2.2.2.1 hn.2.2.2.2
        · cases h
      · cases h
    · cases h
  · rename_i t x lo hi mx ho
    split at h
    · rename_i u n1 l n2 hq n3 m h1 h2 h3 h4
      split at h
      · rename_i q1 q2
        split at h
        · rename_i E b e h5
          split at h
          · rename_i nd' y h6
            simp only [Option.some.injEq, Prod.mk.injEq] at h
            obtain ⟨rfl, rfl, rfl⟩ := h
            exact FB R ho h5 (bD.tv (R.ev x) h1 hn.1) h2 h3 h4 hn.2.1 hn.2.2.1 hn.2.2.2.1 h6 hn.2.2.2.2
          · cases h
        · cases h
      · split at h
        · split at h
          · rename_i n E h5
            split at h
            · rename_i nd' y h6
              simp only [Option.some.injEq, Prod.mk.injEq] at h
              obtain ⟨rfl, rfl, rfl⟩ := h
              exact Kq R ho h5 (bD.tv (R.ev x) h1 hn.1) h2 h3 h4 hn.2.2.1 h6 hn.2.2.2.2
            · cases h
          · cases h
        · cases h
      · cases h
    · cases h
  · rename_i t x ho
    split at h
    · rename_i n E u h1 h2
      split at h
      · rename_i nd' y h3
        simp only [Option.some.injEq, Prod.mk.injEq] at h
        obtain ⟨rfl, rfl, rfl⟩ := h
        exact JQ R ho h1 (bD.tv (R.ev x) h2 hn.1) h3 hn.2
      · cases h
    · cases h
  · rename_i c ho
    split at h
    · rename_i hc
      split at h
      · rename_i x y t t' ha ht
        split at h
        · rename_i b e u1 u2 h1 h2 h3
          split at h
          · rename_i nd' r ef' h4
            simp only [Option.some.injEq, Prod.mk.injEq] at h
            obtain ⟨rfl, rfl, rfl⟩ := h
            exact OQ R ho hc ha ht h1 (bD.tv (R.ev x) h2 hn.1) (bD.tv (R.ev y) h3 hn.2.1) h4 hn.2.2
          · cases h
        · cases h
      · cases h
    · rename_i hc
      split at h
      · rename_i x t ha ht
        split at h
        · rename_i b e u1 h1 h2
          split at h
          · rename_i z h3
            split at h
            · rename_i nd' r ef' h4
              simp only [Option.some.injEq, Prod.mk.injEq] at h
              obtain ⟨rfl, rfl, rfl⟩ := h
              exact La R ho hc ha ht h1 h3 (bD.tv (R.ev x) h2 hn.1) h4 hn.2
            · cases h
          · cases h
        · cases h
      · cases h
    · exact sO R hh h hn
  · exact KO R hh h hn
end
end Go.Sea
namespace Go.Sea
open Go.RowKit
section
variable {w0 : World} {Z0 : Fr} {J J' : Nat -> Option Nat} {Z Z' : Nat -> Prop} {s s' : AS} {a : Act} {w w' : World} {P : Program} {o : Oper} {nid : Nat} {v : AV} {ef : Eff}
theorem Gw (R : Rel w0 Z0 J Z s a w) {x : Option Operand} {nd : Prop} {n : Option Int} (h : j5 s.ev x = some (nd, n)) (hn : nd) : (x = none /\ n = none) \/ ∃ y k m, x = some y /\ n = some m /\ a.eval y = .int k m := by
  cases x with
  | none => simp only [j5, Option.some.injEq, Prod.mk.injEq] at h; exact Or.inl ⟨rfl, h.2.symm⟩
  | some y =>
    simp only [j5] at h
    split at h
    · rename_i k m h1
      simp only [Option.some.injEq, Prod.mk.injEq] at h
      obtain ⟨rfl, rfl⟩ := h
      obtain ⟨t, ht, hu⟩ := bV h1
      exact Or.inr ⟨y, k, m, rfl, rfl, (bD.tv (R.ev y) ht hn).int hu⟩
    · cases h
theorem LJ (w : World) (len cap : Nat) (lo hi : Option Value) (l h : Option Int) (hl : (lo = none /\ l = none) \/ ∃ k m, lo = some (.int k m) /\ l = some m) (hh : (hi = none /\ h = none) \/ ∃ k m, hi = some (.int k m) /\ h = some m) (hc : len <= cap)
    (h1 : 0 <= l.getD 0) (h2 : l.getD 0 <= h.getD len) (h3 : h.getD len <= len) : (Instr.sliceBounds true len cap lo hi none).run P w = .ok ((l.getD 0).toNat, (h.getD len).toNat, cap) w := by
  rcases hl with ⟨rfl, rfl⟩ | ⟨k, m, rfl, rfl⟩ <;> rcases hh with ⟨rfl, rfl⟩ | ⟨k', m', rfl, rfl⟩ <;> simp only [Option.getD_none, Option.getD_some] at h1 h2 h3 ⊢
  · simp [Instr.sliceBounds]
  · have e1 : m' <= (cap : Int) := by omega
    simp [Instr.sliceBounds, Instr.sliceBound, asIntOf, h2, e1]
  · have e1 : m <= (len : Int) := by omega
    simp [Instr.sliceBounds, Instr.sliceBound, asIntOf, h1, e1]
  · have e1 : m' <= (cap : Int) := by omega
    have e2 : 0 <= m' := by omega
    have e3 : max m' 0 = m' := by omega
    simp [Instr.sliceBounds, Instr.sliceBound, asIntOf, h1, h2, e1, e2, e3]
theorem JZ (R : Rel w0 Z0 J Z s a w) {t e : TypeId} {x : Operand} {lo hi : Option Operand} {E b : Nat} (ho : o.op = .slice t x lo hi none) (hs : oU P t = some (E, b, e)) {y : TV} (hx : bS w J Z (a.eval x) y) {n1 n2 nd : Prop} {l h : Option Int} (hl : j5 s.ev lo = some (n1, l)) (hh : j5 s.ev hi = some (n2, h)) (k1 : n1) (k2 : n2) (hf : ED E l h y = some (nd, v)) (hn : nd) :
    Does P w0 Z0 Z s a w nid o v .nop := by
  obtain ⟨i, zv, t1, t2, t3, t4, t5, t6, t7⟩ := iB hs
  subst t5
  have gl : (lo.map a.eval = none /\ l = none) \/ ∃ k m, lo.map a.eval = some (.int k m) /\ l = some m := by
    rcases Gw R hl k1 with ⟨rfl, rfl⟩ | ⟨y, k, m, rfl, rfl, hy⟩
    · exact Or.inl ⟨rfl, rfl⟩
    · exact Or.inr ⟨k, m, by simp [hy], rfl⟩
  have gh : (hi.map a.eval = none /\ h = none) \/ ∃ k m, hi.map a.eval = some (.int k m) /\ h = some m := by
    rcases Gw R hh k2 with ⟨rfl, rfl⟩ | ⟨y, k, m, rfl, rfl, hy⟩
    · exact Or.inl ⟨rfl, rfl⟩
    · exact Or.inr ⟨k, m, by simp [hy], rfl⟩
  have hrun : ∀ (p : Option Addr) (len cap : Nat), a.eval x = .slice p len cap -> len <= cap -> 0 <= l.getD 0 -> l.getD 0 <= h.getD len -> h.getD len <= len ->
      (execOp a.eval o).run P w = .ok (.value (.slice (if cap = (l.getD 0).toNat then p else p.map (·.add ((l.getD 0).toNat * i.size))) ((h.getD len).toNat - (l.getD 0).toNat) (cap - (l.getD 0).toNat))) w := fun p len cap hv hc g1 g2 g3 => by
    have hb := LJ (P := P) w len cap _ _ _ _ gl gh hc g1 g2 g3
    simp only [execOp, ho, hv, Instr.sliceAt, Sem.run_bind, run_underlying t1, Result.andThen_ok, Instr.slice, Option.map_none, hb, dO t2, Sem.run_pure]
  unfold ED at hf
  split at hf
  · rename_i E' n f
    split at hf
    · rename_i hE
      subst hE
      simp only [Option.some.injEq, Prod.mk.injEq] at hf
      obtain ⟨rfl, rfl⟩ := hf
      obtain ⟨g1, g2, g3⟩ := hn
      generalize hv : a.eval x = vx at hx
      cases hx with
      | nil p cap _ _ =>
        refine bg R (hrun p 0 cap hv (Nat.zero_le _) g1 g2 g3) ?_
        rw [show ((h.getD (((0 : Nat)) : Int)).toNat - (l.getD 0).toNat) = 0 by omega, show (h.getD (((0 : Nat)) : Int) - l.getD 0).toNat = 0 by omega]
        exact Rd.nil _ _ _ _
      | lst bb off _ cap _ _ X hz hnc hm q1 q2 =>
        refine bg R (hrun _ n cap hv hnc g1 g2 g3) ?_
        rw [show ((h.getD n).toNat - (l.getD 0).toNat) = (h.getD n - l.getD 0).toNat by omega]
        by_cases hcap : cap = (l.getD 0).toNat
        · rw [if_pos hcap, show (h.getD n - l.getD 0).toNat = 0 by omega]
          exact Rd.nil _ _ _ _
        · rw [if_neg hcap]
          simp only [Option.map_some, Addr.add_lit]
          refine Rd.lst bb _ _ _ _ _ (fun k o => X ((l.getD 0).toNat + k) o) hz (by omega) (by omega) (fun k o hk ho => ?_) (fun k o hk ho => q2 _ _ (by omega) ho)
          have := q1 ((l.getD 0).toNat + k) o (by omega) ho
          rw [Nat.add_mul, <- Nat.add_assoc] at this
          exact this
    · cases hf
  · rename_i j off n E'
    split at hf
    · rename_i hE
      subst hE
      have own : ∀ {v0 : AV}, (0 <= l.getD 0 /\ l.getD 0 <= h.getD n /\ h.getD n <= n /\ (l.getD 0 = 0 \/ l.getD 0 < n)) -> v0 = .t (.one (.slc j (off + (l.getD 0).toNat * i.size) (h.getD n - l.getD 0).toNat i.size)) -> Does P w0 Z0 Z s a w nid o v0 .nop := by
        rintro v0 ⟨g1, g2, g3, g4⟩ rfl
        rcases hx with ⟨rfl, hv⟩ | ⟨bb, cap, c, e', hv, hj, hc1, hc2, hb, hs'⟩
        · have hr := hrun _ 0 0 hv (Nat.le_refl _) g1 g2 g3
          have hz : (l.getD 0).toNat = 0 := by omega
          rw [hz] at hr
          simp only [if_true, Nat.sub_zero] at hr
          rw [show (h.getD (((0 : Nat)) : Int)).toNat = 0 by omega] at hr
          exact bg R hr (Or.inl ⟨by omega, rfl⟩)
        have hr := hrun _ n cap hv hc1 g1 g2 g3
        have hcl : (cap - (l.getD 0).toNat) * i.size + (l.getD 0).toNat * i.size = cap * i.size := by rw [<- Nat.add_mul, Nat.sub_add_cancel (by omega)]
        have he : (if cap = (l.getD 0).toNat then (some ⟨bb, off, none⟩ : Option Addr) else (some ⟨bb, off, none⟩ : Option Addr).map (·.add ((l.getD 0).toNat * i.size))) = some ⟨bb, off + (l.getD 0).toNat * i.size, none⟩ := by
          split
          · rw [show (l.getD 0).toNat = 0 by omega]; simp
          · simp [Addr.add_lit]
        rw [he, show ((h.getD n).toNat - (l.getD 0).toNat) = (h.getD n - l.getD 0).toNat by omega] at hr
        exact bg R hr (Or.inr ⟨bb, _, c, e', rfl, hj, by omega, by omega, hb, by omega⟩)

      split at hf
      · rename_i l' e1 e2
        split at hf
        · rename_i hl'
          subst hl'
          simp only [Option.some.injEq, Prod.mk.injEq] at hf
          obtain ⟨rfl, rfl⟩ := hf
          rcases hx with ⟨rfl, hv⟩ | ⟨bb, cap, c, e', hv, hj, hc1, hc2, hb, hs'⟩
          · have hr := hrun _ 0 0 hv (Nat.le_refl _) (by simp) (by simp) (by simp)
            simp only [Option.getD_some, Option.getD_none, Nat.sub_self, Nat.zero_sub, Int.toNat_natCast] at hr
            exact bg R hr (Rd.nil _ _ _ _)
          · have hr := hrun _ n cap hv hc1 (by simp) (by simp) (by simp)
            simp only [Option.getD_some, Option.getD_none, Nat.sub_self, Int.toNat_natCast] at hr
            exact bg R hr (Rd.nil _ _ _ _)
        · rename_i hl'
          simp only [Option.some.injEq, Prod.mk.injEq] at hf
          obtain ⟨rfl, rfl⟩ := hf
          exact own (by simp only [Option.getD_some, Option.getD_none]; omega) (by simp only [Option.getD_some, Option.getD_none])
      · simp only [Option.some.injEq, Prod.mk.injEq] at hf
        obtain ⟨rfl, rfl⟩ := hf
        exact own hn rfl
    · cases hf
  · cases hf
theorem IB (R : Rel w0 Z0 J Z s a w) {t : TypeId} {x : Operand} {f off n : Nat} {ag : Bool} {cs : List CV} (ho : o.op = .field t x f) (hf : abF P t f = some (off, ag, n)) (hx : s.ev x = .t (.agg cs)) (hn : off + n <= cs.length /\ 0 < n) :
    Does P w0 Z0 Z s a w nid o (bif ag then .t (.agg ((cs.drop off).take n)) else .t (.one (cs.getD off .any))) .nop := by
  have h := R.ev x
  rw [hx] at h
  obtain ⟨A, hA, hr⟩ := h
  unfold abF at hf
  split at hf
  · rename_i fs hu
    split at hf
    · rename_i fd hfd
      split at hf
      · rename_i ag' n' htd
        cases hf
        obtain ⟨d, i, h1, h2, h3, h4⟩ := pU htd
        subst h3
        have hag := wQ h1 w
        rw [h4] at hag
        have hlen := hr.length
        simp only [Array.length_toList] at hlen
        cases ag with
        | true =>
          refine bg R (u := .agg (A.extract fd.offset (fd.offset + i.size))) ?_ ⟨_, rfl, ?_⟩
          · simp [execOp, ho, hA, Instr.field, run_underlying hu, hfd, part, hag, dO h2, asAgg]
          · have := (hr.drop fd.offset).take i.size
            rw [Array.toList_extract, List.extract_eq_take_drop]
            rw [show fd.offset + i.size - fd.offset = i.size by omega]
            exact this
        | false =>
          obtain ⟨u, hu', hr'⟩ := hr.get (k := fd.offset) (y := cs.getD fd.offset .any) (by simp [List.getD, List.getElem?_eq_getElem (show fd.offset < cs.length by omega)])
          refine bg R (u := u) ?_ hr'
          have hAu : A[fd.offset]? = some u := by rw [<- Array.getElem?_toList]; exact hu'
          simp [execOp, ho, hA, Instr.field, run_underlying hu, hfd, part, hag, hAu, asAgg]
      · cases hf
    · cases hf
  · cases hf
theorem EL (R : Rel w0 Z0 J Z s a w) {x : Operand} {k : Nat} {xs : List TV} {y : TV} (ho : o.op = .extract x k) (hx : s.ev x = .tup xs) (hk : xs[k]? = some y) : Does P w0 Z0 Z s a w nid o (.t y) .nop := by
  have h := R.ev x
  rw [hx] at h
  obtain ⟨A, hA, hr⟩ := h
  obtain ⟨u, hu, hr'⟩ := hr.get hk
  refine bg R (u := u) ?_ hr'
  have hAu : A[k]? = some u := by rw [<- Array.getElem?_toList]; exact hu
  simp [execOp, ho, hA, Instr.extract, hAu]
theorem BS (R : Rel w0 Z0 J Z s a w) {f : Fn} {x y : Array Operand} {n1 n2 : Prop} {l m : List LV} (ho : o.op = .makeFunc f x y) (h1 : xW s.ev x.toList = some (n1, l)) (h2 : xW s.ev y.toList = some (n2, m)) (k1 : n1) (k2 : n2) : Does P w0 Z0 Z s a w nid o (.t (.one (.fn f l m))) .nop := by
  refine bg R (u := .func f (x.map a.eval) (y.map a.eval)) (by simp [execOp, ho, Instr.makeFunc]) ⟨_, _, rfl, ?_, ?_⟩
  · rw [Array.toList_map]; exact E9 R h1 k1
  · rw [Array.toList_map]; exact E9 R h2 k2
theorem I4 (R : Rel w0 Z0 J Z s a w) (hh : hget s.heap nid = none) {c : Call} (ho : o.op = .call c) (hc : c.callee = .builtin .append) {x y : Operand} {t e : TypeId} {n b : Nat} (ha : c.args.toList = [x, y]) (ht : c.argTypes.toList = [t, t]) {u1 u2 : TV} (hs : oU P t = some (n, b, e)) (hx : bS w J Z (a.eval x) u1) (hy : bS w J Z (a.eval y) u2) {nd : Prop} (h : Gm nid n b (hget s.heap) u2 u1 = some (nd, v, ef)) (hn : nd) : Does P w0 Z0 Z s a w nid o v ef := by
  have ea : c.args = #[x, y] := by rw [<- Array.toArray_toList (xs := c.args), ha]
  have et : c.argTypes = #[t, t] := by rw [<- Array.toArray_toList (xs := c.argTypes), ht]
  obtain ⟨u, w', J', hrun, hR, hr⟩ := X0 (ty := o.type) R hh hs hx hy h hn
  refine ⟨J', w', u, Or.inl ?_, hR, hr⟩
  simp [execOp, ho, resolve, hc, invoke, builtin, ea, et, hrun]
theorem xq (R : Rel w0 Z0 J Z s a w) (mx : Bool) {c : Call} (ho : o.op = .call c) (hc : c.callee = .builtin (bif mx then .max else .min)) {x y : Operand} (ha : c.args.toList = [x, y]) {u1 u2 : TV} (hx : bS w J Z (a.eval x) u1) (hy : bS w J Z (a.eval y) u2) (h : vV mx u1 u2 = some v) : Does P w0 Z0 Z s a w nid o v .nop := by
  have ea : c.args = #[x, y] := by rw [<- Array.toArray_toList (xs := c.args), ha]
  unfold vV at h
  split at h
  · rename_i k m k' n h1 h2
    simp only [Option.some.injEq] at h
    subst h
    have e1 := hx.int h1
    have e2 := hy.int h2
    cases mx with
    | true => exact bg R (u := .int k (if n > m then n else m)) (by simp only [cond_true] at hc; simp [execOp, ho, resolve, hc, invoke, builtin, ea, Builtin.max_, Builtin.max2, e1, e2]) (Rd.g _ rfl)
    | false => exact bg R (u := .int k (if n < m then n else m)) (by simp only [cond_false] at hc; simp [execOp, ho, resolve, hc, invoke, builtin, ea, Builtin.min_, Builtin.min2, e1, e2]) (Rd.g _ rfl)
  · cases h
theorem PK (R : Rel w0 Z0 J Z s a w) {t : TypeId} {x : Operand} (ho : o.op = .load t x) {ag : Bool} {n : Nat} {y : TV} {nd : Prop} (ht : mU P t = some (ag, n)) (hx : bS w J Z (a.eval x) y) (h : sH ag n (hget s.heap) y = some (nd, v)) (hn : nd) : Does P w0 Z0 Z s a w nid o v .nop := by
  obtain ⟨u, hrun, hr⟩ := run_load (P := P) R ht hx h hn
  exact bg R (u := u) (by simp [execOp, ho, hrun]) hr
theorem Ll (R : Rel w0 Z0 J Z s a w) {t : TypeId} {p x : Operand} (ho : o.op = .store t p x) {ag : Bool} {n : Nat} {q y : TV} {nd : Prop} (ht : mU P t = some (ag, n)) (hp : bS w J Z (a.eval p) q) (hx : bS w J Z (a.eval x) y) (h : pI n (hget s.heap) y q = some (nd, v, ef)) (hn : nd) : Does P w0 Z0 Z s a w nid o v ef := by
  obtain ⟨rfl, w', hrun, hR⟩ := run_store' (P := P) (nid := nid) R ht hp hx h hn
  exact ⟨J, w', undef, Or.inr ⟨by simp [execOp, ho, hrun], rfl⟩, hR, trivial⟩
theorem Gc (R : Rel w0 Z0 J Z s a w) {t : TypeId} {x ix : Operand} {n m : Nat} {ag : Bool} {cs : List CV} {kk : IntKind} {i : Int} (ho : o.op = .index t x ix) (hf : ixD P t = some (n, ag, m)) (hx : s.ev x = .t (.agg cs)) (hi : a.eval ix = .int kk i) (h0 : 0 <= i /\ i < (n : Int)) (hn : i.toNat * m + m <= cs.length /\ 0 < m) :
    Does P w0 Z0 Z s a w nid o (bif ag then .t (.agg ((cs.drop (i.toNat * m)).take m)) else .t (.one (cs.getD (i.toNat * m) .any))) .nop := by
  have h := R.ev x
  rw [hx] at h
  obtain ⟨A, hA, hr⟩ := h
  unfold ixD at hf
  split at hf
  · rename_i n' e hu
    split at hf
    · rename_i ag' m' htd
      cases hf
      obtain ⟨d, ii, h1, h2, h3, h4⟩ := pU htd
      subst h3
      have hag := wQ h1 w
      rw [h4] at hag
      cases ag with
      | true =>
        refine bg R (u := .agg (A.extract (i.toNat * ii.size) (i.toNat * ii.size + ii.size))) ?_ ⟨_, rfl, ?_⟩
        · simp [execOp, ho, hA, hi, Instr.index, asIntOf, run_underlying hu, h0.1, h0.2, part, hag, dO h2]
        · have := (hr.drop (i.toNat * ii.size)).take ii.size
          rw [Array.toList_extract, List.extract_eq_take_drop]
          rw [show i.toNat * ii.size + ii.size - i.toNat * ii.size = ii.size by omega]
          exact this
      | false =>
        obtain ⟨u, hu', hr'⟩ := hr.get (k := i.toNat * ii.size) (y := cs.getD (i.toNat * ii.size) .any) (by simp [List.getD, List.getElem?_eq_getElem (show i.toNat * ii.size < cs.length by omega)])
        refine bg R (u := u) ?_ hr'
        have hAu : A[i.toNat * ii.size]? = some u := by rw [<- Array.getElem?_toList]; exact hu'
        simp [execOp, ho, hA, hi, Instr.index, asIntOf, run_underlying hu, h0.1, h0.2, part, hag, hAu, dO h2]
    · cases hf
  · cases hf
theorem kX (R : Rel w0 Z0 J Z s a w) (hh : hget s.heap nid = none) {nd : Prop} (h : nP P nid s.ev (hget s.heap) o = some (nd, v, ef)) (hn : nd) : Does P w0 Z0 Z s a w nid o v ef := by
  unfold nP at h
  split at h
  · exact Da R (Or.inl (by assumption)) h hn
  · exact Da R (Or.inr (by assumption)) h hn
  · rename_i c x y ho
    split at h
    · rename_i cc hc
      simp only [Option.some.injEq, Prod.mk.injEq] at h
      obtain ⟨rfl, rfl, rfl⟩ := h
      exact Px R ho hc hn.1 hn.2.1 hn.2.2
    · cases h
  · rename_i t ho
    split at h
    · rename_i cs hz
      simp only [Option.some.injEq, Prod.mk.injEq] at h
      obtain ⟨rfl, rfl, rfl⟩ := h
      exact Ko R hh ho hz
    · cases h
  · rename_i t x ho
    split at h
    · rename_i y hx
      simp only [Option.some.injEq, Prod.mk.injEq] at h
      obtain ⟨rfl, rfl, rfl⟩ := h
      exact QZ R hh ho hx hn
    · cases h
  · rename_i t ps ho
    split at h
    · rename_i z nd' l h1 h2 h3
      split at h
      · rename_i cs h4
        simp only [Option.some.injEq, Prod.mk.injEq] at h
        obtain ⟨rfl, rfl, rfl⟩ := h
        exact Lx R ho h1 h2 h3 hn h4
      · cases h
    · cases h
  · rename_i t n ps ho
    split at h
    · rename_i E b e nd' l h1 h2
      split at h
      · rename_i z h3
        split at h
        · rename_i cs h4
          split at h
          · rename_i h5
            simp only [Option.some.injEq, Prod.mk.injEq] at h
            obtain ⟨rfl, rfl, rfl⟩ := h
            exact x9 R hh ho h1 h3 h2 hn h4 h5
          · split at h
            · simp only [Option.some.injEq, Prod.mk.injEq] at h
              obtain ⟨rfl, rfl, rfl⟩ := h
              exact AL R hh ho h1 h2
            · cases h
        · cases h
      · cases h
    · cases h
  · rename_i t x lo hi mx ho
    split at h
    · rename_i E b e u n1 l n2 hi' h1 h2 h3 h4
      split at h
      · rename_i nd' y h5
        simp only [Option.some.injEq, Prod.mk.injEq] at h
        obtain ⟨rfl, rfl, rfl⟩ := h
        exact JZ R ho h1 (bD.tv (R.ev x) h2 hn.1) h3 h4 hn.2.1 hn.2.2.1 h5 hn.2.2.2
      · cases h
    · exact tL R hh h hn
  · rename_i t x f ho
    split at h
    · rename_i off ag n cs h1 h2
      simp only [Option.some.injEq, Prod.mk.injEq] at h
      obtain ⟨rfl, rfl, rfl⟩ := h
      exact IB R ho h1 h2 hn
    · cases h
  · rename_i t x ho
    split at h
    · rename_i ag n u h1 h2
      split at h
      · rename_i nd' y h3
        simp only [Option.some.injEq, Prod.mk.injEq] at h
        obtain ⟨rfl, rfl, rfl⟩ := h
        exact PK R ho h1 (bD.tv (R.ev x) h2 hn.1).dp h3 hn.2
      · cases h
    · cases h
  · rename_i t p x ho
    split at h
    · rename_i ag n q u h1 h2 h3
      split at h
      · rename_i nd' y ef' h4
        simp only [Option.some.injEq, Prod.mk.injEq] at h
        obtain ⟨rfl, rfl, rfl⟩ := h
        exact Ll R ho h1 (bD.tv (R.ev p) h2 hn.1).dp (bD.tv (R.ev x) h3 hn.2.1) h4 hn.2.2
      · cases h
    · cases h
  · rename_i op t x y t' ho
    split at h
    · rename_i k m k' n h1 h2
      split at h
      · rename_i nd' v' h3
        split at h
        · rename_i hk
          subst hk
          simp only [Option.some.injEq, Prod.mk.injEq] at h
          obtain ⟨rfl, rfl, rfl⟩ := h
          obtain ⟨u1, g1, e1⟩ := bV h1
          obtain ⟨u2, g2, e2⟩ := bV h2
          exact Sm R ho ((bD.tv (R.ev x) g1 hn.1).int e1) ((bD.tv (R.ev y) g2 hn.2.1).int e2) h3 hn.2.2
        · cases h
      · cases h
    · split at h
      · rename_i u v h1 h2
        split at h
        · rename_i r h3
          simp only [Option.some.injEq, Prod.mk.injEq] at h
          obtain ⟨rfl, rfl, rfl⟩ := h
          obtain ⟨u1, g1, e1⟩ := bV h1
          obtain ⟨u2, g2, e2⟩ := bV h2
          exact O9 R ho ((bD.tv (R.ev x) g1 hn.1).bool e1) ((bD.tv (R.ev y) g2 hn.2).bool e2) h3
        · cases h
      · split at h
        · rename_i u v h2 h3
          split at h
          · split at h
            · rename_i ks h1
              split at h
              · rename_i r h4
                simp only [Option.some.injEq, Prod.mk.injEq] at h
                obtain ⟨rfl, rfl, rfl⟩ := h
                exact Yg R ho h1 (bD.tv (R.ev x) h2 hn.1) (bD.tv (R.ev y) h3 hn.2) h4
              · cases h
            · cases h
          · split at h
            · rename_i nd r h4
              simp only [Option.some.injEq, Prod.mk.injEq] at h
              obtain ⟨rfl, rfl, rfl⟩ := h
              exact Rm R ho (bD.tv (R.ev x) h2 hn.1) (bD.tv (R.ev y) h3 hn.2.1) h4 hn.2.2
            · cases h
        · cases h
  · rename_i op t x ho
    split at h
    · rename_i u h1
      split at h
      · rename_i b h2
        simp only [Option.some.injEq, Prod.mk.injEq] at h
        obtain ⟨rfl, rfl, rfl⟩ := h
        have e := (bD.tv (R.ev x) h1 hn).bool h2
        exact bg R (u := .bool (!b)) (by simp [execOp, ho, e, Op.unary]) (Rd.g _ rfl)
      · cases h
    · rename_i u h1
      split at h
      · rename_i k n h2
        simp only [Option.some.injEq, Prod.mk.injEq] at h
        obtain ⟨rfl, rfl, rfl⟩ := h
        have e := (bD.tv (R.ev x) h1 hn).int h2
        exact bg R (u := .int k (k.wrap (0 - n))) (by simp [execOp, ho, e, Op.unary, Op.intArith]) (Rd.g _ rfl)
      · cases h
    · cases h
  · rename_i src dst x ho
    split at h
    · rename_i td k k' n h1 h2 h3
      simp only [Option.some.injEq, Prod.mk.injEq] at h
      obtain ⟨rfl, rfl, rfl⟩ := h
      obtain ⟨u1, g1, e1⟩ := bV h3
      have e := (bD.tv (R.ev x) g1 hn).int e1
      obtain ⟨d, i, q1, _⟩ := pU (b := td.1) (n := td.2) h1
      have q2 := Vs h2
      refine bg R (u := .int k (k.wrap n)) ?_ (Rd.g _ rfl)
      simp only [execOp, ho, e, convert, Sem.run_bind, run_underlying q1, run_underlying q2, Result.andThen_ok]
      simp [Conv.intToInt]
    · cases h
  · rename_i f x y ho
    split at h
    · rename_i n1 l n2 m h1 h2
      simp only [Option.some.injEq, Prod.mk.injEq] at h
      obtain ⟨rfl, rfl, rfl⟩ := h
      exact BS R ho h1 h2 hn.1 hn.2
    · cases h
  · rename_i t x f ho
    split at h
    · rename_i off u h1 h2
      split at h
      · rename_i nd' y h3
        simp only [Option.some.injEq, Prod.mk.injEq] at h
        obtain ⟨rfl, rfl, rfl⟩ := h
        exact JI R ho h1 (bD.tv (R.ev x) h2 hn.1).dp h3 hn.2
      · cases h
    · cases h
  · rename_i t x ix ho
    split at h
    · rename_i u k n h1 h2
      split at h
      · rename_i nd' y h3
        simp only [Option.some.injEq, Prod.mk.injEq] at h
        obtain ⟨rfl, rfl, rfl⟩ := h
        obtain ⟨u2, g2, e2⟩ := bV h2
        exact Ky R ho ((bD.tv (R.ev ix) g2 hn.2.1).int e2) (bD.tv (R.ev x) h1 hn.1).dp h3 hn.2.2
      · cases h
    · cases h
  · rename_i t x ix ho
    split at h
    · rename_i n ag m cs kk i h1 h2 h3
      simp only [Option.some.injEq, Prod.mk.injEq] at h
      obtain ⟨rfl, rfl, rfl⟩ := h
      obtain ⟨u2, g2, e2⟩ := bV h3
      exact Gc R ho h1 h2 ((bD.tv (R.ev ix) g2 hn.1).int e2) hn.2.1 hn.2.2
    · cases h
  · rename_i x k ho
    split at h
    · rename_i xs h1
      split at h
      · rename_i y h2
        simp only [Option.some.injEq, Prod.mk.injEq] at h
        obtain ⟨rfl, rfl, rfl⟩ := h
        exact EL R ho h1 h2
      · cases h
    · cases h
  · rename_i c ho
    split at h
    · rename_i hc
      split at h
      · rename_i x t ha ht
        split at h
        · rename_i sl u h1 h2
          split at h
          · rename_i y h3
            simp only [Option.some.injEq, Prod.mk.injEq] at h
            obtain ⟨rfl, rfl, rfl⟩ := h
            exact QW R ho hc ha ht (bD.tv (R.ev x) h2 hn) h1 h3
          · cases h
        · cases h
        · exact sO R hh h hn
      · cases h
    · rename_i hc
      split at h
      · rename_i x y t t' ha ht
        split at h
        · rename_i n b e u1 u2 h1 h2 h3
          split at h
          · rename_i nd' r ef' h4
            split at h
            · rename_i htt
              subst htt
              simp only [Option.some.injEq, Prod.mk.injEq] at h
              obtain ⟨rfl, rfl, rfl⟩ := h
              exact I4 R hh ho hc ha ht h1 (bD.tv (R.ev x) h2 hn.1) (bD.tv (R.ev y) h3 hn.2.1) h4 hn.2.2
            · cases h
          · cases h
        · cases h
      · cases h
    · rename_i hc
      split at h
      · rename_i x y ha
        split at h
        · rename_i u1 u2 h1 h2
          split at h
          · rename_i r h3
            simp only [Option.some.injEq, Prod.mk.injEq] at h
            obtain ⟨rfl, rfl, rfl⟩ := h
            exact xq R true ho hc ha (bD.tv (R.ev x) h1 hn.1) (bD.tv (R.ev y) h2 hn.2) h3
          · cases h
        · cases h
      · cases h
    · rename_i hc
      split at h
      · rename_i x y ha
        split at h
        · rename_i u1 u2 h1 h2
          split at h
          · rename_i r h3
            simp only [Option.some.injEq, Prod.mk.injEq] at h
            obtain ⟨rfl, rfl, rfl⟩ := h
            exact xq R false ho hc ha (bD.tv (R.ev x) h1 hn.1) (bD.tv (R.ev y) h2 hn.2) h3
          · cases h
        · cases h
      · cases h
    · exact tL R hh h hn
  · exact tL R hh h hn
end
end Go.Sea
