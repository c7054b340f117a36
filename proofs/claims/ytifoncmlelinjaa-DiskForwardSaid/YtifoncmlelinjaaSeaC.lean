/- Operations on abstract states. -/
import Derived.Test.YtifoncmlelinjaaSeaJ
set_option linter.unusedVariables false
set_option linter.unusedSimpArgs false
namespace Go.Sea
open Go.RowKit

abbrev Hp := Nat → Option (List CV)
inductive Eff where
  | nop
  | new (cs : List CV)
  | set (i : Nat) (cs : List CV)
  | app (i : Nat) (cs : List CV)

def hset : List (Option (List CV)) → Nat → List CV → List (Option (List CV))
  | [], 0, x => [some x]
  | [], n + 1, x => none :: hset [] n x
  | _ :: h, 0, x => some x :: h
  | y :: h, n + 1, x => y :: hset h n x
theorem hget_nil (i : Nat) : hget [] i = none := by simp [hget]
theorem hget_zero (y : Option (List CV)) (h : List (Option (List CV))) : hget (y :: h) 0 = y := by simp [hget]
theorem hget_succ (y : Option (List CV)) (h : List (Option (List CV))) (n : Nat) : hget (y :: h) (n + 1) = hget h n := by simp [hget]
theorem hget_hset_same : ∀ (h : List (Option (List CV))) (n : Nat) (x : List CV), hget (hset h n x) n = some x
  | [], 0, x => by simp [hset, hget]
  | [], n + 1, x => by rw [hset, hget_succ]; exact hget_hset_same [] n x
  | _ :: h, 0, x => by simp [hset, hget]
  | y :: h, n + 1, x => by rw [hset, hget_succ]; exact hget_hset_same h n x
theorem hget_hset_ne : ∀ (h : List (Option (List CV))) (n k : Nat) (x : List CV), k ≠ n → hget (hset h n x) k = hget h k
  | [], 0, 0, x, hk => absurd rfl hk
  | [], 0, k + 1, x, hk => by rw [hset, hget_succ, hget_nil, hget_nil]
  | [], n + 1, 0, x, hk => by rw [hset, hget_zero, hget_nil]
  | [], n + 1, k + 1, x, hk => by rw [hset, hget_succ, hget_hset_ne [] n k x (by omega), hget_nil, hget_nil]
  | _ :: h, 0, 0, x, hk => absurd rfl hk
  | _ :: h, 0, k + 1, x, hk => by rw [hset, hget_succ, hget_succ]
  | y :: h, n + 1, 0, x, hk => by rw [hset, hget_zero, hget_zero]
  | y :: h, n + 1, k + 1, x, hk => by rw [hset, hget_succ, hget_succ]; exact hget_hset_ne h n k x (by omega)

def AS.eff (s : AS) (nid : Nat) : Eff → AS
  | .nop => s
  | .new cs => { s with heap := hset s.heap nid cs }
  | .set i cs => { s with heap := hset s.heap i cs }
  | .app i cs => { s with env := purgeE i s.env, gh := purgeG i s.gh, heap := hset (purgeH i s.heap) i cs }

def constA : Value → AV
  | .agg A => if A.all Value.oneCell' then .t (.agg (A.toList.map fun v => .iv (.g v))) else .any
  | .tuple _ => .any
  | v => .t (.one (.iv (.g v)))
def AS.ev (s : AS) : Operand → AV
  | .tmp t => s.get t
  | .const v => constA v
  | .func f => .t (.one (.iv (.g (.func (.func f) #[] #[]))))
  | .global _ => .any

theorem all2_g {w : World} {J : Nat → Option Nat} {Z : Nat → Prop} : ∀ (l : List Value), (∀ v ∈ l, v.oneCell' = true) → All2 (CRel w J Z) l (l.map fun v => .iv (.g v))
  | [], _ => trivial
  | v :: l, h => ⟨Rd.g v (h v (by simp)), all2_g l fun x hx => h x (by simp [hx])⟩
theorem constA_rel {w : World} {J : Nat → Option Nat} {Z : Nat → Prop} (v : Value) : ARel w J Z v (constA v) := by
  unfold constA
  split
  · split
    · rename_i A h
      refine ⟨A, rfl, all2_g _ fun x hx => ?_⟩
      rw [Array.all_eq_true'] at h
      exact h x (by simpa using hx)
    · trivial
  · trivial
  · rename_i h1 h2
    refine Rd.g v ?_
    cases v <;> first | rfl | exact absurd rfl (h1 _) | exact absurd rfl (h2 _)
section
variable {w0 : World} {Z0 : Fr} {J J' : Nat → Option Nat} {Z Z' : Nat → Prop} {s s' : AS} {a : Act} {w w' : World} {P : Program}
theorem Rel.ev (R : Rel w0 Z0 J Z s a w) (x : Operand) : ARel w J Z (a.eval x) (s.ev x) := by
  cases x with
  | tmp t => exact R.slots t
  | const v => exact constA_rel v
  | global g => trivial
  | func f => exact Rd.g _ rfl
end

def AV.tv : AV → Option TV
  | .t x | .mb _ x => some x
  | _ => none
def AV.nd : AV → Prop
  | .mb c _ => c = true
  | _ => True
theorem ARel.tv {w : World} {J : Nat → Option Nat} {Z : Nat → Prop} {v : Value} {x : AV} {y : TV} (h : ARel w J Z v x) (h1 : x.tv = some y) (h2 : x.nd) : TRel w J Z v y := by
  cases x <;> simp [AV.tv, AV.nd] at h1 h2 <;> subst h1
  · exact h
  · exact h.1 h2

def TV.cells : TV → List CV
  | .one c => [c]
  | .agg cs => cs
theorem TRel.cells {w : World} {J : Nat → Option Nat} {Z : Nat → Prop} {v : Value} {x : TV} (h : TRel w J Z v x) : All2 (CRel w J Z) v.cells.toList x.cells := by
  cases x with
  | one c =>
    have h1 := CRel.one h
    have : v.cells = #[v] := by cases v <;> first | rfl | (simp [Value.oneCell'] at h1)
    rw [this]; exact ⟨h, trivial⟩
  | agg cs => obtain ⟨A, rfl, h⟩ := h; exact h
def TV.int? : TV → Option (IntKind × Int)
  | .one (.iv (.g (.int k n))) => some (k, n)
  | _ => none
theorem TRel.int {w : World} {J : Nat → Option Nat} {Z : Nat → Prop} {v : Value} {x : TV} {k : IntKind} {n : Int} (h : TRel w J Z v x) (h1 : x.int? = some (k, n)) : v = .int k n := by
  unfold TV.int? at h1
  split at h1
  · cases h1
    cases h; rfl
  · cases h1
def TV.bool? : TV → Option Bool
  | .one (.iv (.g (.bool b))) => some b
  | _ => none
theorem TRel.bool {w : World} {J : Nat → Option Nat} {Z : Nat → Prop} {v : Value} {x : TV} {b : Bool} (h : TRel w J Z v x) (h1 : x.bool? = some b) : v = .bool b := by
  unfold TV.bool? at h1
  split at h1
  · cases h1
    cases h; rfl
  · cases h1
abbrev iA (k : IntKind) (n : Int) : AV := .t (.one (.iv (.g (.int k n))))
abbrev bA (b : Bool) : AV := .t (.one (.iv (.g (.bool b))))

/-- What the table of types says: is it an aggregate, and its size; a slice's element: size, bytes, type; an array's length and element's size; an integer's kind; a field's offset. -/
def isAggD : TypeDesc → Bool
  | .struct _ | .array _ _ => true
  | _ => false
def tyD (P : Program) (t : TypeId) : Option (Bool × Nat) := match P.underlying t, P.info? t with
  | some d, some i => some (isAggD d, i.size)
  | _, _ => none
def slD (P : Program) (t : TypeId) : Option (Nat × Nat × TypeId) := match P.underlying t with
  | some (.slice e) => match P.info? e with
    | some i => match i.zero with
      | some z => if z.cells.size = i.size ∧ 0 < i.size then some (i.size, i.bytes, e) else none
      | none => none
    | none => none
  | _ => none
def arD (P : Program) (t : TypeId) : Option (Nat × Nat) := match P.underlying t with
  | some (.array n e) => match P.info? e with
    | some i => some (n, i.size)
    | none => none
  | _ => none
def inD (P : Program) (t : TypeId) : Option IntKind := match P.underlying t with
  | some (.int k) => some k
  | _ => none
def offOf (P : Program) (t : TypeId) (f : Nat) : Option Nat := match P.underlying t with
  | some (.struct fields) => match fields[f]? with
    | some fd => match P.info? fd.type with
      | some i => if i.size = 0 then none else some fd.offset
      | none => none
    | none => none
  | _ => none
theorem tyD_spec {P : Program} {t : TypeId} {b : Bool} {n : Nat} (h : tyD P t = some (b, n)) : ∃ d i, P.underlying t = some d ∧ P.info? t = some i ∧ i.size = n ∧ isAggD d = b := by
  unfold tyD at h
  split at h
  · rename_i d i h1 h2
    cases h
    exact ⟨d, i, h1, h2, rfl, rfl⟩
  · cases h
theorem slD_spec {P : Program} {t e : TypeId} {n b : Nat} (h : slD P t = some (n, b, e)) : ∃ i z, P.underlying t = some (.slice e) ∧ P.info? e = some i ∧ i.zero = some z ∧ z.cells.size = n ∧ i.size = n ∧ i.bytes = b ∧ 0 < n := by
  unfold slD at h
  split at h
  · rename_i e' h1
    split at h
    · rename_i i h2
      split at h
      · rename_i z h3
        split at h
        · rename_i h4
          cases h
          exact ⟨i, z, h1, h2, h3, h4.1, rfl, rfl, h4.2⟩
        · cases h
      · cases h
    · cases h
  · cases h
theorem arD_spec {P : Program} {t : TypeId} {n b : Nat} (h : arD P t = some (n, b)) : ∃ e i, P.underlying t = some (.array n e) ∧ P.info? e = some i ∧ i.size = b := by
  unfold arD at h
  split at h
  · rename_i k e' h1
    split at h
    · rename_i i h2
      cases h
      exact ⟨e', i, h1, h2, rfl⟩
    · cases h
  · cases h
theorem inD_spec {P : Program} {t : TypeId} {k : IntKind} (h : inD P t = some k) : P.underlying t = some (.int k) := by
  unfold inD at h
  split at h
  · cases h; assumption
  · cases h
theorem offOf_spec {P : Program} {t : TypeId} {f o : Nat} (h : offOf P t f = some o) : ∃ fs fd i, P.underlying t = some (.struct fs) ∧ fs[f]? = some fd ∧ P.info? fd.type = some i ∧ i.size ≠ 0 ∧ fd.offset = o := by
  unfold offOf at h
  split at h
  · rename_i fs h1
    split at h
    · rename_i fd h2
      split at h
      · rename_i i h3
        split at h
        · cases h
        · cases h
          exact ⟨fs, fd, i, h1, h2, h3, by assumption, rfl⟩
      · cases h
    · cases h
  · cases h
def ipCells (c : Nat → IV) : Nat → Nat → List CV
  | 0, _ => []
  | n + 1, k => .iv (c k) :: ipCells c n (k + 1)
def loadF (agg : Bool) (size : Nat) (H : Hp) : TV → Option (Prop × AV)
  | .one (.ip m c) => bif agg then some (size ≤ m, .t (.agg (ipCells c size 0))) else some (0 < m, .t (.one (.iv (c 0))))
  | .one (.ptr i o) => match H i with
    | some cs => bif agg then some (o + size ≤ cs.length ∧ 0 < size, .t (.agg ((cs.drop o).take size))) else some (o < cs.length, .t (.one (cs.getD o .any)))
    | none => none
  | _ => none
def storeF (size : Nat) (H : Hp) (v : TV) : TV → Option (Prop × AV × Eff)
  | .one (.ptr i o) => match H i with
    | some cs => some (v.cells.length = size ∧ o + size ≤ cs.length ∧ 0 < size, .any, .set i (cs.take o ++ v.cells ++ cs.drop (o + size)))
    | none => none
  | _ => none
def fieldF (off : Nat) : TV → Option (Prop × AV)
  | .one (.ip m c) => some (True, .t (.one (.ip (m - off) fun o => c (off + o))))
  | .one (.ptr i o) => some (True, .t (.one (.ptr i (o + off))))
  | _ => none
def indexF (sl : Option (Nat × Nat × TypeId)) (ar : Option (Nat × Nat)) (n : Int) : TV → Option (Prop × AV)
  | .one (.iv (.lst E len f)) => match sl with
    | some (e, _, _) => if e = E then some (0 ≤ n ∧ n < len, .t (.one (.ip E fun o => f n.toNat o))) else none
    | none => none
  | .one (.slc i off len E) => match sl with
    | some (e, _, _) => if e = E then some (0 ≤ n ∧ n < len, .t (.one (.ptr i (off + n.toNat * E)))) else none
    | none => none
  | .one (.ptr i o) => match ar with
    | some (len, e) => some (0 ≤ n ∧ n < len, .t (.one (.ptr i (o + n.toNat * e))))
    | none => none
  | .one (.ip m c) => match ar with
    | some (len, e) => some (0 ≤ n ∧ n < len, .t (.one (.ip (m - n.toNat * e) fun o => c (n.toNat * e + o))))
    | none => none
  | _ => none
def lenF (sl : Bool) : TV → Option AV
  | .one (.iv (.lst _ n _)) => bif sl then some (iA .i64 n) else none
  | .one (.slc _ _ n _) => bif sl then some (iA .i64 n) else none
  | .one (.iv (.g (.slice _ n _))) => bif sl then some (iA .i64 n) else none
  | .one (.iv (.g (.string b))) => bif sl then none else some (iA .i64 b.size)
  | _ => none
def intF (op : BinOp) (k : IntKind) (x y : Int) : Option (Prop × AV) :=
  match op with
  | .add => some (True, iA k (k.wrap (x + y)))
  | .sub => some (True, iA k (k.wrap (x - y)))
  | .mul => some (True, iA k (k.wrap (x * y)))
  | .quo => some (y ≠ 0, iA k (k.wrap (x.tdiv y)))
  | .rem => some (y ≠ 0, iA k (x.tmod y))
  | .eql => some (True, bA (x == y))
  | .neq => some (True, bA (x != y))
  | .lss => some (True, bA (x < y))
  | .leq => some (True, bA (x ≤ y))
  | .gtr => some (True, bA (x > y))
  | .geq => some (True, bA (x ≥ y))
  | .shl => some (0 ≤ y, iA k (k.wrap (x * 2 ^ (min y.toNat k.bits))))
  | .shr => some (0 ≤ y, iA k (x.fdiv (2 ^ (min y.toNat k.bits))))
  | _ => none
def zeroC (P : Program) (t : TypeId) : Option (List CV) := match P.info? t with
  | some i => match i.zero with
    | some v => if v.cells.all Value.oneCell' then some (v.cells.toList.map fun v => .iv (.g v)) else none
    | none => none
  | none => none
def fillF (place : Nat → Option (Nat × Nat)) (cells : List CV) : List (Nat × TV) → Option (List CV)
  | [] => some cells
  | (i, v) :: rest => match place i with
    | none => none
    | some (off, size) => if v.cells.length = size ∧ off + size ≤ cells.length then fillF place (cells.take off ++ v.cells ++ cells.drop (off + size)) rest else none
def repC (z : List CV) : Nat → List CV
  | 0 => []
  | n + 1 => z ++ repC z n
def partsF (ρ : Operand → AV) : List (Nat × Operand) → Option (Prop × List (Nat × TV))
  | [] => some (True, [])
  | (i, x) :: r => match (ρ x).tv, partsF ρ r with
    | some v, some (nd, l) => some ((ρ x).nd ∧ nd, (i, v) :: l)
    | _, _ => none
def TV.lv : TV → Option LV
  | .one (.iv c) => some (.iv c)
  | .one (.ptr i o) => some (.ptr i o)
  | _ => none
def lvsF (ρ : Operand → AV) : List Operand → Option (Prop × List LV)
  | [] => some (True, [])
  | x :: r => match (ρ x).tv.bind TV.lv, lvsF ρ r with
    | some v, some (nd, l) => some ((ρ x).nd ∧ nd, v :: l)
    | _, _ => none
/-- A slice from lo to hi. -/
def sliceF (e : Nat) (lo hi : Option Int) : TV → Option (Prop × AV)
  | .one (.iv (.lst E n f)) => if e = E then some (0 ≤ lo.getD 0 ∧ lo.getD 0 ≤ hi.getD n ∧ hi.getD n ≤ n, .t (.one (.iv (.lst E (hi.getD n - lo.getD 0).toNat fun i o => f ((lo.getD 0).toNat + i) o)))) else none
  | .one (.slc i off n E) => if e = E then (match lo, hi with
    | some l, none => if l = n then some (0 ≤ l, .t (.one (.iv (.lst E 0 fun _ _ => .g undef)))) else some (0 ≤ l ∧ l ≤ n, .t (.one (.slc i (off + l.toNat * E) (n - l).toNat E)))
    | _, _ => some (0 ≤ lo.getD 0 ∧ lo.getD 0 ≤ hi.getD n ∧ hi.getD n ≤ n ∧ (lo.getD 0 = 0 ∨ lo.getD 0 < n), .t (.one (.slc i (off + (lo.getD 0).toNat * E) (hi.getD n - lo.getD 0).toNat E)))) else none
  | _ => none
/-- The cells of a list. -/
def lstC (f : Nat → Nat → IV) (E : Nat) : Nat → Nat → List CV
  | 0, _ => []
  | n + 1, k => ipCells (f k) E 0 ++ lstC f E n (k + 1)
/-- What is appended: what it needs, how many elements, and their cells. -/
def srcF (size : Nat) (H : Hp) : TV → Option (Prop × Nat × List CV)
  | .one (.iv (.g (.slice none 0 0))) => some (True, 0, [])
  | .one (.iv (.lst E n f)) => if E = size then some (True, n, lstC f E n 0) else none
  | .one (.slc j off m E) => match H j with
    | some ns => if E = size then some (off + m * E ≤ ns.length, m, (ns.drop off).take (m * E)) else none
    | none => none
  | _ => none
def appF (nid size : Nat) (bytes : Nat) (H : Hp) (x : TV) : TV → Option (Prop × AV × Eff)
  | .one (.iv (.g (.slice none 0 0))) => match srcF size H x with
    | some (nd, m, ns) => some (nd ∧ m * bytes ≤ 140737488355328 ∧ m ≤ maxLen, .t (.one (.slc nid 0 m size)), .new ns)
    | none => none
  | .one (.slc i 0 n E) => match H i, srcF size H x with
    | some cs, some (nd, m, ns) => if E = size then some (nd ∧ cs.length = n * E ∧ (n + m) * bytes ≤ 140737488355328 ∧ n + m ≤ maxLen,
          .t (.one (.slc i 0 (n + m) E)), .app i (purgeC i (cs ++ ns))) else none
    | _, _ => none
  | _ => none


section
variable {w0 : World} {Z0 : Fr} {J J' : Nat → Option Nat} {Z Z' : Nat → Prop} {s s' : AS} {a : Act} {w w' : World} {P : Program}
theorem run_isAgg {t : TypeId} {d : TypeDesc} (h : P.underlying t = some d) (w : World) : (isAgg t).run P w = .ok (isAggD d) w := by
  unfold isAgg
  simp only [Sem.run_bind, run_underlying h, Result.andThen_ok]
  cases d <;> rfl
theorem run_size {t : TypeId} {i : TypeInfo} (h : P.info? t = some i) (w : World) : (sizeOf t).run P w = .ok i.size w := by
  simp [sizeOf, typeInfo, h]
theorem ipCells_length (c : Nat → IV) : ∀ n k, (ipCells c n k).length = n
  | 0, _ => rfl
  | n + 1, k => by simp [ipCells, ipCells_length c n (k + 1)]
theorem all2_ipCells {c : Nat → IV} {X : Nat → Value} : ∀ n k, (∀ o, o < k + n → Rd w Z (X o) (c o)) → All2 (CRel w J Z) ((List.range' k n).map X) (ipCells c n k)
  | 0, _, _ => trivial
  | n + 1, k, h => by
    rw [List.range'_succ, List.map_cons]
    exact ⟨h k (by omega), all2_ipCells n (k + 1) fun o ho => h o (by omega)⟩
theorem run_load_cells {b o : Nat} {c : Array Value} {e : TypeId} {f : Nat × Nat} (hb : w.heap[b]? = some (.cells c e f)) (n : Nat) (hn : o + n ≤ c.size) : (loadCells ⟨b, o, none⟩ n).run P w = .ok ((c.toList.drop o).take n).toArray w := by
  have hl : ((c.toList.drop o).take n).length = n := by simp; omega
  have := run_loadCells_list (P := P) w ⟨b, o, none⟩ ((c.toList.drop o).take n) (fun j v hj => by
    rw [Addr.add_lit, cell_of_row w b (o + j) c e f hb]
    rw [List.getElem?_take] at hj
    split at hj
    · rw [List.getElem?_drop] at hj; simpa using hj
    · cases hj)
  rw [hl] at this
  exact this
theorem run_load (R : Rel w0 Z0 J Z s a w) {t : TypeId} {ag : Bool} {n : Nat} {v : Value} {x : TV} {nd : Prop} {y : AV} (ht : tyD P t = some (ag, n)) (hx : TRel w J Z v x) (h : loadF ag n (hget s.heap) x = some (nd, y)) (hn : nd) :
    ∃ u, (Instr.loadAt t v).run P w = .ok u w ∧ ARel w J Z u y := by
  obtain ⟨d, i, h1, h2, h3, h4⟩ := tyD_spec ht
  subst h3
  have hag := run_isAgg h1 w
  rw [h4] at hag
  unfold loadF at h
  split at h
  · rename_i m c
    obtain ⟨b, off, X, rfl, hz, hX⟩ := hx
    cases ag with
    | true =>
      simp only [cond_true, Option.some.injEq, Prod.mk.injEq] at h
      obtain ⟨rfl, rfl⟩ := h
      have hl := run_loadCells (P := P) w ⟨b, off, none⟩ i.size X (fun j hj => by rw [Addr.add_lit]; exact (hX j (by omega)).1)
      refine ⟨.agg ((List.range i.size).map X).toArray, ?_, ⟨_, rfl, ?_⟩⟩
      · simp [Instr.loadAt, Instr.sureAddr, loadVar, hag, run_size h2, hl]
      · have := all2_ipCells (J := J) (w := w) (Z := Z) (c := c) (X := X) i.size 0 fun o ho => (hX o (by omega)).2
        rw [← List.range_eq_range'] at this
        simpa using this
    | false =>
      simp only [cond_false, Option.some.injEq, Prod.mk.injEq] at h
      obtain ⟨rfl, rfl⟩ := h
      refine ⟨X 0, ?_, (hX 0 hn).2⟩
      have := (hX 0 hn).1
      rw [Nat.add_zero] at this
      simp [Instr.loadAt, Instr.sureAddr, loadVar, hag, this]
  · rename_i k o
    split at h
    · rename_i cs hcs
      obtain ⟨b, rfl, hj⟩ := hx
      have hne : cs ≠ [] := by
        rintro rfl
        cases ag <;> simp only [cond_true, cond_false, Option.some.injEq, Prod.mk.injEq] at h <;> obtain ⟨rfl, _⟩ := h <;> simp at hn <;> omega
      obtain ⟨b', c, e, g1, g2, g3⟩ := R.cells k cs hcs hne
      obtain rfl : b = b' := by rw [hj] at g1; exact Option.some.inj g1
      have hlen := g3.length
      rw [List.length_take] at hlen
      cases ag with
      | true =>
        simp only [cond_true, Option.some.injEq, Prod.mk.injEq] at h
        obtain ⟨rfl, rfl⟩ := h
        have hl := run_load_cells (P := P) g2 (o := o) i.size (by simp at hlen; omega)
        refine ⟨.agg ((c.toList.drop o).take i.size).toArray, ?_, ⟨_, rfl, ?_⟩⟩
        · simp [Instr.loadAt, Instr.sureAddr, loadVar, hag, run_size h2, hl]
        · have := (g3.drop o).take i.size
          simp only [List.drop_take, List.take_take] at this
          rw [show min i.size (cs.length - o) = i.size by omega] at this
          exact this
      | false =>
        simp only [cond_false, Option.some.injEq, Prod.mk.injEq] at h
        obtain ⟨rfl, rfl⟩ := h
        obtain ⟨u, hu, hr⟩ := g3.get (k := o) (y := cs.getD o .any) (by simp [List.getD, List.getElem?_eq_getElem hn])
        refine ⟨u, ?_, hr⟩
        have hcu : w.cell? ⟨b, o, none⟩ = some u := by
          rw [cell_of_row w b o c e _ g2]
          rw [List.getElem?_take, if_pos hn] at hu
          simpa using hu
        simp [Instr.loadAt, Instr.sureAddr, loadVar, hag, hcu]
    · cases h
  · cases h
theorem seg_take {α : Type} (l v : List α) (o k : Nat) (h : o + v.length ≤ k) (hk : k ≤ l.length) : (l.take o ++ v ++ l.drop (o + v.length)).take k = (l.take k).take o ++ v ++ (l.take k).drop (o + v.length) := by
  have e3 : (l.take o ++ v).length = o + v.length := by simp; omega
  rw [List.take_append, e3, List.take_of_length_le (by omega), List.take_take, show min o k = o by omega, List.drop_take]
theorem run_store' (R : Rel w0 Z0 J Z s a w) {t : TypeId} {ag : Bool} {n nid : Nat} {p v : Value} {x y : TV} {nd : Prop} {r : AV} {ef : Eff} (ht : tyD P t = some (ag, n)) (hp : TRel w J Z p x) (hv : TRel w J Z v y) (h : storeF n (hget s.heap) y x = some (nd, r, ef)) (hn : nd) :
    r = .any ∧ ∃ w', (Instr.storeAt t p v).run P w = .ok () w' ∧ Rel w0 Z0 J Z (s.eff nid ef) a w' := by
  obtain ⟨d, i, h1, h2, h3, h4⟩ := tyD_spec ht
  subst h3
  unfold storeF at h
  split at h
  · rename_i k o
    split at h
    · rename_i cs hcs
      simp only [Option.some.injEq, Prod.mk.injEq] at h
      obtain ⟨rfl, rfl, rfl⟩ := h
      obtain ⟨b, rfl, hj⟩ := hp
      obtain ⟨b', c, e, g1, g2, g3⟩ := R.cells k cs hcs (by rintro rfl; simp at hn; omega)
      obtain rfl : b = b' := by rw [hj] at g1; exact Option.some.inj g1
      have hvc := TRel.cells hv
      have hlv := hvc.length
      have hlen := g3.length
      rw [List.length_take] at hlen
      have hcsz : cs.length ≤ c.size := by simp at hlen; omega
      have h1c : ∀ u ∈ v.cells.toList, u.oneCell' = true := fun u hu => by
        obtain ⟨q, hq, e⟩ := List.getElem_of_mem hu
        have : q < y.cells.length := by omega
        obtain ⟨x, hx, hr⟩ := hvc.get (List.getElem?_eq_getElem this)
        rw [List.getElem?_eq_getElem hq, Option.some.injEq] at hx
        rw [← e, hx]; exact CRel.one hr
      have hst := run_storeCells_at P b o e v.cells.toList 0 c w g2 (by simp at hlv ⊢; omega) h1c
      simp only [Nat.add_zero] at hst
      refine ⟨rfl, w.setRow b (c.toList.take o ++ v.cells.toList ++ c.toList.drop (o + v.cells.toList.length)).toArray, ?_, ?_⟩
      · have hsz : ¬ v.cells.size ≠ i.size := by simp at hlv; omega
        simp only [Instr.storeAt, Instr.sureAddr, storeVar, Sem.run_bind, Sem.run_pure, Result.andThen_ok, run_size h2, if_neg hsz]
        exact hst
      · have hN : (c.toList.take o ++ v.cells.toList ++ c.toList.drop (o + v.cells.toList.length)).toArray.size = c.size := by simp at hlv ⊢; omega
        refine Rel.set (c' := (c.toList.take o ++ v.cells.toList ++ c.toList.drop (o + v.cells.toList.length)).toArray) R hcs g1 g2 hN (hget_hset_same _ _ _) (fun q hq => hget_hset_ne _ _ _ _ hq) ?_
        have ht1 := g3.take o
        have ht2 := g3.drop (o + i.size)
        have ht3 := (ht1.append hvc).append ht2
        have e1 := seg_take c.toList v.cells.toList o cs.length (by omega) (by simpa using hcsz)
        rw [hlv, hn.1] at e1
        have e2 : (cs.take o ++ y.cells ++ cs.drop (o + i.size)).length = cs.length := by simp; omega
        show All2 _ (List.take _ (c.toList.take o ++ v.cells.toList ++ c.toList.drop (o + v.cells.toList.length))) _
        rw [e2, hlv, hn.1, e1]
        exact ht3
    · cases h
  · cases h
end
end Go.Sea
