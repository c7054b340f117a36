/- Calls by value, and a region walked in the text's order. -/
import Derived.Test.YtifoncmlelinjaaSeaF
set_option linter.unusedVariables false
set_option linter.unusedSimpArgs false
namespace Go.Sea
open Go.RowKit

/-- The blocks of an own memory, for reading by value. -/
def OwnZ (J : Nat → Option Nat) (Z : Nat → Prop) : Nat → Prop := fun b => Z b ∨ ∃ i, J i = some b
/-- By value; own: an own block is read. -/
def toIV (H : Hp) : CV → Option (Prop × IV × Bool)
  | .iv c => some (True, c, false)
  | .ip m c => some (True, .ptr m c, false)
  | .ptr i o => match H i with
    | some cs => some (o < cs.length ∧ ∀ c, c ∈ cs → isIv c, .ptr (cs.length - o) fun k => civ (cs.getD (o + k) .any), true)
    | none => none
  | .slc i off n E => match H i with
    | some cs => some (off + n * E ≤ cs.length ∧ ∀ c, c ∈ cs → isIv c, .lst E n fun j o => civ (cs.getD (off + j * E + o) .any), true)
    | none => none
  | _ => none
def toIVs (H : Hp) : List CV → Option (Prop × List IV × Bool)
  | [] => some (True, [], false)
  | c :: l => match toIV H c, toIVs H l with
    | some (n1, x, b1), some (n2, xs, b2) => some (n1 ∧ n2, x :: xs, b1 || b2)
    | _, _ => none
def toPT (H : Hp) : TV → Option (Prop × PT × Bool)
  | .one c => match toIV H c with
    | some (n, x, b) => some (n, .one x, b)
    | none => none
  | .agg cs => match toIVs H cs with
    | some (n, x, b) => some (n, .agg x, b)
    | none => none
def toPTs (H : Hp) : List TV → Option (Prop × List PT × Bool)
  | [] => some (True, [], false)
  | c :: l => match toPT H c, toPTs H l with
    | some (n1, x, b1), some (n2, xs, b2) => some (n1 ∧ n2, x :: xs, b1 || b2)
    | _, _ => none
def toPV (H : Hp) : AV → Option (Prop × PV × Bool)
  | .t x => match toPT H x with
    | some (n, y, b) => some (n, .t y, b)
    | none => none
  | .tup xs => match toPTs H xs with
    | some (n, y, b) => some (n, .tup y, b)
    | none => none
  | _ => none

def flatI : IV → Bool
  | .g _ => true
  | .lst .. => false
  | .ptr .. => false
def PT.flat : PT → Bool
  | .one c => flatI c
  | .agg cs => cs.all flatI
def PV.flat : PV → Bool
  | .t x => x.flat
  | .tup xs => xs.all PT.flat
theorem Rd.flat {w : World} {Z Z' : Nat → Prop} {v : Value} {c : IV} (h : Rd w Z v c) (hf : flatI c = true) : Rd w Z' v c := by
  cases h with
  | g v h => exact .g v h
  | nil => cases hf
  | lst => cases hf
  | ptr => cases hf
theorem PTRel.flat {w : World} {Z Z' : Nat → Prop} {v : Value} {x : PT} (h : PTRel w Z v x) (hf : x.flat = true) : PTRel w Z' v x := by
  cases x with
  | one c => exact Rd.flat h hf
  | agg cs =>
    obtain ⟨A, e, h⟩ := h
    exact ⟨A, e, h.mono' fun a b hb hr => Rd.flat hr (List.all_eq_true.1 hf b hb)⟩
theorem PRel.flat {w : World} {Z Z' : Nat → Prop} {v : Value} {x : PV} (h : PRel w Z v x) (hf : x.flat = true) : PRel w Z' v x := by
  cases x with
  | t x => exact PTRel.flat h hf
  | tup cs =>
    obtain ⟨A, e, h⟩ := h
    exact ⟨A, e, h.mono' fun a b hb hr => PTRel.flat hr (List.all_eq_true.1 hf b hb)⟩
theorem PTRel.zmono {w : World} {Z Z' : Nat → Prop} {v : Value} {x : PT} (hz : ∀ b, Z b → Z' b) (h : PTRel w Z v x) : PTRel w Z' v x := by
  cases x with
  | one c => exact Rd.mono h hz fun _ _ _ => rfl
  | agg cs =>
    obtain ⟨A, e, h⟩ := h
    exact ⟨A, e, h.mono fun a b hr => Rd.mono hr hz fun _ _ _ => rfl⟩
theorem PRel.zmono {w : World} {Z Z' : Nat → Prop} {v : Value} {x : PV} (hz : ∀ b, Z b → Z' b) (h : PRel w Z v x) : PRel w Z' v x := by
  cases x with
  | t x => exact PTRel.zmono hz h
  | tup cs =>
    obtain ⟨A, e, h⟩ := h
    exact ⟨A, e, h.mono fun a b hr => PTRel.zmono hz hr⟩

section
variable {w0 : World} {Z0 : Fr} {J J' : Nat → Option Nat} {Z Z' : Nat → Prop} {s s' : AS} {a : Act} {w w' : World} {P : Program} {o : Oper} {nid : Nat} {v : AV} {ef : Eff}
theorem toIV_rel (R : Rel w0 Z0 J Z s a w) {u : Value} {c : CV} {nd : Prop} {x : IV} {b : Bool} (h : CRel w J Z u c) (h1 : toIV (hget s.heap) c = some (nd, x, b)) (hn : nd) : Rd w (if b then OwnZ J Z else Z) u x := by
  unfold toIV at h1
  split at h1
  · simp only [Option.some.injEq, Prod.mk.injEq] at h1
    obtain ⟨rfl, rfl, rfl⟩ := h1
    exact h
  · rename_i m c
    simp only [Option.some.injEq, Prod.mk.injEq] at h1
    obtain ⟨rfl, rfl, rfl⟩ := h1
    obtain ⟨bb, off, X, rfl, hz, hX⟩ := h
    exact Rd.ptr bb off m c X hz (fun o ho => (hX o ho).1) fun o ho => (hX o ho).2
  · rename_i i off
    split at h1
    · rename_i cs hcs
      simp only [Option.some.injEq, Prod.mk.injEq] at h1
      obtain ⟨rfl, rfl, rfl⟩ := h1
      obtain ⟨bb, rfl, hj⟩ := h
      obtain ⟨b', c1, e1, g1, g2, g3⟩ := R.cells i cs hcs (by rintro rfl; simp at hn)
      obtain rfl : bb = b' := by rw [hj] at g1; exact Option.some.inj g1
      rw [if_pos rfl]
      have val : ∀ o, o < cs.length - off → w.cell? ⟨bb, off + o, none⟩ = some (c1.getD (off + o) undef) ∧ Rd w (OwnZ J Z) (c1.getD (off + o) undef) (civ (cs.getD (off + o) .any)) := fun o ho => by
        have hk : off + o < cs.length := by omega
        obtain ⟨u, hu, hr⟩ := g3.get (k := off + o) (y := cs.getD (off + o) .any) (by simp [List.getD, List.getElem?_eq_getElem hk])
        rw [List.getElem?_take, if_pos hk, Array.getElem?_toList] at hu
        have hg : c1.getD (off + o) undef = u := by simp [hu]
        rw [hg, cell_of_row w bb _ c1 e1 _ g2]
        refine ⟨hu, ?_⟩
        have hiv := hn.2 (cs.getD (off + o) .any) (by simp [List.getD, List.getElem?_eq_getElem hk])
        generalize cs.getD (off + o) .any = cv at hiv hr
        cases cv <;> simp only [isIv] at hiv
        exact Rd.mono hr (fun _ hz => Or.inl hz) fun _ _ _ => rfl
      exact Rd.ptr bb off _ _ (fun o => c1.getD (off + o) undef) (Or.inr ⟨i, hj⟩) (fun o ho => (val o ho).1) fun o ho => (val o ho).2
    · cases h1
  · rename_i i off n E
    split at h1
    · rename_i cs hcs
      simp only [Option.some.injEq, Prod.mk.injEq] at h1
      obtain ⟨rfl, rfl, rfl⟩ := h1
      rcases h with ⟨rfl, rfl⟩ | ⟨bb, cap, c', e, rfl, hj, hc1, hc2, hb, hs⟩
      · exact Rd.nil _ _ _ _
      by_cases hne : cs = []
      · subst hne
        have key : ∀ j o, j < n → o < E → False := fun j o hj ho => by
          have : (j + 1) * E ≤ n * E := Nat.mul_le_mul_right _ hj
          rw [Nat.add_mul] at this
          have := hn.1
          simp at this
          omega
        rw [if_pos rfl]
        exact Rd.lst bb off n cap E _ (fun _ _ => undef) (Or.inr ⟨i, hj⟩) hc1 hc2 (fun j o hj ho => (key j o hj ho).elim) fun j o hj ho => (key j o hj ho).elim
      obtain ⟨b', c1, e1, g1, g2, g3⟩ := R.cells i cs hcs hne
      obtain rfl : bb = b' := by rw [hj] at g1; exact Option.some.inj g1
      rw [if_pos rfl]
      have key : ∀ j o, j < n → o < E → off + j * E + o < cs.length := fun j o hj ho => by
        have : (j + 1) * E ≤ n * E := Nat.mul_le_mul_right _ hj
        rw [Nat.add_mul] at this
        have := hn.1
        omega
      have val : ∀ j o, j < n → o < E → w.cell? ⟨bb, off + j * E + o, none⟩ = some (c1.getD (off + j * E + o) undef) ∧ Rd w (OwnZ J Z) (c1.getD (off + j * E + o) undef) (civ (cs.getD (off + j * E + o) .any)) := fun j o hj ho => by
        have hk := key j o hj ho
        obtain ⟨u, hu, hr⟩ := g3.get (k := off + j * E + o) (y := cs.getD (off + j * E + o) .any) (by simp [List.getD, List.getElem?_eq_getElem hk])
        rw [List.getElem?_take, if_pos hk, Array.getElem?_toList] at hu
        have hg : c1.getD (off + j * E + o) undef = u := by simp [hu]
        rw [hg, cell_of_row w bb _ c1 e1 _ g2]
        refine ⟨hu, ?_⟩
        have hiv := hn.2 (cs.getD (off + j * E + o) .any) (by simp [List.getD, List.getElem?_eq_getElem hk])
        generalize cs.getD (off + j * E + o) .any = cv at hiv hr
        cases cv <;> simp only [isIv] at hiv
        exact Rd.mono hr (fun _ hz => Or.inl hz) fun _ _ _ => rfl
      exact Rd.lst bb off n cap E _ (fun j o => c1.getD (off + j * E + o) undef) (Or.inr ⟨i, hj⟩) hc1 hc2 (fun j o hj ho => (val j o hj ho).1) fun j o hj ho => (val j o hj ho).2
    · cases h1
  · cases h1
theorem ifz {b1 b2 : Bool} {J : Nat → Option Nat} {Z : Nat → Prop} (k : Nat) : ((if b1 then OwnZ J Z else Z) k → (if (b1 || b2) then OwnZ J Z else Z) k) ∧ ((if b2 then OwnZ J Z else Z) k → (if (b1 || b2) then OwnZ J Z else Z) k) := by
  cases b1 <;> cases b2 <;> simp [OwnZ] <;> exact fun h => Or.inl h
theorem toIVs_rel (R : Rel w0 Z0 J Z s a w) : ∀ {l : List Value} {cs : List CV} {nd : Prop} {x : List IV} {b : Bool}, All2 (CRel w J Z) l cs → toIVs (hget s.heap) cs = some (nd, x, b) → nd → All2 (Rd w (if b then OwnZ J Z else Z)) l x
  | [], [], _, _, _, _, h, _ => by simp only [toIVs, Option.some.injEq, Prod.mk.injEq] at h; obtain ⟨rfl, rfl, rfl⟩ := h; trivial
  | u :: l, c :: cs, _, _, _, ⟨h1, h2⟩, h, hn => by
    unfold toIVs at h
    split at h
    · rename_i n1 x b1 n2 xs b2 e1 e2
      simp only [Option.some.injEq, Prod.mk.injEq] at h
      obtain ⟨rfl, rfl, rfl⟩ := h
      exact ⟨Rd.mono (toIV_rel R h1 e1 hn.1) (fun k => (ifz k).1) fun _ _ _ => rfl, (toIVs_rel R h2 e2 hn.2).mono fun _ _ hr => Rd.mono hr (fun k => (ifz k).2) fun _ _ _ => rfl⟩
    · cases h
theorem toPT_rel (R : Rel w0 Z0 J Z s a w) {u : Value} {c : TV} {nd : Prop} {x : PT} {b : Bool} (h : TRel w J Z u c) (h1 : toPT (hget s.heap) c = some (nd, x, b)) (hn : nd) : PTRel w (if b then OwnZ J Z else Z) u x := by
  unfold toPT at h1
  split at h1
  · split at h1
    · rename_i e
      simp only [Option.some.injEq, Prod.mk.injEq] at h1
      obtain ⟨rfl, rfl, rfl⟩ := h1
      exact toIV_rel R h e hn
    · cases h1
  · split at h1
    · rename_i e
      simp only [Option.some.injEq, Prod.mk.injEq] at h1
      obtain ⟨rfl, rfl, rfl⟩ := h1
      obtain ⟨A, e', h⟩ := h
      exact ⟨A, e', toIVs_rel R h e hn⟩
    · cases h1
theorem toPTs_rel (R : Rel w0 Z0 J Z s a w) : ∀ {l : List Value} {cs : List TV} {nd : Prop} {x : List PT} {b : Bool}, All2 (TRel w J Z) l cs → toPTs (hget s.heap) cs = some (nd, x, b) → nd → All2 (PTRel w (if b then OwnZ J Z else Z)) l x
  | [], [], _, _, _, _, h, _ => by simp only [toPTs, Option.some.injEq, Prod.mk.injEq] at h; obtain ⟨rfl, rfl, rfl⟩ := h; trivial
  | u :: l, c :: cs, _, _, _, ⟨h1, h2⟩, h, hn => by
    unfold toPTs at h
    split at h
    · rename_i n1 x b1 n2 xs b2 e1 e2
      simp only [Option.some.injEq, Prod.mk.injEq] at h
      obtain ⟨rfl, rfl, rfl⟩ := h
      exact ⟨PTRel.zmono (fun k => (ifz k).1) (toPT_rel R h1 e1 hn.1), (toPTs_rel R h2 e2 hn.2).mono fun _ _ hr => PTRel.zmono (fun k => (ifz k).2) hr⟩
    · cases h
theorem toPV_rel (R : Rel w0 Z0 J Z s a w) {u : Value} {c : AV} {nd : Prop} {x : PV} {b : Bool} (h : ARel w J Z u c) (h1 : toPV (hget s.heap) c = some (nd, x, b)) (hn : nd) : PRel w (if b then OwnZ J Z else Z) u x := by
  unfold toPV at h1
  split at h1
  · split at h1
    · rename_i e
      simp only [Option.some.injEq, Prod.mk.injEq] at h1
      obtain ⟨rfl, rfl, rfl⟩ := h1
      exact toPT_rel R h e hn
    · cases h1
  · split at h1
    · rename_i e
      simp only [Option.some.injEq, Prod.mk.injEq] at h1
      obtain ⟨rfl, rfl, rfl⟩ := h1
      obtain ⟨A, e', h⟩ := h
      exact ⟨A, e', toPTs_rel R h e hn⟩
    · cases h1
  · cases h1
end

/-- A call by value: what the arguments stand for decides what the result stands for; nothing that was there is turned. -/
def CallsP (P : Program) (k : FuncId) (args : List PT) (r : PV) : Prop :=
  ∀ (w : World) (Z : Nat → Prop) (vs : Array Value), (∀ b, Z b → b < w.heap.size) → All2 (PTRel w Z) vs.toList args →
    Calls P k vs w fun e w' => ∃ v, e = .returned v ∧ Below w.heap.size w w' ∧ PRel w' (fun b => Z b ∨ (w.heap.size ≤ b ∧ b < w'.heap.size)) v r
theorem CallsP.eqv {P : Program} {k : FuncId} {args args' : List PT} {r r' : PV} (h : CallsP P k args r) (ha : All2 PT.eqv args' args) (hr : r.eqv r') : CallsP P k args' r' := fun w Z vs hZ hv =>
  (h w Z vs hZ (All2.trans2 (S := PT.eqv) (T := PTRel w Z) (fun _ _ _ h he => PTRel.eqv h he) hv ha)).mono fun e w' ⟨v, h1, h2, h3⟩ => ⟨v, h1, h2, PRel.eqv h3 hr⟩
/-- A call of a closure: it may turn own blocks. -/
def CallsH (P : Program) (k : FuncId) (args : List TV) (H : List (Option (List CV))) (r : AV) (H' : List (Option (List CV))) : Prop :=
  ∀ (w0 : World) (Z0 : Fr) (J : Nat → Option Nat) (Z : Nat → Prop) (s : AS) (a : Act) (w : World) (vs : Array Value), Rel w0 Z0 J Z s a w → s.heap = H → All2 (TRel w J Z) vs.toList args →
    Calls P k vs w fun e w' => ∃ v J' Z', e = .returned v ∧ Rel w0 Z0 J' Z' { s with heap := H' } a w' ∧ ARel w' J' Z' v r

def fo : Option Nat → Fence
  | none => Fence.wide
  | some l => Fence.wide.inRound l
/-- A call that turns one own block. -/
def CallsT (P : Program) (k : FuncId) (args : List TV) (i : Nat) (cs : List CV) (r : AV) (cs' : List CV) : Prop :=
  ∀ H : List (Option (List CV)), hget H i = some cs → CallsH P k args H r (hset H i cs')
/-- A call that lays one own block. -/
def CallsN (P : Program) (k : FuncId) (args : List TV) (cs : List CV) (r : Nat → AV) : Prop :=
  ∀ (H : List (Option (List CV))) (i : Nat), hget H i = none → CallsH P k args H (r i) (hset H i cs)
/-- What code does with an abstract state. -/
def AW (P : Program) (c : Code) (s : AS) (Q : Exit → AS → Prop) : Prop :=
  ∀ (w0 : World) (Z0 : Fr) (a : Act) (w : World) (n : Nat), Rep w0 Z0 s a w → c.wpIn (fo Z0.ro) n P (fun e a' w' => ∃ s', Rep w0 Z0 s' a' w' ∧ Q e s') a w
def thenA (K : AS → Prop) (Q : Exit → AS → Prop) : Exit → AS → Prop
  | .normal, s => K s
  | e, s => Q e s
def lkL : List LS → Nat → Option LS
  | [], _ => none
  | x :: r, l => if x.l = l then some x else lkL r l
def setL : List LS → Nat → LoopState → Option Code → List LS
  | [], _, _, _ => []
  | x :: r, l, st, pe => if x.l = l then { x with st := st, pe := pe } :: r else x :: setL r l st pe
def gdrop : List (Nat × List (Nat × AV)) → Nat → List (Nat × List (Nat × AV))
  | [], _ => []
  | (k, e) :: r, f => if k = f then gdrop r f else (k, e) :: gdrop r f
def lsF : List LS → Nat → Prop
  | [], _ => True
  | x :: r, f => x.fid ≠ f ∧ lsF r f
def zipPut : List Nat → List TV → List (Nat × AV) → List (Nat × AV)
  | t :: ts, v :: vs, e => zipPut ts vs ((t, .t v) :: e)
  | _, _, e => e
def ltAll : List Nat → Nat → Prop
  | [], _ => True
  | t :: r, n => t < n ∧ ltAll r n
def jumpOf : Exit → Option (Option Code)
  | .normal => some none
  | .ret => some (some .ret)
  | .exit id => some (some (.exit id))
  | .goto t => some (some (.goto t))
  | _ => none
def bAV (b : Bool) : AV := .t (.one (.iv (.g (.bool b))))
/-- The iterator goes on behind a round. -/
def roundS (l fid N : Nat) (ro : Option Nat) (j : Option Code) (s1 : AS) : AS :=
  ⟨gf s1.gh fid, s1.heap, N, gdrop s1.gh fid, ⟨setL s1.lp.ls l (if j.isNone then .ready else .done) j, fid, ro⟩⟩
def roundQ (l fid N : Nat) (ro : Option Nat) (d : Option Nat) (K : AS → Prop) (e : Exit) (s1 : AS) : Prop :=
  (lkL s1.lp.ls l).isSome = true ∧ lsF s1.lp.ls fid ∧ match jumpOf e with
    | some j => K ((roundS l fid N ro j s1).put d (bAV j.isNone))
    | none => False
def rdyL (ls : List LS) (l : Nat) : Prop := match lkL ls l with
  | some x => x.st = .ready ∧ x.pe = none
  | none => False
/-- Behind the assignments to the loop's variables. -/
def bodyF (P : Program) (l : Nat) (body : Code) (Q : Exit → AS → Prop) (s1 : AS) : Prop :=
  rdyL s1.lp.ls l ∧ AW P body { s1 with lp := ⟨setL s1.lp.ls l .busy none, s1.lp.fr, s1.lp.ro⟩ } Q
def yieldF (P : Program) (l : Nat) (ps : List TV) (d : Option Nat) (s : AS) (K : AS → Prop) : Prop :=
  match lkL s.lp.ls l with
  | some x => x.ps.length = ps.length ∧ ltAll x.ps x.N ∧ lsF s.lp.ls s.lp.fr ∧
      AW P x.asg ⟨zipPut x.ps ps (gf s.gh x.fid), s.heap, x.N, (s.lp.fr, s.env) :: s.gh, ⟨s.lp.ls, s.lp.fr + 1, some l⟩⟩
        (thenA (bodyF P l x.body (roundQ l s.lp.fr s.N s.lp.ro d K)) fun _ _ => False)
  | none => False

def resF (P : Program) (s : AS) : List ResultVar → Option (Prop × List TV)
  | [] => some (True, [])
  | .tmp t :: r => match (s.get t).tv, resF P s r with
    | some v, some (nd, l) => some ((s.get t).nd ∧ nd, v :: l)
    | _, _ => none
  | .cell x t :: r => match (s.get x).tv, tyD P t with
    | some v, some (ag, n) => match loadF ag n (hget s.heap) v, resF P s r with
      | some (n1, .t y), some (nd, l) => some ((s.get x).nd ∧ n1 ∧ nd, y :: l)
      | _, _ => none
    | _, _ => none
def tupA : List TV → AV
  | [v] => .t v
  | l => .tup l
def argEnv : List TV → Nat → List (Nat × AV)
  | [], _ => []
  | v :: l, k => (k, .t v) :: argEnv l (k + 1)
/-- Behind the iterator: the loop's frame goes on. -/
def loopS (fid N : Nat) (lp : LP) (s1 : AS) : AS := ⟨gf s1.gh fid, s1.heap, N, gdrop s1.gh fid, lp⟩
def inlQ (P : Program) (fid N : Nat) (lp : LP) (fn : Func) (d : Option Nat) (K : AS → Prop) (e : Exit) (s1 : AS) : Prop :=
  (match e with | .normal | .ret => True | _ => False) ∧ s1.lp.ls = lp.ls ∧ match resF P s1 fn.results.toList with
    | some (nd, l) => nd ∧ K ((loopS fid N lp s1).put d (tupA l))
    | none => False
/-- A call, inline. -/
def inlF (P : Program) (k : FuncId) (args : List TV) (d : Option Nat) (s : AS) (K : AS → Prop) : Prop :=
  ∃ fn c, P.funcs[k]? = some fn ∧ fn.body = some c ∧ args.length ≤ fn.ntmps ∧ lsF s.lp.ls s.lp.fr ∧ AW P c ⟨argEnv args 0, s.heap, fn.ntmps, (s.lp.fr, s.env) :: s.gh, ⟨s.lp.ls, s.lp.fr + 1, none⟩⟩ (inlQ P s.lp.fr s.N s.lp fn d K)
def fnOk (P : Program) (k : FuncId) : Bool := match P.funcs[k]? with
  | some fn => fn.name != "runtime.NumGoroutine" && fn.body.isSome
  | none => false
def argsF (ρ : Operand → AV) (H : Hp) : List Operand → Option (Prop × List PT × Bool)
  | [] => some (True, [], false)
  | x :: r => match (ρ x).tv.bind (toPT H), argsF ρ H r with
    | some (n1, y, b1), some (n2, l, b2) => some ((ρ x).nd ∧ n1 ∧ n2, y :: l, b1 || b2)
    | _, _ => none
def tvsF (ρ : Operand → AV) : List Operand → Option (Prop × List TV)
  | [] => some (True, [])
  | x :: r => match (ρ x).tv, tvsF ρ r with
    | some y, some (n2, l) => some ((ρ x).nd ∧ n2, y :: l)
    | _, _ => none
def LV.tv : LV → TV
  | .iv c => .one (.iv c)
  | .ptr i o => .one (.ptr i o)
def AV.mbOf (b : Bool) : AV → AV
  | .t x => .mb b x
  | _ => .any
def gv : AV → Option Value
  | .t (.one (.iv (.g v))) => some v
  | .t (.agg cs) => if cs.all (fun c => match c with | .iv (.g _) => true | _ => false) then some (.agg (cs.map fun c => match c with | .iv (.g v) => v | _ => undef).toArray) else none
  | _ => none
def gρ (ρ : Operand → AV) (x : Operand) : Value := (gv (ρ x)).getD undef
def isSelect : Op → Bool
  | .select .. => true
  | .defer _ => true
  | _ => false
inductive Cle where
  | pure (k : FuncId)
  | clo (k : FuncId) (l m : List LV)
  | yld (l : Nat)
  | no
/-- Which function is called. -/
def calleeT : TV → Cle
  | .one (.iv (.g (.func (.func k) A B))) => if A.size = 0 ∧ B.size = 0 then .pure k else .no
  | .one (.iv (.g (.func (.yield l) A B))) => if A.size = 0 ∧ B.size = 0 then .yld l else .no
  | .one (.fn (.func k) l m) => .clo k l m
  | _ => .no
def calleeF : AV → Cle
  | .t x => calleeT x
  | .mb true x => calleeT x
  | _ => .no
/-- An operation that opF does not know: a call, or one on plain values alone. -/
def callF0 (P : Program) (o : Oper) (s : AS) (K : AS → Prop) : Prop :=
  match o.op with
  | .call ⟨.value f, args, _⟩ => match calleeF (s.ev f) with
    | .pure k => (match argsF s.ev (hget s.heap) args.toList with
      | some (nd, ps, own) => fnOk P k = true ∧ nd ∧ ∃ r, CallsP P k ps r ∧ (own = true → r.flat = true) ∧ K (s.put o.dst r.av)
      | none => False) ∨ (match tvsF s.ev args.toList with
      | some (nd, ps) => fnOk P k = true ∧ nd ∧ (inlF P k ps o.dst s K ∨ ∃ r H', CallsH P k ps s.heap r H' ∧ K ({ s with heap := H' }.put o.dst r))
      | none => False)
    | .clo k l m => match tvsF s.ev args.toList with
      | some (nd, ps) => fnOk P k = true ∧ nd ∧ ((∃ r H', CallsH P k (l.map LV.tv ++ ps ++ m.map LV.tv) s.heap r H' ∧ K ({ s with heap := H' }.put o.dst r)) ∨ inlF P k (l.map LV.tv ++ ps ++ m.map LV.tv) o.dst s K)
      | none => False
    | .yld l => match tvsF s.ev args.toList with
      | some (nd, ps) => nd ∧ yieldF P l ps o.dst s K
      | none => False
    | .no => False
  | op => isSelect op = false ∧ (op.operands.toList.all fun x => (gv (s.ev x)).isSome) = true ∧ ∃ u, (∀ w, (execOp (gρ s.ev) o).run P w = .ok (.value u) w) ∧ K (s.put o.dst (constA u))
/-- The same behind own blocks that are read by value from then on. -/
def frzF (P : Program) (o : Oper) (s : AS) (K : AS → Prop) : Prop := ∃ L, frzsOk L s ∧ callF0 P o (frzs L s) K
def callF (P : Program) (o : Oper) (s : AS) (K : AS → Prop) : Prop := callF0 P o s K ∨ frzF P o s K
/-- The same under a guard b: the operation may not be carried out. -/
def callG0 (P : Program) (b : Bool) (o : Oper) (s : AS) (K : AS → Prop) : Prop :=
  match o.op with
  | .call ⟨.value f, args, _⟩ => match calleeF (s.ev f) with
    | .pure k => match argsF s.ev (hget s.heap) args.toList with
      | some (nd, ps, own) => fnOk P k = true ∧ (b = true → nd) ∧ ∃ r, (b = true → CallsP P k ps r) ∧ (own = true → r.flat = true) ∧ K (s.put o.dst (r.av.mbOf b))
      | none => False
    | _ => (b = true → callF P o s K) ∧ (b = false → K (s.put o.dst .any))
  | op => (b = true → callF P o s K) ∧ (b = false → K (s.put o.dst .any))
/-- A guarded operation, both ways apart. -/
def splitG (P : Program) (b : Bool) (o : Oper) (s : AS) (K : AS → Prop) : Prop := (b = true → callF P o s K) ∧ (b = false → K (s.put o.dst .any))
def callG (P : Program) (b : Bool) (o : Oper) (s : AS) (K : AS → Prop) : Prop := callG0 P b o s K ∨ splitG P b o s K

def gB (gs : List (Option Nat)) (s : AS) (j : Nat) (want : Bool) : Option Bool :=
  match (gs[j]?).getD none with
  | some t => match s.get t with
    | .t (.one (.iv (.g (.bool c)))) => some (c == want)
    | .mb b (.one (.iv (.g (.bool c)))) => some (b && (c == want))
    | _ => none
  | none => none
def dstOk (s : AS) : Option Nat → Prop
  | some d => d < s.N
  | none => True
/-- Where a new block is laid: at the first of eight holes in a row, if there are so many; else at the end. -/
def nidA : List (Option (List CV)) → Nat → Nat → Option Nat
  | [], _, _ => none
  | some _ :: h, p, _ => nidA h (p + 1) 0
  | none :: h, p, r => bif r == 7 then some (p - 7) else nidA h (p + 1) (r + 1)
def nidF (h : List (Option (List CV))) : Nat := (nidA h 0 0).getD h.length
theorem nidA_spec : ∀ (h : List (Option (List CV))) (p r : Nat) (q : Nat) (A : List (Option (List CV))), A.length = p → r ≤ p → (∀ k, p - r ≤ k → k < p → hget A k = none) → nidA h p r = some q → hget (A ++ h) q = none
  | [], _, _, _, _, _, _, _, h => by simp [nidA] at h
  | some x :: h, p, r, q, A, hA, hr, hk, e => by
    have := nidA_spec h (p + 1) 0 q (A ++ [some x]) (by simp [hA]) (Nat.zero_le _) (fun k h1 h2 => by omega) e
    simpa using this
  | none :: h, p, r, q, A, hA, hr, hk, e => by
    simp only [nidA] at e
    cases h7 : r == 7 with
    | true =>
      rw [h7] at e
      simp only [cond_true, Option.some.injEq] at e
      have : r = 7 := by simpa using h7
      have := hk q (by omega) (by omega)
      unfold hget at this ⊢
      rwa [List.getElem?_append_left (by omega)]
    | false =>
      rw [h7] at e
      have := nidA_spec h (p + 1) (r + 1) q (A ++ [none]) (by simp [hA]) (by omega) (fun k h1 h2 => by
        by_cases hp : k < p
        · have := hk k (by omega) hp
          unfold hget at this ⊢
          rwa [List.getElem?_append_left (by omega)]
        · obtain rfl : k = A.length := by omega
          simp [hget]) e
      simpa using this
theorem hget_nid (h : List (Option (List CV))) : hget h (nidF h) = none := by
  unfold nidF
  cases e : nidA h 0 0 with
  | none => simp [hget]
  | some q => simpa using nidA_spec h 0 0 q [] rfl (Nat.le_refl _) (fun k h1 h2 => by omega) e
/-- A region in the text's order. -/
def arun (P : Program) (gs : List (Option Nat)) : List Oper → AS → (AS → Prop) → Prop
  | [], s, K => K s
  | o :: os, s, K => dstOk s o.dst ∧ match o.guard with
    | none => match opF P (nidF s.heap) s.ev (hget s.heap) o with
      | some (nd, v, ef) => nd ∧ arun P gs os ((s.eff (nidF s.heap) ef).put o.dst v) K
      | none => callF P o s fun s' => arun P gs os s' K
    | some (j, want) => match gB gs s j want with
      | some b => match opF P (nidF s.heap) s.ev (hget s.heap) o with
        | some (nd, v, .nop) => (b = true → nd) ∧ arun P gs os (s.put o.dst (v.mbOf b)) K
        | some (nd, v, ef) => (b = true → nd ∧ arun P gs os ((s.eff (nidF s.heap) ef).put o.dst v) K) ∧ (b = false → arun P gs os (s.put o.dst .any) K)
        | none => callG P b o s fun s' => arun P gs os s' K
      | none => False
end Go.Sea
