/- Part 4 of 18: contracts of functions and plain laws for the root text. No condition. -/
import Derived.Test.YtmnejmpjmniiiaaGreatDoorV01
import Derived.Test.YtmnejmpjmniiiaaGreatDoorV02
import Derived.Test.YtmnejmpjmniiiaaGreatDoorV03
set_option linter.unusedVariables false
set_option linter.unusedSimpArgs false
set_option linter.unusedSectionVars false
set_option linter.deprecated false
namespace Go.Sea
open Go.RowKit
def vo (J : Nat -> Option Nat) (Z : Nat -> Prop) : Nat -> Prop := fun b => Z b \/ ∃ i, J i = some b
def Fz (H : Hp) : CV -> Option (Prop × IV × Bool)
  | .iv c => some (True, c, false)
  | .ip m c => some (True, .ptr m c, false)
  | .ptr i o => match H i with
    | some cs => some (o < cs.length /\ ∀ c, c ∈ cs -> kg c, .ptr (cs.length - o) fun k => Fu (cs.getD (o + k) .any), true)
    | none => none
  | .slc i off n E => match H i with
    | some cs => some (off + n * E <= cs.length /\ ∀ c, c ∈ cs -> kg c, .lst E n fun j o => Fu (cs.getD (off + j * E + o) .any), true)
    | none => none
  | _ => none
def uT (H : Hp) : List CV -> Option (Prop × List IV × Bool)
  | [] => some (True, [], false)
  | c :: l => match Fz H c, uT H l with
    | some (n1, x, b1), some (n2, xs, b2) => some (n1 /\ n2, x :: xs, b1 || b2)
    | _, _ => none
def xQ (H : Hp) : TV -> Option (Prop × PT × Bool)
  | .one c => match Fz H c with
    | some (n, x, b) => some (n, .one x, b)
    | none => none
  | .agg cs => match uT H cs with
    | some (n, x, b) => some (n, .agg x, b)
    | none => none
def CQ (H : Hp) : List TV -> Option (Prop × List PT × Bool)
  | [] => some (True, [], false)
  | c :: l => match xQ H c, CQ H l with
    | some (n1, x, b1), some (n2, xs, b2) => some (n1 /\ n2, x :: xs, b1 || b2)
    | _, _ => none
def Qr (H : Hp) : AV -> Option (Prop × PV × Bool)
  | .t x => match xQ H x with
    | some (n, y, b) => some (n, .t y, b)
    | none => none
  | .tup xs => match CQ H xs with
    | some (n, y, b) => some (n, .tup y, b)
    | none => none
  | _ => none
def Qf : IV -> Bool
  | .g _ => true
  | .lst .. => false
  | .ptr .. => false
def PT.flat : PT -> Bool
  | .one c => Qf c
  | .agg cs => cs.all Qf
def PV.flat : PV -> Bool
  | .t x => x.flat
  | .tup xs => xs.all PT.flat
theorem Rd.flat {w : World} {Z Z' : Nat -> Prop} {v : Value} {c : IV} (h : Rd w Z v c) (hf : Qf c = true) : Rd w Z' v c := by
  cases h with
  | g v h => exact .g v h
  | nil => cases hf
  | lst => cases hf
  | ptr => cases hf
theorem bZ.flat {w : World} {Z Z' : Nat -> Prop} {v : Value} {x : PT} (h : bZ w Z v x) (hf : x.flat = true) : bZ w Z' v x := by
  cases x with
  | one c => exact Rd.flat h hf
  | agg cs =>
    obtain ⟨A, e, h⟩ := h
    exact ⟨A, e, h.mono' fun a b hb hr => Rd.flat hr (List.all_eq_true.1 hf b hb)⟩
theorem l8.flat {w : World} {Z Z' : Nat -> Prop} {v : Value} {x : PV} (h : l8 w Z v x) (hf : x.flat = true) : l8 w Z' v x := by
  cases x with
  | t x => exact bZ.flat h hf
  | tup cs =>
    obtain ⟨A, e, h⟩ := h
    exact ⟨A, e, h.mono' fun a b hb hr => bZ.flat hr (List.all_eq_true.1 hf b hb)⟩
theorem bZ.vT {w : World} {Z Z' : Nat -> Prop} {v : Value} {x : PT} (hz : ∀ b, Z b -> Z' b) (h : bZ w Z v x) : bZ w Z' v x := by
  cases x with
  | one c => exact Rd.mono h hz fun _ _ _ => rfl
  | agg cs =>
    obtain ⟨A, e, h⟩ := h
    exact ⟨A, e, h.mono fun a b hr => Rd.mono hr hz fun _ _ _ => rfl⟩
theorem l8.vT {w : World} {Z Z' : Nat -> Prop} {v : Value} {x : PV} (hz : ∀ b, Z b -> Z' b) (h : l8 w Z v x) : l8 w Z' v x := by
  cases x with
  | t x => exact bZ.vT hz h
  | tup cs =>
    obtain ⟨A, e, h⟩ := h
    exact ⟨A, e, h.mono fun a b hr => bZ.vT hz hr⟩
section
variable {w0 : World} {Z0 : Fr} {J J' : Nat -> Option Nat} {Z Z' : Nat -> Prop} {s s' : AS} {a : Act} {w w' : World} {P : Program} {o : Oper} {nid : Nat} {v : AV} {ef : Eff}
theorem F7 (R : Rel w0 Z0 J Z s a w) {u : Value} {c : CV} {nd : Prop} {x : IV} {b : Bool} (h : bQ w J Z u c) (h1 : Fz (hget s.heap) c = some (nd, x, b)) (hn : nd) : Rd w (if b then vo J Z else Z) u x := by
  unfold Fz at h1
  split at h1
  · simp only [Option.some.injEq, Prod.mk.injEq] at h1
    obtain ⟨rfl, rfl, rfl⟩ := h1
    exact h
  · rename_i m c
    simp only [Option.some.injEq, Prod.mk.injEq] at h1
    obtain ⟨rfl, rfl, rfl⟩ := h1
    obtain ⟨bb, off, X, rfl, hz, hX⟩ := h
    exact Rd.ptr bb off m c X hz (fun o ho => (hX o ho).1) fun o ho => (hX o ho).2
  · rename_i i off
    split at h1
    · rename_i cs hcs
      simp only [Option.some.injEq, Prod.mk.injEq] at h1
      obtain ⟨rfl, rfl, rfl⟩ := h1
      obtain ⟨bb, rfl, hj, hob⟩ := h
      obtain ⟨c1, e1, g2, g3⟩ := R.cells hcs (by rintro rfl; simp at hn) hj hob
      rw [if_pos rfl]
      have val : ∀ o, o < cs.length - off -> w.cell? ⟨bb, off + o, none⟩ = some (c1.getD (off + o) undef) /\ Rd w (vo J Z) (c1.getD (off + o) undef) (Fu (cs.getD (off + o) .any)) := fun o ho => by
        have hk : off + o < cs.length := by omega
        obtain ⟨u, hu, hr⟩ := g3.get (k := off + o) (y := cs.getD (off + o) .any) (by simp [List.getD, List.getElem?_eq_getElem hk])
        rw [List.getElem?_take, if_pos hk, Array.getElem?_toList] at hu
        have hg : c1.getD (off + o) undef = u := by simp [hu]
        rw [hg, cell_of_row w bb _ c1 e1 _ g2]
        refine ⟨hu, ?_⟩
        have hiv := hn.2 (cs.getD (off + o) .any) (by simp [List.getD, List.getElem?_eq_getElem hk])
        generalize cs.getD (off + o) .any = cv at hiv hr
        cases cv <;> simp only [kg] at hiv
        exact Rd.mono hr (fun _ hz => Or.inl hz) fun _ _ _ => rfl
      exact Rd.ptr bb off _ _ (fun o => c1.getD (off + o) undef) (Or.inr ⟨i, hj⟩) (fun o ho => (val o ho).1) fun o ho => (val o ho).2
    · cases h1
  · rename_i i off n E
    split at h1
    · rename_i cs hcs
      simp only [Option.some.injEq, Prod.mk.injEq] at h1
      obtain ⟨rfl, rfl, rfl⟩ := h1
      rcases h with ⟨rfl, rfl⟩ | ⟨bb, cap, c', e, rfl, hj, hc1, hc2, hb, hs⟩
      · exact Rd.nil _ _ _ _
      by_cases hne : cs = []
      · subst hne
        have key : ∀ j o, j < n -> o < E -> False := fun j o hj ho => by
          have : (j + 1) * E <= n * E := Nat.mul_le_mul_right _ hj
          rw [Nat.add_mul] at this
          have := hn.1
          simp at this
          omega
        rw [if_pos rfl]
        exact Rd.lst bb off n cap E _ (fun _ _ => undef) (Or.inr ⟨i, hj⟩) hc1 hc2 (fun j o hj ho => (key j o hj ho).elim) fun j o hj ho => (key j o hj ho).elim
      obtain ⟨c1, e1, g2, g3⟩ := R.cells hcs hne hj ⟨_, _, hb⟩
      rw [if_pos rfl]
      have key : ∀ j o, j < n -> o < E -> off + j * E + o < cs.length := fun j o hj ho => by
        have : (j + 1) * E <= n * E := Nat.mul_le_mul_right _ hj
        rw [Nat.add_mul] at this
        have := hn.1
        omega
      have val : ∀ j o, j < n -> o < E -> w.cell? ⟨bb, off + j * E + o, none⟩ = some (c1.getD (off + j * E + o) undef) /\ Rd w (vo J Z) (c1.getD (off + j * E + o) undef) (Fu (cs.getD (off + j * E + o) .any)) := fun j o hj ho => by
        have hk := key j o hj ho
        obtain ⟨u, hu, hr⟩ := g3.get (k := off + j * E + o) (y := cs.getD (off + j * E + o) .any) (by simp [List.getD, List.getElem?_eq_getElem hk])
        rw [List.getElem?_take, if_pos hk, Array.getElem?_toList] at hu
        have hg : c1.getD (off + j * E + o) undef = u := by simp [hu]
        rw [hg, cell_of_row w bb _ c1 e1 _ g2]
        refine ⟨hu, ?_⟩
        have hiv := hn.2 (cs.getD (off + j * E + o) .any) (by simp [List.getD, List.getElem?_eq_getElem hk])
        generalize cs.getD (off + j * E + o) .any = cv at hiv hr
        cases cv <;> simp only [kg] at hiv
        exact Rd.mono hr (fun _ hz => Or.inl hz) fun _ _ _ => rfl
      exact Rd.lst bb off n cap E _ (fun j o => c1.getD (off + j * E + o) undef) (Or.inr ⟨i, hj⟩) hc1 hc2 (fun j o hj ho => (val j o hj ho).1) fun j o hj ho => (val j o hj ho).2
    · cases h1
  · cases h1
theorem ifz {b1 b2 : Bool} {J : Nat -> Option Nat} {Z : Nat -> Prop} (k : Nat) : ((if b1 then vo J Z else Z) k -> (if (b1 || b2) then vo J Z else Z) k) /\ ((if b2 then vo J Z else Z) k -> (if (b1 || b2) then vo J Z else Z) k) := by
  cases b1 <;> cases b2 <;> simp [vo] <;> exact fun h => Or.inl h
theorem CY (R : Rel w0 Z0 J Z s a w) : ∀ {l : List Value} {cs : List CV} {nd : Prop} {x : List IV} {b : Bool}, aU (bQ w J Z) l cs -> uT (hget s.heap) cs = some (nd, x, b) -> nd -> aU (Rd w (if b then vo J Z else Z)) l x
  | [], [], _, _, _, _, h, _ => by simp only [uT, Option.some.injEq, Prod.mk.injEq] at h; obtain ⟨rfl, rfl, rfl⟩ := h; trivial
  | u :: l, c :: cs, _, _, _, ⟨h1, h2⟩, h, hn => by
    unfold uT at h
    split at h
    · rename_i n1 x b1 n2 xs b2 e1 e2
      simp only [Option.some.injEq, Prod.mk.injEq] at h
      obtain ⟨rfl, rfl, rfl⟩ := h
      exact ⟨Rd.mono (F7 R h1 e1 hn.1) (fun k => (ifz k).1) fun _ _ _ => rfl, (CY R h2 e2 hn.2).mono fun _ _ hr => Rd.mono hr (fun k => (ifz k).2) fun _ _ _ => rfl⟩
    · cases h
theorem Av (R : Rel w0 Z0 J Z s a w) {u : Value} {c : TV} {nd : Prop} {x : PT} {b : Bool} (h : bS w J Z u c) (h1 : xQ (hget s.heap) c = some (nd, x, b)) (hn : nd) : bZ w (if b then vo J Z else Z) u x := by
  unfold xQ at h1
  split at h1
  · split at h1
    · rename_i e
      simp only [Option.some.injEq, Prod.mk.injEq] at h1
      obtain ⟨rfl, rfl, rfl⟩ := h1
      exact F7 R h e hn
    · cases h1
  · split at h1
    · rename_i e
      simp only [Option.some.injEq, Prod.mk.injEq] at h1
      obtain ⟨rfl, rfl, rfl⟩ := h1
      obtain ⟨A, e', h⟩ := h
      exact ⟨A, e', CY R h e hn⟩
    · cases h1
theorem CU (R : Rel w0 Z0 J Z s a w) : ∀ {l : List Value} {cs : List TV} {nd : Prop} {x : List PT} {b : Bool}, aU (bS w J Z) l cs -> CQ (hget s.heap) cs = some (nd, x, b) -> nd -> aU (bZ w (if b then vo J Z else Z)) l x
  | [], [], _, _, _, _, h, _ => by simp only [CQ, Option.some.injEq, Prod.mk.injEq] at h; obtain ⟨rfl, rfl, rfl⟩ := h; trivial
  | u :: l, c :: cs, _, _, _, ⟨h1, h2⟩, h, hn => by
    unfold CQ at h
    split at h
    · rename_i n1 x b1 n2 xs b2 e1 e2
      simp only [Option.some.injEq, Prod.mk.injEq] at h
      obtain ⟨rfl, rfl, rfl⟩ := h
      exact ⟨bZ.vT (fun k => (ifz k).1) (Av R h1 e1 hn.1), (CU R h2 e2 hn.2).mono fun _ _ hr => bZ.vT (fun k => (ifz k).2) hr⟩
    · cases h
theorem RB (R : Rel w0 Z0 J Z s a w) {u : Value} {c : AV} {nd : Prop} {x : PV} {b : Bool} (h : bD w J Z u c) (h1 : Qr (hget s.heap) c = some (nd, x, b)) (hn : nd) : l8 w (if b then vo J Z else Z) u x := by
  unfold Qr at h1
  split at h1
  · split at h1
    · rename_i e
      simp only [Option.some.injEq, Prod.mk.injEq] at h1
      obtain ⟨rfl, rfl, rfl⟩ := h1
      exact Av R h e hn
    · cases h1
  · split at h1
    · rename_i e
      simp only [Option.some.injEq, Prod.mk.injEq] at h1
      obtain ⟨rfl, rfl, rfl⟩ := h1
      obtain ⟨A, e', h⟩ := h
      exact ⟨A, e', CU R h e hn⟩
    · cases h1
  · cases h1
end
def au (P : Program) (k : FuncId) (args : List PT) (r : PV) : Prop :=
  ∀ (w : World) (Z : Nat -> Prop) (vs : Array Value), (∀ b, Z b -> b < w.heap.size) -> aU (bZ w Z) vs.toList args -> Tab w ->
    Calls P k vs w fun e w' => ∃ v, e = .returned v /\ Below w.heap.size w w' /\ l8 w' (fun b => Z b \/ (w.heap.size <= b /\ b < w'.heap.size)) v r
theorem au.eqv {P : Program} {k : FuncId} {args args' : List PT} {r r' : PV} (h : au P k args r) (ha : aU PT.eqv args' args) (hr : r.eqv r') : au P k args' r' := fun w Z vs hZ hv hT =>
  (h w Z vs hZ (aU.Ag (S := PT.eqv) (T := bZ w Z) (fun _ _ _ h he => bZ.eqv h he) hv ha) hT).mono fun e w' ⟨v, h1, h2, h3⟩ => ⟨v, h1, h2, l8.eqv h3 hr⟩
def mM (P : Program) (k : FuncId) (args : List TV) (H : List (Option (List CV))) (r : AV) (H' : List (Option (List CV))) : Prop :=
  ∀ (w0 : World) (Z0 : Fr) (J : Nat -> Option Nat) (Z : Nat -> Prop) (s : AS) (a : Act) (w : World) (vs : Array Value), Rel w0 Z0 J Z s a w -> s.heap = H -> aU (bS w J Z) vs.toList args ->
    Calls P k vs w fun e w' => ∃ v J' Z', e = .returned v /\ Rel w0 Z0 J' Z' { s with heap := H' } a w' /\ bD w' J' Z' v r
def fo : Option Nat -> Fence
  | none => Fence.wide
  | some l => Fence.wide.inRound l
def Em (P : Program) (k : FuncId) (args : List TV) (i : Nat) (cs : List CV) (r : AV) (cs' : List CV) : Prop :=
  ∀ H : List (Option (List CV)), hget H i = some cs -> mM P k args H r (hset H i cs')
def pY (P : Program) (k : FuncId) (args : List TV) (cs : List CV) (r : Nat -> AV) : Prop :=
  ∀ (H : List (Option (List CV))) (i : Nat), hget H i = none -> mM P k args H (r i) (hset H i cs)
def AW (P : Program) (c : Code) (s : AS) (Q : Exit -> AS -> Prop) : Prop :=
  ∀ (w0 : World) (Z0 : Fr) (a : Act) (w : World) (n : Nat), l5 w0 Z0 s a w -> c.wpIn (fo Z0.ro) n P (fun e a' w' => ∃ s', l5 w0 Z0 s' a' w' /\ Q e s') a w
def vU (K : AS -> Prop) (Q : Exit -> AS -> Prop) : Exit -> AS -> Prop
  | .normal, s => K s
  | e, s => Q e s
def Fj : List LS -> Nat -> Option LS
  | [], _ => none
  | x :: r, l => if x.l = l then some x else Fj r l
def Cc : List LS -> Nat -> LoopState -> Option Code -> List LS
  | [], _, _, _ => []
  | x :: r, l, st, pe => if x.l = l then { x with st := st, pe := pe } :: r else x :: Cc r l st pe
def pK : List (Nat × List (Nat × AV)) -> Nat -> List (Nat × List (Nat × AV))
  | [], _ => []
  | (k, e) :: r, f => if k = f then pK r f else (k, e) :: pK r f
def iM : List LS -> Nat -> Prop
  | [], _ => True
  | x :: r, f => x.fid ≠ f /\ iM r f
def jw : List Nat -> List TV -> List (Nat × AV) -> List (Nat × AV)
  | t :: ts, v :: vs, e => jw ts vs ((t, .t v) :: e)
  | _, _, e => e
def oI : List Nat -> Nat -> Prop
  | [], _ => True
  | t :: r, n => t < n /\ oI r n
def RY : Exit -> Option (Option Code)
  | .normal => some none
  | .ret => some (some .ret)
  | .exit id => some (some (.exit id))
  | .goto t => some (some (.goto t))
  | _ => none
def bAV (b : Bool) : AV := .t (.one (.iv (.g (.bool b))))
def EW (l fid N : Nat) (ro : Option Nat) (j : Option Code) (s1 : AS) : AS :=
  ⟨gf s1.gh fid, s1.heap, N, pK s1.gh fid, ⟨Cc s1.lp.ls l (if j.isNone then .ready else .done) j, fid, ro⟩⟩
def JX (l fid N : Nat) (ro : Option Nat) (d : Option Nat) (K : AS -> Prop) (e : Exit) (s1 : AS) : Prop :=
  (Fj s1.lp.ls l).isSome = true /\ iM s1.lp.ls fid /\ match RY e with
    | some j => K ((EW l fid N ro j s1).put d (bAV j.isNone))
    | none => False
def aaR (ls : List LS) (l : Nat) : Prop := match Fj ls l with
  | some x => x.st = .ready /\ x.pe = none
  | none => False
def SS (P : Program) (l : Nat) (body : Code) (Q : Exit -> AS -> Prop) (s1 : AS) : Prop :=
  aaR s1.lp.ls l /\ AW P body { s1 with lp := ⟨Cc s1.lp.ls l .busy none, s1.lp.fr, s1.lp.ro⟩ } Q
def zK (P : Program) (l : Nat) (ps : List TV) (d : Option Nat) (s : AS) (K : AS -> Prop) : Prop :=
  match Fj s.lp.ls l with
  | some x => x.ps.length = ps.length /\ oI x.ps x.N /\ iM s.lp.ls s.lp.fr ∧
      AW P x.asg ⟨jw x.ps ps (gf s.gh x.fid), s.heap, x.N, (s.lp.fr, s.env) :: s.gh, ⟨s.lp.ls, s.lp.fr + 1, some l⟩⟩
        (vU (SS P l x.body (JX l s.lp.fr s.N s.lp.ro d K)) fun _ _ => False)
  | none => False
def Ci (P : Program) (s : AS) : List ResultVar -> Option (Prop × List TV)
  | [] => some (True, [])
  | .tmp t :: r => match (s.get t).tv, Ci P s r with
    | some v, some (nd, l) => some ((s.get t).nd /\ nd, v :: l)
    | _, _ => none
  | .cell x t :: r => match (s.get x).tv, mU P t with
    | some v, some (ag, n) => match sH ag n (hget s.heap) v, Ci P s r with
      | some (n1, .t y), some (nd, l) => some ((s.get x).nd /\ n1 /\ nd, y :: l)
      | _, _ => none
    | _, _ => none
def Pb : List TV -> AV
  | [v] => .t v
  | l => .tup l
def ak : List TV -> Nat -> List (Nat × AV)
  | [], _ => []
  | v :: l, k => (k, .t v) :: ak l (k + 1)
def loopS (fid N : Nat) (lp : LP) (s1 : AS) : AS := ⟨gf s1.gh fid, s1.heap, N, pK s1.gh fid, lp⟩
def TK (P : Program) (fid N : Nat) (lp : LP) (fn : Func) (d : Option Nat) (K : AS -> Prop) (e : Exit) (s1 : AS) : Prop :=
  (match e with | .normal | .ret => True | _ => False) /\ s1.lp.ls = lp.ls /\ match Ci P s1 fn.results.toList with
    | some (nd, l) => nd /\ K ((loopS fid N lp s1).put d (Pb l))
    | none => False
def Xg (P : Program) (k : FuncId) (args : List TV) (d : Option Nat) (s : AS) (K : AS -> Prop) : Prop :=
  ∃ fn c, P.funcs[k]? = some fn /\ fn.body = some c /\ args.length <= fn.ntmps /\ iM s.lp.ls s.lp.fr /\ AW P c ⟨ak args 0, s.heap, fn.ntmps, (s.lp.fr, s.env) :: s.gh, ⟨s.lp.ls, s.lp.fr + 1, none⟩⟩ (TK P s.lp.fr s.N s.lp fn d K)
def aM (P : Program) (k : FuncId) : Bool := match P.funcs[k]? with
  | some fn => fn.name != "runtime.NumGoroutine" && fn.body.isSome
  | none => false
def gQ (ρ : Operand -> AV) (H : Hp) : List Operand -> Option (Prop × List PT × Bool)
  | [] => some (True, [], false)
  | x :: r => match (ρ x).tv.bind (xQ H), gQ ρ H r with
    | some (n1, y, b1), some (n2, l, b2) => some ((ρ x).nd /\ n1 /\ n2, y :: l, b1 || b2)
    | _, _ => none
def lu (ρ : Operand -> AV) : List Operand -> Option (Prop × List TV)
  | [] => some (True, [])
  | x :: r => match (ρ x).tv, lu ρ r with
    | some y, some (n2, l) => some ((ρ x).nd /\ n2, y :: l)
    | _, _ => none
def LV.tv : LV -> TV
  | .iv c => .one (.iv c)
  | .ptr i o => .one (.ptr i o)
  | .mp i => .one (.mp i)
def AV.l9 (b : Bool) : AV -> AV
  | .t x => .mb b x
  | _ => .any
def gv : AV -> Option Value
  | .t (.one (.iv (.g v))) => some v
  | .t (.agg cs) => if cs.all (fun c => match c with | .iv (.g _) => true | _ => false) then some (.agg (cs.map fun c => match c with | .iv (.g v) => v | _ => undef).toArray) else none
  | _ => none
def gρ (ρ : Operand -> AV) (x : Operand) : Value := (gv (ρ x)).getD undef
def AX : Op -> Bool
  | .select .. => true
  | .defer _ => true
  | _ => false
inductive Qe where
  | pure (k : FuncId)
  | clo (k : FuncId) (l m : List LV)
  | yld (l : Nat)
  | no
def kV : TV -> Qe
  | .one (.iv (.g (.func (.func k) A B))) => if A.size = 0 /\ B.size = 0 then .pure k else .no
  | .one (.iv (.g (.func (.yield l) A B))) => if A.size = 0 /\ B.size = 0 then .yld l else .no
  | .one (.fn (.func k) l m) => .clo k l m
  | _ => .no
def dN : AV -> Qe
  | .t x => kV x
  | .mb true x => kV x
  | _ => .no
def qP (P : Program) (o : Oper) (s : AS) (K : AS -> Prop) : Prop :=
  match o.op with
  | .call ⟨.value f, args, _⟩ => match dN (s.ev f) with
    | .pure k => (match gQ s.ev (hget s.heap) args.toList with
      | some (nd, ps, own) => aM P k = true /\ nd /\ ∃ r, au P k ps r /\ (own = true -> r.flat = true) /\ K (s.put o.dst r.av)
      | none => False) \/ (match lu s.ev args.toList with
      | some (nd, ps) => aM P k = true /\ nd /\ (Xg P k ps o.dst s K \/ ∃ r H', mM P k ps s.heap r H' /\ K ({ s with heap := H' }.put o.dst r))
      | none => False)
    | .clo k l m => match lu s.ev args.toList with
      | some (nd, ps) => aM P k = true /\ nd /\ ((∃ r H', mM P k (l.map LV.tv ++ ps ++ m.map LV.tv) s.heap r H' /\ K ({ s with heap := H' }.put o.dst r)) \/ Xg P k (l.map LV.tv ++ ps ++ m.map LV.tv) o.dst s K)
      | none => False
    | .yld l => match lu s.ev args.toList with
      | some (nd, ps) => nd /\ zK P l ps o.dst s K
      | none => False
    | .no => False
  | op => AX op = false /\ (op.operands.toList.all fun x => (gv (s.ev x)).isSome) = true /\ ∃ u, (∀ w, (execOp (gρ s.ev) o).run P w = .ok (.value u) w) /\ K (s.put o.dst (sS u))
def Gn : List (Option (List CV)) -> Nat -> Nat -> Option Nat
  | [], _, _ => none
  | some _ :: h, p, _ => Gn h (p + 1) 0
  | none :: h, p, r => bif r == 7 then some (p - 7) else Gn h (p + 1) (r + 1)
def oO (h : List (Option (List CV))) : Nat := (Gn h 0 0).getD h.length
def itF (P : Program) (o : Oper) (s : AS) (K : AS -> Prop) : Prop :=
  match o.op with
  | .range t x => match Jr P t, (s.ev x).tv with
    | some _, some (.one (.mp j)) => match hget s.heap j with
      | some [.mi _ n f] => (s.ev x).nd /\ ∀ c, K ({ s with heap := hset (hset s.heap j [.mi (some c) n f]) (oO s.heap) [.mt j c (fun _ => False) none] }.put o.dst (.t (.one (.it (oO s.heap)))))
      | _ => False
    | _, _ => False
  | .next x false => match (s.ev x).tv with
    | some (.one (.it i)) => match hget s.heap i with
      | some [.mt j c p _] => match hget s.heap j with
        | some [.mi (some c') _ f] => c' = c /\ (s.ev x).nd /\ ((∀ k, (f k).isSome = true -> p k) -> K (s.put o.dst (.tup [.one (.iv (.g (.bool false)))]))) ∧
            ∀ k y, f k = some y -> ¬ p k -> K ({ s with heap := hset s.heap i [.mt j c (fun q => q = k \/ p q) (some k)] }.put o.dst (.tup [.one (.iv (.g (.bool true))), .one (.iv (.g (.int .i64 k))), y.tv]))
        | _ => False
      | _ => False
    | _ => False
  | .entry x => match (s.ev x).tv with
    | some (.one (.it i)) => match hget s.heap i with
      | some [.mt j c _ (some k)] => match hget s.heap j with
        | some [.mi (some c') _ f] => c' = c /\ (s.ev x).nd /\ (f k).isSome = true /\ ∀ y, f k = some y -> K (s.put o.dst (.tup [.one (.iv (.g (.int .i64 k))), y.tv]))
        | _ => False
      | _ => False
    | _ => False
  | _ => False
def agX (P : Program) (o : Oper) (s : AS) (K : AS -> Prop) : Prop := (∃ L, tO L s /\ qP P o (xV L s) K) \/ itF P o s K
def zP (P : Program) (o : Oper) (s : AS) (K : AS -> Prop) : Prop := qP P o s K \/ agX P o s K
def Al (P : Program) (b : Bool) (o : Oper) (s : AS) (K : AS -> Prop) : Prop :=
  match o.op with
  | .call ⟨.value f, args, _⟩ => match dN (s.ev f) with
    | .pure k => match gQ s.ev (hget s.heap) args.toList with
      | some (nd, ps, own) => aM P k = true /\ (b = true -> nd) /\ ∃ r, (b = true -> au P k ps r) /\ (own = true -> r.flat = true) /\ K (s.put o.dst (r.av.l9 b))
      | none => False
    | _ => (b = true -> zP P o s K) /\ (b = false -> K (s.put o.dst .any))
  | op => (b = true -> zP P o s K) /\ (b = false -> K (s.put o.dst .any))
def TL (P : Program) (b : Bool) (o : Oper) (s : AS) (K : AS -> Prop) : Prop := (b = true -> zP P o s K) /\ (b = false -> K (s.put o.dst .any))
def Nr (P : Program) (b : Bool) (o : Oper) (s : AS) (K : AS -> Prop) : Prop := Al P b o s K \/ TL P b o s K
def gB (gs : List (Option Nat)) (s : AS) (j : Nat) (want : Bool) : Option Bool :=
  match (gs[j]?).getD none with
  | some t => match s.get t with
    | .t (.one (.iv (.g (.bool c)))) => some (c == want)
    | .mb b (.one (.iv (.g (.bool c)))) => some (b && (c == want))
    | _ => none
  | none => none
def fE (s : AS) : Option Nat -> Prop
  | some d => d < s.N
  | none => True
theorem wJ : ∀ (h : List (Option (List CV))) (p r : Nat) (q : Nat) (A : List (Option (List CV))), A.length = p -> r <= p -> (∀ k, p - r <= k -> k < p -> hget A k = none) -> Gn h p r = some q -> hget (A ++ h) q = none
  | [], _, _, _, _, _, _, _, h => by simp [Gn] at h
  | some x :: h, p, r, q, A, hA, hr, hk, e => by
    have := wJ h (p + 1) 0 q (A ++ [some x]) (by simp [hA]) (Nat.zero_le _) (fun k h1 h2 => by omega) e
    simpa using this
  | none :: h, p, r, q, A, hA, hr, hk, e => by
    simp only [Gn] at e
    cases h7 : r == 7 with
    | true =>
      rw [h7] at e
      simp only [cond_true, Option.some.injEq] at e
      have : r = 7 := by simpa using h7
      have := hk q (by omega) (by omega)
      unfold hget at this ⊢
      rwa [List.getElem?_append_left (by omega)]
    | false =>
      rw [h7] at e
      have := wJ h (p + 1) (r + 1) q (A ++ [none]) (by simp [hA]) (by omega) (fun k h1 h2 => by
        by_cases hp : k < p
        · have := hk k (by omega) hp
          unfold hget at this ⊢
          rwa [List.getElem?_append_left (by omega)]
        · obtain rfl : k = A.length := by omega
          simp [hget]) e
      simpa using this
theorem Ak (h : List (Option (List CV))) : hget h (oO h) = none := by
  unfold oO
  cases e : Gn h 0 0 with
  | none => simp [hget]
  | some q => simpa using wJ h 0 0 q [] rfl (Nat.le_refl _) (fun k h1 h2 => by omega) e
def eD (P : Program) (gs : List (Option Nat)) : List Oper -> AS -> (AS -> Prop) -> Prop
  | [], s, K => K s
  | o :: os, s, K => fE s o.dst /\ match o.guard with
    | none => match nP P (oO s.heap) s.ev (hget s.heap) o with
      | some (nd, v, ef) => nd /\ eD P gs os ((s.Ce (oO s.heap) ef).put o.dst v) K
      | none => zP P o s fun s' => eD P gs os s' K
    | some (j, want) => match gB gs s j want with
      | some b => match nP P (oO s.heap) s.ev (hget s.heap) o with
        | some (nd, v, .nop) => (b = true -> nd) /\ eD P gs os (s.put o.dst (v.l9 b)) K
        | some (nd, v, ef) => (b = true -> nd /\ eD P gs os ((s.Ce (oO s.heap) ef).put o.dst v) K) /\ (b = false -> eD P gs os (s.put o.dst .any) K)
        | none => Nr P b o s fun s' => eD P gs os s' K
      | none => False
end Go.Sea
namespace Go.Sea
open Go.RowKit
def Free (F : Fence) : Prop := F = Fence.wide \/ ∃ l, F = Fence.wide.inRound l
theorem Free.fn {F : Fence} (h : Free F) (f : FuncId) : F.fn f := by
  rcases h with rfl | ⟨l, rfl⟩ <;> trivial
theorem Free.depth {F : Fence} (h : Free F) : F.depth = none := by
  rcases h with rfl | ⟨l, rfl⟩ <;> rfl
theorem Free.calls {F : Fence} (h : Free F) {n : Nat} {P : Program} {f : FuncId} {args : Array Value} {w : World} {R : Ending -> World -> Prop} (hc : Calls P f args w R) : CallsIn F n P f args w R := by
  rcases h with rfl | ⟨l, rfl⟩
  · exact callsIn_wide.2 hc
  · exact CallsIn.inRound l (callsIn_wide.2 hc)
theorem Free.wide : Free Fence.wide := Or.inl rfl
theorem Free.round (l : Nat) : Free (Fence.wide.inRound l) := Or.inr ⟨l, rfl⟩
section
variable {P : Program} {ops : Array Oper} {Q : Exit -> Act -> World -> Prop} {md : Region.Mode} {F : Fence} {n : Nat}
theorem Free.rows {F : Fence} (h : Free F) {row : String} {args : Array Value} {w : World} {R : Value -> World -> Prop} (hc : Rows P row args w R) : RowsIn F n P row args w R := by
  have hw : RowsIn Fence.wide n P row args w R := fun c cs _ => let ⟨v, w', r, s⟩ := hc c cs; ⟨v, w', r, stepsIn_wide.2 s⟩
  rcases h with rfl | ⟨l, rfl⟩
  · exact hw
  · exact hw
theorem eZ (hF : Free F) {o : Oper} (hd : ∀ c, o.op ≠ .defer c) {a : Act} {w : World} {K : Act -> World -> Prop} (h : o.wp P a w K Q) : o.wpIn F n P a w K Q := by
  refine ⟨fun f _ => hF.fn f, ?_⟩
  rw [Oper.semAt_eq _ _ _ hd]
  unfold Oper.wp at h
  generalize (execOp a.eval o).run P w = r at *
  cases r with
  | ok x w' =>
    cases x <;> simp only [Oper.upon, Oper.uponIn] at h ⊢ <;> first | exact h | exact ⟨fun hx => (by rw [hF.depth] at hx; cases hx), CallsIn.mono (hF.calls h) (fun e w'' he => by cases e <;> exact he)⟩ | exact ⟨fun hx => (by rw [hF.depth] at hx; cases hx), Free.rows (n := n - 1) hF h⟩
  | halt x w' => cases x <;> simp only [Oper.upon, Oper.uponIn] at h ⊢ <;> exact h
end
theorem dM (ro : Option Nat) : Free (fo ro) := by
  cases ro with
  | none => exact Free.wide
  | some l => exact Free.round l
theorem Vg (ro : Option Nat) : (fo ro).round = ro := by cases ro <;> rfl
theorem Lb (ro : Option Nat) (l : Nat) : (fo ro).inRound l = fo (some l) := by cases ro <;> rfl
theorem rQ (gh : List (Nat × List (Nat × AV))) (k : Nat) (e : List (Nat × AV)) (f t : Nat) : gk ((k, e) :: gh) f t = if f = k then lk e t else gk gh f t := by
  simp only [gk, gf]
  split <;> rfl
theorem rW (k f t : Nat) : ∀ gh : List (Nat × List (Nat × AV)), gk (pK gh k) f t = if f = k then .any else gk gh f t
  | [] => by simp [pK, gk, gf, lk]
  | (q, e) :: r => by
    simp only [pK]
    by_cases hq : q = k
    · rw [if_pos hq, rW k f t r]
      by_cases hf : f = k
      · rw [if_pos hf, if_pos hf]
      · rw [if_neg hf, if_neg hf, rQ, if_neg (by omega)]
    · rw [if_neg hq, rQ]
      by_cases hf : f = k
      · rw [if_pos hf, if_neg (by omega), rW k f t r, if_pos hf]
      · rw [if_neg hf, rW k f t r, if_neg hf, rQ]
theorem uX : ∀ {ls : List LS} {l : Nat} {x : LS}, Fj ls l = some x -> x ∈ ls /\ x.l = l
  | [], _, _, h => by cases h
  | y :: r, l, x, h => by
    simp only [Fj] at h
    split at h
    · rename_i e; cases h; exact ⟨by simp, e⟩
    · have := uX h; exact ⟨by simp [this.1], this.2⟩
theorem BH (l : Nat) (st : LoopState) (pe : Option Code) : ∀ ls : List LS, (Cc ls l st pe).map LS.l = ls.map LS.l
  | [] => rfl
  | x :: r => by
    simp only [Cc]
    split
    · rfl
    · simp [BH l st pe r]
theorem Bg {l : Nat} {st : LoopState} {pe : Option Code} : ∀ {ls : List LS}, (ls.map LS.l).Nodup -> ∀ {y : LS}, y ∈ Cc ls l st pe -> (y ∈ ls /\ y.l ≠ l) \/ ∃ x, Fj ls l = some x /\ y = { x with st := st, pe := pe }
  | [], _, y, h => by cases h
  | x :: r, hn, y, h => by
    simp only [List.map_cons, List.nodup_cons] at hn
    simp only [Cc] at h
    simp only [Fj]
    split at h
    · rename_i e
      rcases List.mem_cons.1 h with rfl | h
      · exact Or.inr ⟨x, by rw [if_pos e], rfl⟩
      · exact Or.inl ⟨by simp [h], fun e' => hn.1 (by rw [e, <- e']; exact List.mem_map_of_mem h)⟩
    · rename_i e
      rcases List.mem_cons.1 h with rfl | h
      · exact Or.inl ⟨by simp, e⟩
      · rcases Bg hn.2 h with ⟨h1, h2⟩ | ⟨z, h1, h2⟩
        · exact Or.inl ⟨by simp [h1], h2⟩
        · exact Or.inr ⟨z, by rw [if_neg e]; exact h1, h2⟩
theorem uE {f : Nat} : ∀ {ls : List LS}, iM ls f -> ∀ x, x ∈ ls -> x.fid ≠ f
  | [], _, x, h => by cases h
  | y :: r, ⟨h1, h2⟩, x, h => by
    rcases List.mem_cons.1 h with rfl | h
    · exact h1
    · exact uE h2 x h
section
variable {w0 : World} {Z0 : Fr} {J J' : Nat -> Option Nat} {Z Z' : Nat -> Prop} {s s' : AS} {a : Act} {w w' : World} {P : Program} {o : Oper} {nid : Nat} {v : AV} {ef : Eff}
theorem mF : ∀ (h : List (Option (List CV))) (n : Nat), h.length <= n -> hget h n = none := by
  intro h n hn
  simp [hget, List.getElem?_eq_none hn]
theorem dz {d : Option Nat} (h : fE s d) : ∀ k, d = some k -> k < s.N := by
  rintro k rfl; exact h
theorem Co (s : AS) (n : Nat) (e : Eff) : (s.Ce n e).N = s.N := by cases e <;> rfl
theorem Hf (R : Rel w0 Z0 J Z s a w) : ∀ {l : List Operand} {nd : Prop} {ps : List PT} {own : Bool}, gQ s.ev (hget s.heap) l = some (nd, ps, own) -> nd -> aU (bZ w (if own then vo J Z else Z)) (l.map a.eval) ps
  | [], _, _, _, h, _ => by simp only [gQ, Option.some.injEq, Prod.mk.injEq] at h; obtain ⟨rfl, rfl, rfl⟩ := h; trivial
  | x :: l, _, _, _, h, hn => by
    unfold gQ at h
    split at h
    · rename_i n1 y b1 n2 l' b2 h1 h2
      simp only [Option.some.injEq, Prod.mk.injEq] at h
      obtain ⟨rfl, rfl, rfl⟩ := h
      obtain ⟨t, ht, hu⟩ := bV h1
      exact ⟨bZ.vT (fun k => (ifz k).1) (Av R (bD.tv (R.ev x) ht hn.1) hu hn.2.1), (Hf R h2 hn.2.2).mono fun _ _ hr => bZ.vT (fun k => (ifz k).2) hr⟩
    · cases h
theorem rE (R : Rel w0 Z0 J Z s a w) : ∀ {l : List Operand} {nd : Prop} {ps : List TV}, lu s.ev l = some (nd, ps) -> nd -> aU (bS w J Z) (l.map a.eval) ps
  | [], _, _, h, _ => by simp only [lu, Option.some.injEq, Prod.mk.injEq] at h; obtain ⟨rfl, rfl⟩ := h; trivial
  | x :: l, _, _, h, hn => by
    unfold lu at h
    split at h
    · rename_i y n2 l' h1 h2
      simp only [Option.some.injEq, Prod.mk.injEq] at h
      obtain ⟨rfl, rfl⟩ := h
      exact ⟨bD.tv (R.ev x) h1 hn.1, rE R h2 hn.2⟩
    · cases h
theorem jR.tv {v : Value} {l : LV} (h : jR w J Z v l) : bS w J Z v l.tv := by cases l <;> exact h
theorem uW {k : FuncId} (h : aM P k = true) (args : Array Value) (w : World) : (callFunc k args).run P w = .ok (.enter k args) w := by
  unfold aM at h
  split at h
  · rename_i fn hf
    simp only [Bool.and_eq_true, bne_iff_ne] at h
    cases hb : fn.body with
    | none => rw [hb] at h; cases h.2
    | some c => simp [callFunc, hf, h.1, hb]
  · cases h
theorem Bv (R : Rel w0 Z0 J Z s a w) {k : FuncId} {args : Array Operand} {nd : Prop} {ps : List PT} {own : Bool} {r : PV} (h : gQ s.ev (hget s.heap) args.toList = some (nd, ps, own)) (hn : nd) (hc : au P k ps r) (hf : own = true -> r.flat = true) :
    Calls P k (args.map a.eval) w fun e w' => ∃ v Z', e = .returned v /\ Rel w0 Z0 J Z' s a w' /\ bD w' J Z' v r.av := by
  have ha := Hf R h hn
  rw [<- Array.toList_map] at ha
  refine (hc w _ _ (fun b hb => ?_) ha R.aiN).mono fun e w' ⟨v, he, hbel, hr⟩ => ?_
  · cases own with
    | false => exact R.zlt b hb
    | true =>
      rcases hb with hb | ⟨i, hb⟩
      · exact R.zlt b hb
      · exact (R.jlt i b hb).2.1
  · obtain ⟨R', _⟩ := R.call hbel
    refine ⟨v, _, he, R', l8.av ?_⟩
    cases own with
    | false => exact hr
    | true => exact l8.flat hr (hf rfl)
theorem NA (R : Rel w0 Z0 J Z s a w) {x : Operand} {u : Value} (h : gv (s.ev x) = some u) : a.eval x = u := by
  have hx := R.ev x
  generalize s.ev x = av at h hx
  generalize a.eval x = vx at hx ⊢
  unfold gv at h
  split at h
  · simp only [Option.some.injEq] at h
    subst h
    cases hx; rfl
  · rename_i cs
    split at h
    · rename_i hall
      simp only [Option.some.injEq] at h
      subst h
      obtain ⟨A, hA, hr⟩ := hx
      rw [hA]
      congr 1
      apply Array.ext'
      simp only
      clear hA
      generalize A.toList = l at hr
      induction cs generalizing l with
      | nil => cases l with
        | nil => rfl
        | cons _ _ => exact hr.elim
      | cons c cs ih =>
        cases l with
        | nil => exact hr.elim
        | cons x l =>
          simp only [List.all_cons, Bool.and_eq_true] at hall
          rw [List.map_cons, <- ih hall.2 l hr.2]
          congr 1
          cases c with
          | iv c =>
            cases c with
            | g u => cases hr.1; rfl
            | lst => simp at hall
            | ptr => simp at hall
          | _ => simp at hall
    · cases h
  · cases h
theorem jL {K : Act -> World -> Prop} {Q : Exit -> Act -> World -> Prop} {k : FuncId} {args : Array Value} (hrun : (execOp a.eval o).run P w = .ok (.enter k args) w) (h : Calls P k args w fun e w' => ∃ v, e = .returned v /\ K (a.put o.dst v) w') : o.wp P a w K Q := by
  unfold Oper.wp
  rw [hrun]
  refine Calls.mono h fun e w' ⟨v, he, hk⟩ => ?_
  subst he
  exact hk
theorem jK {f : Operand} {args : Array Operand} {tys : Array TypeId} (ho : o.op = .call ⟨.value f, args, tys⟩) {k : FuncId} {A B : Array Value} (hf : a.eval f = .func (.func k) A B) (hk : aM P k = true) : (execOp a.eval o).run P w = .ok (.enter k (A ++ args.map a.eval ++ B)) w := by
  simp [execOp, ho, resolve, hf, Deferred.ofValue, invoke, uW hk]
theorem wX (R : Rel w0 Z0 J Z s a w) {f : Operand} {c : Qe} (h : dN (s.ev f) = c) (hc : c ≠ .no) : ∃ x, bS w J Z (a.eval f) x /\ kV x = c := by
  have hx := R.ev f
  generalize s.ev f = av at h hx
  unfold dN at h
  split at h
  · exact ⟨_, hx, h⟩
  · exact ⟨_, hx.1 rfl, h⟩
  · exact absurd h.symm hc
theorem jg (R : Rel w0 Z0 J Z s a w) {f : Operand} {k : FuncId} (h : dN (s.ev f) = .pure k) : a.eval f = .func (.func k) #[] #[] := by
  obtain ⟨av, hx, h⟩ := wX R h (by simp)
  generalize a.eval f = vx at hx ⊢
  unfold kV at h
  split at h
  · split at h
    · rename_i k' A B hs
      cases h
      have hA : A = #[] := Array.eq_empty_of_size_eq_zero hs.1
      have hB : B = #[] := Array.eq_empty_of_size_eq_zero hs.2
      subst hA hB
      cases hx; rfl
    · cases h
  · split at h <;> cases h
  · cases h
  · cases h
theorem Ld (R : Rel w0 Z0 J Z s a w) {f : Operand} {k : FuncId} {l m : List LV} (h : dN (s.ev f) = .clo k l m) : ∃ A B, a.eval f = .func (.func k) A B /\ aU (jR w J Z) A.toList l /\ aU (jR w J Z) B.toList m := by
  obtain ⟨av, hx, h⟩ := wX R h (by simp)
  unfold kV at h
  split at h
  · split at h <;> cases h
  · split at h <;> cases h
  · cases h
    exact hx
  · cases h
theorem Lc (R : Rel w0 Z0 J Z s a w) {f : Operand} {l : Nat} (h : dN (s.ev f) = .yld l) : a.eval f = .func (.yield l) #[] #[] := by
  obtain ⟨av, hx, h⟩ := wX R h (by simp)
  generalize a.eval f = vx at hx ⊢
  unfold kV at h
  split at h
  · split at h <;> cases h
  · split at h
    · rename_i k' A B hs
      cases h
      have hA : A = #[] := Array.eq_empty_of_size_eq_zero hs.1
      have hB : B = #[] := Array.eq_empty_of_size_eq_zero hs.2
      subst hA hB
      cases hx; rfl
    · cases h
  · cases h
  · cases h
theorem yP {b : Nat} {o o' : Obj} (hb : w.heap[b]? = some o) (ho : o.isCells = false) : kE (fun _ => True) w J Z (w.putObj b o') J Z := by
  have hne : ∀ b', iF w b' -> b' ≠ b := fun b' ⟨c, e, f, h⟩ e' => by subst e'; rw [hb] at h; cases h; cases ho
  exact ⟨fun _ _ _ h => h, fun _ h => h, fun b' _ h => World.putObj_heap_other (hne b' h), fun i b' _ _ c e f h => ⟨c, (World.putObj_heap_other (hne b' ⟨c, e, f, h⟩)).trans h, rfl⟩⟩
def wW : Obj -> Bool
  | .cells .. | .map .. | .mapIter .. => false
  | _ => true
theorem nS {o : Obj} (h : wW o = true) : o.isCells = false := by cases o <;> first | rfl | cases h
theorem iO.turn {b b1 : Nat} {o o' : Obj} {cs : List CV} (hb : w.heap[b]? = some o) (ho : wW o = true) (ho' : wW o' = true) (h : iO w J Z b1 cs) : iO (w.putObj b o') J Z b1 cs := by
  have G : kE (fun _ => True) w J Z (w.putObj b o') J Z := yP hb (nS ho)
  have oth : ∀ {c : Nat} {x : Obj}, w.heap[c]? = some x -> wW x = false -> (w.putObj b o').heap[c]? = some x := fun {c x} hc hx => (World.putObj_heap_other (fun e => by subst e; rw [hb] at hc; cases hc; rw [ho] at hx; cases hx)).trans hc
  unfold iO at h
  split at h
  · obtain ⟨rfl, es, clock, h1, h0, h2⟩ := h
    exact ⟨rfl, es, clock, oth h1 rfl, h0, h2.mono G.zz G.blk⟩
  · obtain ⟨rfl, es, clock, h1, h2⟩ := h
    exact ⟨rfl, es, clock, oth h1 rfl, h2.mono G.zz G.blk⟩
  · obtain ⟨rfl, es, clock, h1, h2, h3⟩ := h
    exact ⟨rfl, es, clock, oth h1 rfl, h2, aU.mono' (fun x y hy hr => ⟨hr.1, bQ.dK G (CV.bM _) hr.2⟩) h3⟩
  · obtain ⟨rfl, m, seen, es, clock, h1, h2, h3, h4⟩ := h
    exact ⟨rfl, m, seen, es, clock, oth h1 rfl, h2, oth h3 rfl, h4⟩
  · rcases h with ⟨c, e, h1, h2⟩ | ⟨⟨x, h1, h2⟩, h3⟩
    · exact iO.of (oth h1 rfl) (h2.mono fun _ y => bQ.dK G (CV.bM _))
    · by_cases e : b1 = b
      · subst e
        have hlt := (Array.getElem?_eq_some_iff.1 hb).1
        exact iO.dead (o := o') (World.putObj_heap_same hlt) (nS ho') h3
      · exact iO.dead ((World.putObj_heap_other e).trans h1) h2 h3
theorem sU {n0 b : Nat} {o o' : Obj} (hb : w.heap[b]? = some o) (hl : n0 <= b) : Below n0 w (w.putObj b o') :=
  (Below.refl n0 w).grown (grownBy_putObj' w b o') (by have := (Array.getElem?_eq_some_iff.1 hb).1; omega) (fun k e => by cases e; omega)
theorem Rel.turn (R : Rel w0 Z0 J Z s a w) {b : Nat} {o o' : Obj} {D : List Deferred} {ls : List LS} (hb : w.heap[b]? = some o) (ho : wW o = true) (ho' : wW o' = true) (hl : w0.heap.size <= b)
    (hD : ∃ M : List Nat, D = M.map mark /\ (M ++ Z0.pin).Nodup /\ ∀ c, c ∈ M ++ Z0.pin -> w0.heap.size <= c /\ (w.putObj b o').heap[c]? = some (.deferred (some [])))
    (hL : ∀ x, x ∈ ls -> ∃ fn tmps dd, w0.heap.size <= x.l /\ (w.putObj b o').heap[x.l]? = some (.loop (x.loop fn tmps dd)) /\ tmps.size = x.N /\ ∀ t, tmps.getD t undef = Z0.g x.fid t) (hn : (ls.map LS.l).Nodup) :
    Rel w0 Z0 J Z { s with lp := ⟨ls, s.lp.fr, s.lp.ro⟩ } { a with defers := D } (w.putObj b o') := by
  have G : kE (fun _ => True) w J Z (w.putObj b o') J Z := yP hb (nS ho)
  refine ⟨hD, R.size, R.below.trans (sU hb hl), R.zfrom, fun c h => by rw [World.putObj_size]; exact R.zlt c h, fun i c h => by rw [World.putObj_size]; exact R.jlt i c h, R.inj, R.hole, fun i cs h hne => ?_, fun t => bD.dK G (AV.bM _) (R.slots t), fun f t => bD.dK G (AV.bM _) (R.ghost f t), hL, hn, R.ro, R.tab⟩
  obtain ⟨c, h1, h2⟩ := R.blk i cs h hne
  exact ⟨c, h1, h2.turn hb ho ho'⟩
theorem L8 : ∀ {ps : List Nat} {vs : List Value} {tvs : List TV} {tmps : Array Value} {env : List (Nat × AV)}, ps.length = tvs.length -> aU (bS w J Z) vs tvs -> oI ps tmps.size -> (∀ t, bD w J Z (tmps.getD t undef) (lk env t)) ->
    ((ps.zip vs).foldl (fun (tmps : Array Value) (p : Nat × Value) => tmps.setIfInBounds p.1 p.2) tmps).size = tmps.size /\ ∀ t, bD w J Z (((ps.zip vs).foldl (fun (tmps : Array Value) (p : Nat × Value) => tmps.setIfInBounds p.1 p.2) tmps).getD t undef) (lk (jw ps tvs env) t)
  | [], [], [], _, _, _, _, _, h => ⟨rfl, h⟩
  | [], _ :: _, _ :: _, _, _, hl, _, _, _ => by simp at hl
  | _ :: _, [], [], _, _, hl, _, _, _ => by simp at hl
  | p :: ps, v :: vs, x :: tvs, tmps, env, hl, ⟨h1, h2⟩, ⟨g1, g2⟩, h => by
    simp only [List.zip_cons_cons, List.foldl_cons, jw]
    have := L8 (ps := ps) (vs := vs) (tvs := tvs) (tmps := tmps.setIfInBounds p v) (env := (p, .t x) :: env) (by simpa using hl) h2 (by simpa using g2) (fun t => ?_)
    · simpa using this
    · simp only [lk]
      by_cases e : t = p
      · subst e; simp [g1]; exact h1
      · rw [if_neg e]
        have := h t
        simpa [Array.getElem?_setIfInBounds_ne (Ne.symm e)] using this
theorem rC : ∀ (l : List TV) (k t : Nat), lk (ak l k) t = if k <= t then ((l[t - k]?).map AV.t).getD .any else .any
  | [], k, t => by simp [ak, lk]
  | v :: l, k, t => by
    simp only [ak, lk]
    by_cases h : t = k
    · subst h; simp
    · rw [if_neg h, rC l (k + 1) t]
      by_cases h2 : k <= t
      · rw [if_pos h2, if_pos (by omega), show t - k = (t - (k + 1)) + 1 by omega, List.getElem?_cons_succ]
      · rw [if_neg h2, if_neg (by omega)]
def Es (tmps : Array Value) : ResultVar -> Sem Value
  | .tmp t => pure (tmps.getD t undef)
  | .cell x t => do loadVar t (<- asAddr (tmps.getD x undef))
theorem zx (fn : Func) (tmps : Array Value) : results fn tmps = (do let vs <- fn.results.mapM (Es tmps); pure (if h : vs.size = 1 then vs[0] else .tuple vs)) := by
  unfold results
  congr 2
theorem mI (R : Rel w0 Z0 J Z s a w) : ∀ {l : List ResultVar} {nd : Prop} {m : List TV}, Ci P s l = some (nd, m) -> nd ->
    ∃ vs : List Value, (l.mapM (Es a.tmps)).run P w = .ok vs w /\ aU (bS w J Z) vs m
  | [], _, _, h, _ => by simp only [Ci, Option.some.injEq, Prod.mk.injEq] at h; obtain ⟨rfl, rfl⟩ := h; exact ⟨[], rfl, trivial⟩
  | .tmp t :: r, _, _, h, hn => by
    unfold Ci at h
    split at h
    · rename_i v nd' l' h1 h2
      simp only [Option.some.injEq, Prod.mk.injEq] at h
      obtain ⟨rfl, rfl⟩ := h
      obtain ⟨vs, hvs, hr⟩ := mI R h2 hn.2
      refine ⟨a.tmps.getD t undef :: vs, ?_, bD.tv (R.slots t) h1 hn.1, hr⟩
      rw [List.mapM_cons]
      simp only [Sem.run_bind, Es, Sem.run_pure, Result.andThen_ok, hvs]
    · cases h
  | .cell x t :: r, _, _, h, hn => by
    unfold Ci at h
    split at h
    · rename_i v ag n h1 ht
      split at h
      · rename_i n1 y nd' l' h2 h3
        simp only [Option.some.injEq, Prod.mk.injEq] at h
        obtain ⟨rfl, rfl⟩ := h
        obtain ⟨vs, hvs, hr⟩ := mI R h3 hn.2.2
        have hx := bD.tv (R.slots x) h1 hn.1
        obtain ⟨u, hu, hur⟩ := run_load (P := P) R ht hx h2 hn.2.1
        refine ⟨u :: vs, ?_, hur, hr⟩
        have hptr : ∃ ad, a.tmps.getD x undef = .pointer (some ad) := by
          generalize a.tmps.getD x undef = vx at hx ⊢
          unfold sH at h2
          split at h2
          · obtain ⟨b, off, X, rfl, _⟩ := hx; exact ⟨_, rfl⟩
          · obtain ⟨b, rfl, _⟩ := hx; exact ⟨_, rfl⟩
          · cases h2
        obtain ⟨ad, hp⟩ := hptr
        rw [hp] at hu
        have hu' : (loadVar t ad).run P w = .ok u w := by simpa [Instr.loadAt, Instr.sureAddr] using hu
        have has : (asAddr (.pointer (some ad))).run P w = .ok ad w := rfl
        rw [List.mapM_cons]
        have hone : (Es a.tmps (.cell x t)).run P w = .ok u w := by
          show ((asAddr (a.tmps.getD x undef)) >>= fun y => loadVar t y).run P w = _
          rw [Sem.run_bind, hp, has]; exact hu'
        simp only [Sem.run_bind, hone, Sem.run_pure, Result.andThen_ok, hvs]
      · cases h
    · cases h
theorem QM {w : World} {J : Nat -> Option Nat} {Z : Nat -> Prop} {vs : List Value} {l : List TV} (hr : aU (bS w J Z) vs l) : bD w J Z (if h : vs.toArray.size = 1 then vs.toArray[0] else .tuple vs.toArray) (Pb l) := by
  rcases l with _ | ⟨v1, _ | ⟨v2, l⟩⟩ <;> rcases vs with _ | ⟨u1, _ | ⟨u2, vs⟩⟩ <;> first | exact hr.elim | exact hr.2.elim | skip
  · exact ⟨_, rfl, hr⟩
  · exact hr.1
  · exact ⟨_, rfl, hr⟩
theorem TY {a b : Nat} (h : mark a = mark b) : a = b := by
  simp only [mark, Deferred.mk.injEq, Target.collected.injEq, and_true] at h
  exact h
theorem rD : ∀ {M N : List Nat}, M.map mark = N.map mark -> M = N
  | [], [], _ => rfl
  | [], _ :: _, h => by cases h
  | _ :: _, [], h => by cases h
  | a :: M, b :: N, h => by
    simp only [List.map_cons, List.cons.injEq] at h
    rw [TY h.1, rD h.2]
theorem Rel.leaves {F : Fence} {n : Nat} {fn : Func} {R0 : Ending -> World -> Prop} {w0 : World} {Z0 : Fr} {J : Nat -> Option Nat} {Z : Nat -> Prop} : ∀ (M : List Nat) {a : Act} {w : World}, Rel w0 Z0 J Z s a w -> a.defers = M.map mark ->
    (∀ a' w', Rel w0 Z0 J Z s a' w' -> a'.tmps = a.tmps -> a'.defers = [] -> LeavesIn F n P fn a.tmps R0 [] .returning w') -> LeavesInM F n P fn a.tmps R0 a.defers .returning w
  | [], a, w, R, hd, h => by
    rw [hd]
    exact h a w R rfl hd
  | b :: M, a, w, R, hd, h => by
    rw [hd, List.map_cons]
    refine ⟨by simp, Or.inl ⟨b, w.putObj b (.deferred none), rfl, ?_, ?_⟩⟩
    · obtain ⟨M', m1, m2, m3⟩ := R.nodef
      obtain rfl := rD (hd.symm.trans m1)
      exact run_takeDeferred (m3 b (by simp)).2
    · obtain ⟨M', m1, m2, m3⟩ := R.nodef
      obtain rfl := rD (hd.symm.trans m1)
      have hb := (m3 b (by simp)).2
      have hM : ∀ c, c ∈ M ++ Z0.pin -> c ≠ b := fun c hc e => by
        subst e
        rw [List.cons_append, List.nodup_cons] at m2
        exact m2.1 hc
      have R' := R.turn (o' := .deferred none) (D := M.map mark) (ls := s.lp.ls) hb rfl rfl (m3 b (by simp)).1
        ⟨M, rfl, by rw [List.cons_append, List.nodup_cons] at m2; exact m2.2, fun c hc => ⟨(m3 c (by rw [List.cons_append]; exact List.mem_cons_of_mem _ hc)).1, (World.putObj_heap_other (hM c hc)).trans (m3 c (by rw [List.cons_append]; exact List.mem_cons_of_mem _ hc)).2⟩⟩
        (fun x hx => by
          obtain ⟨fn', tmps, dd, h1, h2, h3, h4⟩ := R.loops x hx
          refine ⟨fn', tmps, dd, h1, (World.putObj_heap_other (fun e => ?_)).trans h2, h3, h4⟩
          rw [e, hb] at h2; cases h2) R.lnd
      exact Rel.leaves M (a := { a with defers := M.map mark }) R' rfl fun a' w' R'' h1 h2 => h a' w' R'' h1 h2
section
variable {P : Program}
theorem Cw (R : Rel w0 Z0 J Z s a w) {k : FuncId} {fn : Func} {c : Code} {args : List TV} {vs : Array Value} {d : Option Nat} {K : AS -> Prop} {K2 : Act -> World -> Prop} (ha : aU (bS w J Z) vs.toList args) (hd : fE s d) (hf : P.funcs[k]? = some fn) (hb : fn.body = some c)
    (hl : args.length <= fn.ntmps) (hls : iM s.lp.ls s.lp.fr) (h : AW P c ⟨ak args 0, s.heap, fn.ntmps, (s.lp.fr, s.env) :: s.gh, ⟨s.lp.ls, s.lp.fr + 1, none⟩⟩ (TK P s.lp.fr s.N s.lp fn d K)) (hK : ∀ s' a' w', l5 w0 Z0 s' a' w' -> K s' -> K2 a' w') :
    Calls P k vs w fun e w' => ∃ v, e = .returned v /\ K2 (a.put d v) w' := by
  refine callsIn_wide.1 (callsIn_of_wp_marks (F := Fence.wide) (n := 0) hf hb trivial ?_)
  have hlen := ha.length
  simp only [Array.length_toList] at hlen
  have hlsf := uE hls
  obtain ⟨M, m1, m2, m3⟩ := R.nodef
  let Z1 : Fr := ⟨Z0.z, fun f t => if f = s.lp.fr then a.tmps.getD t undef else Z0.g f t, none, M ++ Z0.pin⟩
  have R1 : Rel w0 Z1 J Z ⟨ak args 0, s.heap, fn.ntmps, (s.lp.fr, s.env) :: s.gh, ⟨s.lp.ls, s.lp.fr + 1, none⟩⟩ { tmps := vs ++ Array.replicate (fn.ntmps - vs.size) undef, defers := [] } w := by
    refine ⟨⟨[], rfl, by simpa [Z1] using m2, fun b hb => m3 b (by simpa [Z1] using hb)⟩, ?_, R.below, R.zfrom, R.zlt, R.jlt, R.inj, R.hole, R.blk, fun t => ?_, fun f t => ?_, fun y hy => ?_, R.lnd, rfl, R.tab⟩
    · simp; omega
    · simp only [AS.get, rC, Nat.zero_le, if_true, Nat.sub_zero]
      cases hx : args[t]? with
      | none => simp; trivial
      | some x =>
        obtain ⟨u, hu, hr⟩ := ha.get hx
        have : (vs ++ Array.replicate (fn.ntmps - vs.size) undef).getD t undef = u := by
          rw [Array.getElem?_toList] at hu
          have hlt : t < vs.size := (Array.getElem?_eq_some_iff.1 hu).1
          simp only [Array.getD_eq_getD_getElem?, Array.getElem?_append_left hlt, hu, Option.getD_some]
        rw [this]
        exact hr
    · rw [rQ]
      by_cases hf : f = s.lp.fr
      · simp only [Z1, if_pos hf]; exact R.slots t
      · simp only [Z1, if_neg hf]; exact R.ghost f t
    · obtain ⟨fn', tmps', dd', k0, k1, k2, k3⟩ := R.loops y hy
      refine ⟨fn', tmps', dd', k0, k1, k2, fun t => ?_⟩
      simp only [Z1, if_neg (hlsf y hy)]; exact k3 t
  refine wpIn_mono (h w0 Z1 _ w 0 ⟨_, _, R1⟩) fun e a' w' ⟨s', ⟨J', Z', R'⟩, he, hlp, q⟩ => ?_
  have fin : LeavesInM Fence.wide 0 P fn a'.tmps (fun e w' => ∃ v, e = .returned v /\ K2 (a.put d v) w') a'.defers .returning w' := by
    obtain ⟨M', m1', _⟩ := R'.nodef
    refine R'.leaves M' m1' fun a2 w2 R2 h2 h3 => ?_
    split at q
    · rename_i nd l h1
      obtain ⟨hn, hk⟩ := q
      obtain ⟨vs', hvs, hr⟩ := mI R2 h1 hn
      rw [h2] at hvs
      have hres : (results fn a'.tmps).run P w2 = .ok (if h : vs'.toArray.size = 1 then vs'.toArray[0] else .tuple vs'.toArray) w2 := by
        rw [zx, <- Array.toArray_toList (xs := fn.results), List.mapM_toArray]
        simp only [Sem.run_bind, Sem.run_map, hvs, Result.andThen_ok, Sem.run_pure]
      refine ⟨_, hres, _, rfl, hK _ _ _ ⟨J', Z', Rel.put (s := loopS s.lp.fr s.N s.lp s') ?_ (dz hd) (QM hr)⟩ hk⟩
      refine ⟨⟨M, m1, m2, fun b hb => ?_⟩, R.size, R2.below, R2.zfrom, R2.zlt, R2.jlt, R2.inj, R2.hole, R2.blk, fun t => ?_, fun f t => ?_, fun y hy => ?_, R.lnd, R.ro, R.tab⟩
      · obtain ⟨M4, _, _, n3⟩ := R2.nodef
        exact n3 b (List.mem_append_right _ hb)
      · have := R2.ghost s.lp.fr t
        simp only [Z1, if_true] at this
        exact this
      · show bD _ J' Z' _ (gk (pK s'.gh s.lp.fr) f t)
        rw [rW]
        by_cases hf : f = s.lp.fr
        · rw [if_pos hf]; trivial
        · rw [if_neg hf]
          have := R2.ghost f t
          simpa only [Z1, if_neg hf] using this
      · have hy' : y ∈ s.lp.ls := hy
        obtain ⟨fn', tmps', dd', k0, k1, k2, k3⟩ := R2.loops y (by rw [hlp]; exact hy')
        refine ⟨fn', tmps', dd', k0, k1, k2, fun t => ?_⟩
        have := k3 t
        simpa only [Z1, if_neg (hlsf y hy')] using this
    · exact q.elim
  cases e <;> simp at he <;> exact fin
end
theorem J4 {n : Nat} {F : Fence} (hF : Free F) {K : Act -> World -> Prop} {Q : Exit -> Act -> World -> Prop} {l fn : Nat} {tmps : Array Value} {asg body : Code} (hd : ∀ c, o.op ≠ .defer c) (hrun : (execOp a.eval o).run P w = .ok (.round l fn tmps asg body) w)
    (h : ∀ m, RoundIn F m P l fn tmps asg body w fun e w' => ∃ v, e = .returned v /\ K (a.put o.dst v) w') : o.wpIn F n P a w K Q := by
  refine ⟨fun f _ => hF.fn f, ?_⟩
  rw [Oper.semAt_eq _ _ _ hd, hrun, Oper.uponIn_round]
  refine ⟨fun hx => (by rw [hF.depth] at hx; cases hx), (h _).mono fun e w' ⟨v, he, hk⟩ => ?_⟩
  subst he
  exact hk
theorem KU {f : Operand} {args : Array Operand} {tys : Array TypeId} (ho : o.op = .call ⟨.value f, args, tys⟩) {l : Nat} (hf : a.eval f = .func (.yield l) #[] #[]) : (execOp a.eval o).run P w = (Instr.yield l (args.map a.eval)).run P w := by
  simp [execOp, ho, resolve, hf, Deferred.ofValue, invoke]
theorem Gs (R : Rel w0 Z0 J Z s a w) {l : Nat} {ps : List TV} {vs : Array Value} {d : Option Nat} {K : AS -> Prop} {K2 : Act -> World -> Prop} (ha : aU (bS w J Z) vs.toList ps) (hd : fE s d) (h : zK P l ps d s K) (hK : ∀ s' a' w', l5 w0 Z0 s' a' w' -> K s' -> K2 a' w') :
    ∃ fn tmps asg body, (Instr.yield l vs).run P w = .ok (.round l fn tmps asg body) w /\ ∀ m, RoundIn (fo Z0.ro) m P l fn tmps asg body w fun e w' => ∃ v, e = .returned v /\ K2 (a.put d v) w' := by
  unfold zK at h
  split at h
  · rename_i x hx
    obtain ⟨h1, h2, h3, h4⟩ := h
    obtain ⟨hxm, hxl⟩ := uX hx
    obtain ⟨fn, tmps, dd, g0, g1, g2, g3⟩ := R.loops x hxm
    obtain ⟨M, m1, m2, m3⟩ := R.nodef
    rw [hxl] at g0 g1
    have hvl := ha.length
    rw [Array.length_toList] at hvl
    have hlsf := uE h3
    have hz := L8 (w := w) (J := J) (Z := Z) (ps := x.ps) (vs := vs.toList) (tvs := ps) (tmps := tmps) (env := gf s.gh x.fid) h1 ha (by rw [g2]; exact h2) (fun t => by rw [g3]; exact R.ghost x.fid t)
    have hfold : ((x.loop fn tmps dd).params.zip vs).foldl (fun (tmps : Array Value) (p : Nat × Value) => tmps.setIfInBounds p.1 p.2) tmps = (x.ps.zip vs.toList).foldl (fun (tmps : Array Value) (p : Nat × Value) => tmps.setIfInBounds p.1 p.2) tmps := by
      rw [<- Array.foldl_toList]; simp [LS.loop]
    let Z1 : Fr := ⟨Z0.z, fun f t => if f = s.lp.fr then a.tmps.getD t undef else Z0.g f t, some l, M ++ Z0.pin⟩
    refine ⟨fn, _, x.asg, x.body, run_yield g1 (by simp [LS.loop]; omega), fun m => ?_⟩
    rw [show (fun (tmps : Array Value) (x : Nat × Value) => match x with | (t, a) => tmps.setIfInBounds t a) = (fun (tmps : Array Value) (p : Nat × Value) => tmps.setIfInBounds p.1 p.2) from rfl]
    rw [show (x.loop fn tmps dd).tmps = tmps from rfl, hfold]
    refine roundIn_of_wpIn ((dM _).fn _) ?_
    rw [Lb]
    have R1 : Rel w0 Z1 J Z ⟨jw x.ps ps (gf s.gh x.fid), s.heap, x.N, (s.lp.fr, s.env) :: s.gh, ⟨s.lp.ls, s.lp.fr + 1, some l⟩⟩ { tmps := (x.ps.zip vs.toList).foldl (fun (tmps : Array Value) (p : Nat × Value) => tmps.setIfInBounds p.1 p.2) tmps, defers := [] } w := by
      refine ⟨⟨[], rfl, by simpa [Z1] using m2, fun b hb => m3 b (by simpa [Z1] using hb)⟩, hz.1.trans g2, R.below, R.zfrom, R.zlt, R.jlt, R.inj, R.hole, R.blk, hz.2, fun f t => ?_, fun y hy => ?_, R.lnd, rfl, R.tab⟩
      · rw [rQ]
        by_cases hf : f = s.lp.fr
        · simp only [Z1, if_pos hf]; exact R.slots t
        · simp only [Z1, if_neg hf]; exact R.ghost f t
      · obtain ⟨fn', tmps', dd', k0, k1, k2, k3⟩ := R.loops y hy
        refine ⟨fn', tmps', dd', k0, k1, k2, fun t => ?_⟩
        simp only [Z1, if_neg (hlsf y hy)]; exact k3 t
    refine wpIn_mono (h4 w0 Z1 _ w m ⟨J, Z, R1⟩) fun e a1 w1 ⟨s1, R2, q⟩ => ?_
    obtain ⟨J1, Y1, R2⟩ := R2
    cases e with
    | normal =>
      obtain ⟨q1, q2⟩ := q
      unfold aaR at q1
      split at q1
      · rename_i x1 hx1
        obtain ⟨hxm1, hxl1⟩ := uX hx1
        obtain ⟨fn1, tmps1, dd1, k0, k1, k2, k3⟩ := R2.loops x1 hxm1
        rw [hxl1] at k0 k1
        have hlt := (Array.getElem?_eq_some_iff.1 k1).1
        refine ⟨_, run_beginRound k1 q1.1, ?_⟩
        have R3 := R2.turn (o' := .loop { x1.loop fn1 tmps1 dd1 with state := .busy }) (D := a1.defers) (ls := Cc s1.lp.ls l .busy none) k1 rfl rfl k0 (by
          obtain ⟨M1, n1, n2, n3⟩ := R2.nodef
          refine ⟨M1, n1, n2, fun c hc => ⟨(n3 c hc).1, (World.putObj_heap_other (fun e => ?_)).trans (n3 c hc).2⟩⟩
          subst e; have := (n3 _ hc).2; rw [k1] at this; cases this) (fun y hy => by
          rcases Bg R2.lnd hy with ⟨hy, hne⟩ | ⟨z, hz1, rfl⟩
          · obtain ⟨fn', tmps', dd', p0, p1, p2, p3⟩ := R2.loops y hy
            exact ⟨fn', tmps', dd', p0, (World.putObj_heap_other hne).trans p1, p2, p3⟩
          · rw [hx1] at hz1; cases hz1
            refine ⟨fn1, tmps1, dd1, by simp only [hxl1]; exact k0, ?_, k2, k3⟩
            simp only [hxl1]
            rw [World.putObj_heap_same hlt]
            simp [LS.loop, q1.2]) (by rw [BH]; exact R2.lnd)
        refine wpIn_mono (q2 w0 Z1 _ _ m ⟨J1, Y1, R3⟩) fun e3 a3 w3 ⟨s3, R4, q3⟩ => ?_
        obtain ⟨J3, Y3, R4⟩ := R4
        obtain ⟨t1, t2, t3⟩ := q3
        obtain ⟨x3, hx3⟩ := Option.isSome_iff_exists.1 t1
        obtain ⟨hxm3, hxl3⟩ := uX hx3
        obtain ⟨fn3, tmps3, dd3, u0, u1, u2, u3⟩ := R4.loops x3 hxm3
        rw [hxl3] at u0 u1
        have hlt3 := (Array.getElem?_eq_some_iff.1 u1).1
        have hls3 := uE t2
        have fin : ∀ j, (∀ K' : Prop, K' -> K') -> K ((EW l s.lp.fr s.N s.lp.ro j s3).put d (bAV j.isNone)) -> ∃ v w', (Instr.endRound l j).run P w3 = .ok v w' /\ ∃ v', (Ending.returned v) = .returned v' /\ K2 (a.put d v') w' := fun j _ hk => by
          refine ⟨_, _, run_endRound j u1, _, rfl, hK _ _ _ ⟨J3, Y3, Rel.put (s := EW l s.lp.fr s.N s.lp.ro j s3) ?_ (dz hd) (show bD _ J3 Y3 (.bool j.isNone) (bAV j.isNone) from Rd.g (.bool j.isNone) rfl)⟩ hk⟩
          have G : kE (fun _ => True) w3 J3 Y3 (w3.putObj l (.loop { x3.loop fn3 tmps3 dd3 with state := if j.isNone then .ready else .done, pending := j })) J3 Y3 := yP u1 rfl
          refine ⟨⟨M, m1, m2, fun b hb => ?_⟩, R.size, R4.below.trans (sU u1 u0), R4.zfrom, fun c h => by rw [World.putObj_size]; exact R4.zlt c h, fun i c h => by rw [World.putObj_size]; exact R4.jlt i c h, R4.inj, R4.hole, fun i cs h hne => ?_, fun t => ?_, fun f t => ?_, fun y hy => ?_, ?_, R.ro, R.tab⟩
          · obtain ⟨M4, _, _, n3⟩ := R4.nodef
            have := n3 b (List.mem_append_right _ hb)
            refine ⟨this.1, (World.putObj_heap_other (fun e => ?_)).trans this.2⟩
            subst e; have := this.2; rw [u1] at this; cases this
          · obtain ⟨c, h1, h2⟩ := R4.blk i cs h hne
            exact ⟨c, h1, h2.turn u1 rfl rfl⟩
          · have := R4.ghost s.lp.fr t
            simp only [Z1, if_true] at this
            exact bD.dK G (AV.bM _) this
          · show bD _ J3 Y3 _ (gk (pK s3.gh s.lp.fr) f t)
            rw [rW]
            by_cases hf : f = s.lp.fr
            · rw [if_pos hf]; trivial
            · rw [if_neg hf]
              have := R4.ghost f t
              simp only [Z1, if_neg hf] at this
              exact bD.dK G (AV.bM _) this
          · rcases Bg R4.lnd hy with ⟨hy, hne⟩ | ⟨z, hz1, rfl⟩
            · obtain ⟨fn', tmps', dd', p0, p1, p2, p3⟩ := R4.loops y hy
              refine ⟨fn', tmps', dd', p0, (World.putObj_heap_other hne).trans p1, p2, fun t => ?_⟩
              have := p3 t
              simpa only [Z1, if_neg (hls3 y hy)] using this
            · rw [hx3] at hz1; cases hz1
              refine ⟨fn3, tmps3, dd3, by simp only [hxl3]; exact u0, ?_, u2, fun t => ?_⟩
              · simp only [hxl3]
                rw [World.putObj_heap_same hlt3]
                rfl
              · have := u3 t
                simpa only [Z1, if_neg (hls3 _ hxm3)] using this
          · show ((Cc _ _ _ _).map LS.l).Nodup
            rw [BH]; exact R4.lnd
        cases e3 with
        | normal => exact fin none (fun _ h => h) t3
        | ret => exact fin (some .ret) (fun _ h => h) t3
        | exit id => exact fin (some (.exit id)) (fun _ h => h) t3
        | goto id => exact fin (some (.goto id)) (fun _ h => h) t3
        | _ => exact t3.elim
      · exact q1.elim
    | _ => exact q.elim
  · exact h.elim
theorem uZ {n : Nat} (R : Rel w0 Z0 J Z s a w) {K : AS -> Prop} {K2 : Act -> World -> Prop} {Q : Exit -> Act -> World -> Prop} (hd : fE s o.dst) (h : qP P o s K) (hK : ∀ s' a' w', l5 w0 Z0 s' a' w' -> K s' -> K2 a' w') : o.wpIn (fo Z0.ro) n P a w K2 Q := by
  unfold qP at h
  split at h
  · rename_i f args tys ho
    have hnd : ∀ c, o.op ≠ .defer c := fun c e => by rw [ho] at e; cases e
    split at h
    · rename_i k hk
      rcases h with h | h <;> split at h
      · rename_i nd ps own ha
        obtain ⟨h1, h2, r, h3, h4, h5⟩ := h
        have hf := jg R hk
        refine eZ (dM _) hnd (jL (jK ho hf h1) ?_)
        simp only [Array.empty_append, Array.append_empty]
        refine (Bv R ha h2 h3 h4).mono fun e w' ⟨v, Z', he, R', hr⟩ => ⟨v, he, hK _ _ _ ⟨J, Z', R'.put (dz hd) hr⟩ h5⟩
      · exact h.elim
      · rename_i nd ps ha
        obtain ⟨h1, h2, h⟩ := h
        have hf := jg R hk
        refine eZ (dM _) hnd (jL (jK ho hf h1) ?_)
        simp only [Array.empty_append, Array.append_empty]
        have hargs : aU (bS w J Z) (args.map a.eval).toList ps := by simp only [Array.toList_map]; exact rE R ha h2
        rcases h with ⟨fn, c, i1, i2, i3, i4, i5⟩ | ⟨r, H', h3, h5⟩
        · exact Cw R hargs hd i1 i2 i3 i4 i5 hK
        · refine (h3 w0 Z0 J Z s a w _ R rfl hargs).mono fun e w' ⟨v, J', Z', he, R', hr⟩ => ⟨v, he, hK _ _ _ ⟨J', Z', R'.put (dz hd) hr⟩ h5⟩
      · exact h.elim
    · rename_i k l m hk
      split at h
      · rename_i nd ps ha
        obtain ⟨h1, h2, h⟩ := h
        obtain ⟨A, B, hf, hA, hB⟩ := Ld R hk
        refine eZ (dM _) hnd (jL (jK ho hf h1) ?_)
        have hargs : aU (bS w J Z) (A ++ args.map a.eval ++ B).toList (l.map LV.tv ++ ps ++ m.map LV.tv) := by
          simp only [Array.toList_append, Array.toList_map]
          exact ((aU.cO.2 (hA.mono fun _ _ => jR.tv)).append (rE R ha h2)).append (aU.cO.2 (hB.mono fun _ _ => jR.tv))
        rcases h with ⟨r, H', h3, h5⟩ | ⟨fn, c, i1, i2, i3, i4, i5⟩
        · refine (h3 w0 Z0 J Z s a w _ R rfl hargs).mono fun e w' ⟨v, J', Z', he, R', hr⟩ => ⟨v, he, hK _ _ _ ⟨J', Z', R'.put (dz hd) hr⟩ h5⟩
        · exact Cw R hargs hd i1 i2 i3 i4 i5 hK
      · exact h.elim
    · rename_i l hk
      split at h
      · rename_i nd ps ha
        obtain ⟨h1, h2⟩ := h
        have hargs : aU (bS w J Z) (args.map a.eval).toList ps := by
          simp only [Array.toList_map]; exact rE R ha h1
        obtain ⟨fn, tmps, asg, body, hy, hr⟩ := Gs R hargs hd h2 hK
        exact J4 (dM _) hnd ((KU ho (Lc R hk)).trans hy) hr
      · exact h.elim
    · exact h.elim
  · rename_i op hop
    obtain ⟨h1, h2, u, h3, h4⟩ := h
    have he : execOp a.eval o = execOp (gρ s.ev) o := execOp_congr o (fun cs b e => by rw [e] at h1; cases h1) fun x hx => by
      have := List.all_eq_true.1 h2 x (by simpa using hx)
      obtain ⟨u, hu⟩ := Option.isSome_iff_exists.1 this
      rw [gρ, hu, NA R hu]; rfl
    refine eZ (dM _) (fun c e => by rw [e] at h1; cases h1) ?_
    unfold Oper.wp
    rw [he, h3 w]
    exact hK _ _ _ ⟨J, Z, R.put (dz hd) (tK u)⟩ h4
theorem adU {h : List (Option (List CV))} {j : Nat} (hj : (hget h j).isSome = true) : oO h ≠ j := fun e => by
  have := Ak h
  rw [e] at this; rw [this] at hj; cases hj
theorem QE {n : Nat} (R : Rel w0 Z0 J Z s a w) {K : AS -> Prop} {K2 : Act -> World -> Prop} {Q : Exit -> Act -> World -> Prop} (hd : fE s o.dst) (h : itF P o s K) (hK : ∀ s' a' w', l5 w0 Z0 s' a' w' -> K s' -> K2 a' w') : o.wpIn (fo Z0.ro) n P a w K2 Q := by
  have step : ∀ {u : Value} {s' : AS} {w' : World} {x : AV}, (∀ c, o.op ≠ .defer c) -> K (s'.put o.dst x) -> (execOp a.eval o).run P w = .ok (.value u) w' -> s'.N = s.N -> (∃ J' Z', Rel w0 Z0 J' Z' s' a w' /\ bD w' J' Z' u x) -> o.wpIn (fo Z0.ro) n P a w K2 Q := fun {u s' w' x} hnd hk hr hN ⟨J', Z', R', hx⟩ => by
    refine eZ (dM _) hnd ?_
    unfold Oper.wp
    rw [hr]
    exact hK _ _ _ ⟨J', Z', R'.put (fun k hk => by have := dz hd k hk; rw [hN]; exact this) hx⟩ hk
  unfold itF at h
  split at h
  · rename_i t x ho
    have hnd : ∀ c, o.op ≠ .defer c := fun c e => by rw [ho] at e; cases e
    split at h
    · rename_i e j h1 h2
      split at h
      · rename_i c n f hcs
        obtain ⟨hn, hk⟩ := h
        obtain ⟨kt, t1, t2⟩ := pz h1
        obtain ⟨b, hv, hj⟩ := bD.tv (R.ev x) h2 hn
        obtain ⟨b', g1, _, es, clock, g2, _, g3⟩ := R.blk j _ hcs (by simp)
        obtain rfl : b = b' := by rw [hj] at g1; exact Option.some.inj g1
        have hsome : (hget s.heap j).isSome = true := by rw [hcs]; rfl
        have R1 := R.tell (cs := [.mi (some clock) n f]) hsome fun _ => ⟨b, hj, rfl, es, clock, g2, (fun _ h => by cases h; rfl), g3⟩
        have hne := adU hsome
        have hh : hget (hset s.heap j [.mi (some clock) n f]) (oO s.heap) = none := by rw [bE _ _ _ _ hne]; exact Ak _
        have hlt := (R.jlt j b hj).2.1
        have R2 := R1.ac9 (nid := oO s.heap) (cs := [.mt j clock (fun _ => False) none]) (o := .mapIter (some b) clock #[] clock) hh
          ⟨rfl, b, #[], es, clock, heap_alloc_new w _, by unfold gI; rw [if_neg (Ne.symm hne)]; exact hj, (Below.heap_alloc _ _ _ hlt).trans g2, Nat.le_refl _, fun _ y hy k hk => ⟨by simp, fun h => by cases h⟩⟩
        refine step hnd (hk clock) (u := .pointer (some ⟨w.heap.size, 0, none⟩)) (w' := w.alloc (.mapIter (some b) clock #[] clock)) ?_ rfl ⟨_, _, R2, ⟨_, rfl, by simp [gI]⟩⟩
        simp [execOp, ho, hv, Instr.range, run_underlying t1, MapKept.run_getObj_map g2, Result.andThen]
      · exact h.elim
    · exact h.elim
  · rename_i x ho
    have hnd : ∀ c, o.op ≠ .defer c := fun c e => by rw [ho] at e; cases e
    split at h
    · rename_i i h2
      split at h
      · rename_i j c p q hci
        split at h
        · rename_i c' n f hcs
          obtain ⟨rfl, hn, hk1, hk2⟩ := h
          obtain ⟨b, hv, hj⟩ := bD.tv (R.ev x) h2 hn
          obtain ⟨b', g1, _, m, seen, es, clock, g2, g3, g4, g5, g6⟩ := R.blk i _ hci (by simp)
          obtain rfl : b = b' := by rw [hj] at g1; exact Option.some.inj g1
          obtain ⟨m', q1, _, es', clock', q2, q3, q4⟩ := R.blk j _ hcs (by simp)
          obtain rfl : m = m' := by rw [g3] at q1; exact Option.some.inj q1
          rw [g4] at q2
          obtain ⟨rfl, rfl⟩ : es = es' /\ clock = clock' := by simp at q2; exact q2
          obtain rfl : clock = c' := q3 _ rfl
          have hold : ∀ y ∈ es.toList, y.born < clock := q4.2.1.1
          rcases run_next_at (P := P) w o.type b m clock clock seen es clock g2 g4 hold (Nat.le_refl _) with ⟨r1, r2⟩ | ⟨e, r1, w1, r2, r3⟩
          · refine step hnd (hk1 fun k hf => ?_) (u := .tuple #[.bool false]) (w' := w) ?_ rfl ⟨J, Z, R, ⟨_, rfl, Rd.g _ rfl, trivial⟩⟩
            rotate_left
            · simp [execOp, ho, hv, r2]
            · refine Classical.byContradiction fun hp => ?_
              have : f k = none := q4.2.2.2 k fun y hy hyk => by
                have hs := (g6 rfl y hy k hyk).1
                have hns : seen.contains y.born = false := by
                  cases hc : seen.contains y.born with
                  | false => rfl
                  | true => exact absurd (hs.1 hc) hp
                have : y ∈ (leftOf es seen).toList := by
                  unfold leftOf
                  simp only [Array.toList_filter, List.mem_filter]
                  exact ⟨hy, by rw [hns]; rfl⟩
                rw [Array.eq_empty_of_size_eq_zero r1] at this
                simp at this
              rw [this] at hf; cases hf
          · have he : e ∈ es.toList /\ seen.contains e.born = false := by
              unfold leftOf at r1
              simp only [Array.toList_filter, List.mem_filter] at r1
              exact ⟨r1.1, by simpa using r1.2⟩
            obtain ⟨k, y, k1, k2, k3⟩ := q4.2.2.1 e he.1
            have hnp : ¬ p k := fun hp => by
              have := (g6 rfl e he.1 k k1).1.2 hp
              rw [he.2] at this; cases this
            have R1 : Rel w0 Z0 J Z s a w1 := by rcases r2 with rfl | rfl; exact R; exact R.drew
            have hb1 : w1.heap[b]? = some (.mapIter (some m) clock seen clock) := by rcases r2 with rfl | rfl <;> exact g2
            have hm1 : w1.heap[m]? = some (.map es clock) := by rcases r2 with rfl | rfl <;> exact g4
            have hmb : m ≠ b := fun e => by rw [e, hb1] at hm1; cases hm1
            have hz1 : w1.heap = w.heap := by rcases r2 with rfl | rfl <;> rfl
            have hlt := (R1.jlt i b hj).2.1
            have R2 := R1.ajq (i := i) (cs := [.mt j clock (fun q => q = k \/ p q) (some k)]) (sn' := seen.push e.born) (c2 := clock) (by rw [hci]; rfl) hj hb1 fun G =>
              ⟨rfl, m, seen.push e.born, es, clock, iI hlt, g3, (fU hmb).trans hm1, Nat.le_refl _, fun _ z hz kz hkz => by
                have hs := (g6 rfl z hz kz hkz).1
                refine ⟨?_, fun hq => ?_⟩
                · constructor
                  · intro h
                    simp only [Array.contains_push, Bool.or_eq_true, beq_iff_eq] at h
                    rcases h with h | h
                    rotate_left
                    · have hze : z = e := by
                        obtain ⟨i1, hi1⟩ := mK hz
                        obtain ⟨i2, hi2⟩ := mK he.1
                        have hnb := q4.2.1.2.1
                        have a1 : (es.toList.map (·.born))[i1]? = some z.born := by simp [hi1]
                        have a2 : (es.toList.map (·.born))[i2]? = some z.born := by simp [hi2, h]
                        obtain ⟨l1, e1⟩ := List.getElem?_eq_some_iff.1 a1
                        obtain ⟨l2, e2⟩ := List.getElem?_eq_some_iff.1 a2
                        have hp := List.pairwise_iff_getElem.1 hnb
                        have : i1 = i2 := by
                          rcases Nat.lt_trichotomy i1 i2 with hl | hl | hl
                          · exact absurd (e1.trans e2.symm) (hp i1 i2 l1 l2 hl)
                          · exact hl
                          · exact absurd (e2.trans e1.symm) (hp i2 i1 l2 l1 hl)
                        subst this
                        rw [hi1] at hi2
                        exact Option.some.inj hi2
                      subst hze
                      rw [k1] at hkz; cases hkz
                      exact Or.inl rfl
                    · exact Or.inr (hs.1 h)
                  · intro h
                    simp only [Array.contains_push, Bool.or_eq_true, beq_iff_eq]
                    rcases h with rfl | h
                    · exact Or.inr (congrArg MapEntry.born (zm q4.2.1.2.2 hz he.1 (hkz.trans k1.symm)))
                    · exact Or.inl (hs.2 h)
                · cases hq
                  have := zm q4.2.1.2.2 hz he.1 (hkz.trans k1.symm)
                  rw [this]; simp⟩
            refine step hnd (hk2 k y k2 hnp) (u := .tuple #[.bool true, e.key, e.val]) (w' := nQ w1 b (.mapIter (some m) clock (seen.push e.born) clock)) ?_ rfl ⟨J, Z, R2, ⟨_, rfl, Rd.g _ rfl, by rw [k1]; exact Rd.g _ rfl, ?_, trivial⟩⟩
            · simp [execOp, ho, hv, r3]; rfl
            · have hz2 : ∀ b', iF w b' -> (nQ w1 b (.mapIter (some m) clock (seen.push e.born) clock)).heap[b']? = w.heap[b']? := fun b' ⟨c1, e1, f1, hc⟩ => by
                rw [fU (fun e => by subst e; rw [<- hz1, hb1] at hc; cases hc), hz1]
              exact bZ.tv (k3.mono (fun _ h => h) fun b' _ hc => hz2 b' hc)
        · exact h.elim
      · exact h.elim
    · exact h.elim
  · rename_i x ho
    have hnd : ∀ c, o.op ≠ .defer c := fun c e => by rw [ho] at e; cases e
    split at h
    · rename_i i h2
      split at h
      · rename_i j c p k hci
        split at h
        · rename_i c' n f hcs
          obtain ⟨rfl, hn, hf, hk⟩ := h
          obtain ⟨b, hv, hj⟩ := bD.tv (R.ev x) h2 hn
          obtain ⟨b', g1, _, m, seen, es, clock, g2, g3, g4, g5, g6⟩ := R.blk i _ hci (by simp)
          obtain rfl : b = b' := by rw [hj] at g1; exact Option.some.inj g1
          obtain ⟨m', q1, _, es', clock', q2, q3, q4⟩ := R.blk j _ hcs (by simp)
          obtain rfl : m = m' := by rw [g3] at q1; exact Option.some.inj q1
          rw [g4] at q2
          obtain ⟨rfl, rfl⟩ : es = es' /\ clock = clock' := by simp at q2; exact q2
          obtain rfl : clock = c' := q3 _ rfl
          have hex : ∃ z, z ∈ es.toList /\ z.key = .int .i64 k := Classical.byContradiction fun hne => by
            rw [q4.2.2.2 k fun z hz hzk => hne ⟨z, hz, hzk⟩] at hf
            cases hf
          obtain ⟨z, hz, hzk⟩ := hex
          obtain ⟨k', y, k1, k2, k3⟩ := q4.2.2.1 z hz
          rw [hzk] at k1; cases k1
          have hback := (g6 rfl z hz k hzk).2 rfl
          have hrun : (Instr.entry (.pointer (some ⟨b, 0, none⟩))).run P w = .ok (.tuple #[z.key, z.val]) w := by
            have hfi : es.find? (·.born == z.born) = some z := by rw [<- Array.find?_toList]; exact find_born z es.toList q4.2.1.2.1 hz
            simp only [Instr.entry, getObj, Sem.run_bind, Sem.run, g2, g4, Result.andThen, hback, bne_self_eq_false, Bool.false_eq_true, if_false, hfi]
            rfl
          refine step hnd (hk y k2) (u := .tuple #[z.key, z.val]) (w' := w) (by simp [execOp, ho, hv, hrun]) rfl ⟨J, Z, R, ⟨_, rfl, by rw [hzk]; exact Rd.g _ rfl, bZ.tv k3, trivial⟩⟩
        · exact h.elim
      · exact h.elim
    · exact h.elim
  · exact h.elim
theorem jU {n : Nat} (R : Rel w0 Z0 J Z s a w) {K : AS -> Prop} {K2 : Act -> World -> Prop} {Q : Exit -> Act -> World -> Prop} (hd : fE s o.dst) (h : zP P o s K) (hK : ∀ s' a' w', l5 w0 Z0 s' a' w' -> K s' -> K2 a' w') : o.wpIn (fo Z0.ro) n P a w K2 Q := by
  rcases h with h | ⟨L, h1, h2⟩ | h
  · exact uZ R hd h hK
  · obtain ⟨J', Z', R'⟩ := l5.xV L ⟨J, Z, R⟩ h1
    refine uZ R' ?_ h2 hK
    unfold fE at hd ⊢
    rw [Rx]; exact hd
  · exact QE R hd h hK
theorem wC {x : AV} {u : Value} (h : bD w J Z u x) : bD w J Z u (x.l9 true) := by
  cases x with
  | t x => exact ⟨fun _ => h, fun hb => by cases hb⟩
  | _ => trivial
theorem tV (x : AV) : bD w J Z undef (x.l9 false) := by
  cases x with
  | t x => exact ⟨fun hb => (by cases hb), fun _ => rfl⟩
  | _ => trivial
theorem J6 {n : Nat} (R : Rel w0 Z0 J Z s a w) {K : AS -> Prop} {K2 : Act -> World -> Prop} {Q : Exit -> Act -> World -> Prop} (hd : fE s o.dst) (h : Nr P true o s K) (hK : ∀ s' a' w', l5 w0 Z0 s' a' w' -> K s' -> K2 a' w') : o.wpIn (fo Z0.ro) n P a w K2 Q := by
  rcases h with h | h
  rotate_left
  · exact jU R hd (h.1 rfl) hK
  unfold Al at h
  split at h
  · rename_i f args tys ho
    split at h
    · rename_i k hk
      split at h
      · rename_i nd ps own ha
        obtain ⟨h1, h2, r, h3, h4, h5⟩ := h
        have hf := jg R hk
        refine eZ (dM _) (fun c e => by rw [ho] at e; cases e) (jL (jK ho hf h1) ?_)
        simp only [Array.empty_append, Array.append_empty]
        refine (Bv R ha (h2 rfl) (h3 rfl) h4).mono fun e w' ⟨v, Z', he, R', hr⟩ => ⟨v, he, hK _ _ _ ⟨J, Z', R'.put (dz hd) (wC hr)⟩ h5⟩
      · exact h.elim
    · exact jU R hd (h.1 rfl) hK
  · exact jU R hd (h.1 rfl) hK
theorem F5 (R : Rel w0 Z0 J Z s a w) {K : AS -> Prop} {K2 : Act -> World -> Prop} (hd : fE s o.dst) (h : Nr P false o s K) (hK : ∀ s' a' w', l5 w0 Z0 s' a' w' -> K s' -> K2 a' w') : K2 (a.put o.dst undef) w := by
  rcases h with h | h
  rotate_left
  · exact hK _ _ _ ⟨J, Z, R.Ad⟩ (h.2 rfl)
  unfold Al at h
  split at h
  · split at h
    · split at h
      · obtain ⟨h1, h2, r, h3, h4, h5⟩ := h
        exact hK _ _ _ ⟨J, Z, R.put (dz hd) (tV _)⟩ h5
      · exact h.elim
    · exact hK _ _ _ ⟨J, Z, R.Ad⟩ (h.2 rfl)
  · exact hK _ _ _ ⟨J, Z, R.Ad⟩ (h.2 rfl)
theorem rV {K2 : Act -> World -> Prop} {Q : Exit -> Act -> World -> Prop} (h : Does P w0 Z0 Z s a w nid o v ef) (hK : ∀ J' w' u, Rel w0 Z0 J' Z (s.Ce nid ef) a w' -> bD w' J' Z u v -> K2 (a.put o.dst u) w') : o.wp P a w K2 Q := by
  obtain ⟨J', w', u, hrun, R', hr⟩ := h
  unfold Oper.wp
  rcases hrun with h | ⟨h, rfl⟩ <;> rw [h]
  · exact hK J' w' u R' hr
  · exact hK J' w' undef R' hr
theorem YD {v u : Value} (h : Rd w Z v (.g u)) : v = u := by cases h; rfl
theorem Ov (R : Rel w0 Z0 J Z s a w) {ops : Array Oper} {j : Nat} {want b : Bool} (h : gB (ops.toList.map (·.dst)) s j want = some b) : (yielded ops a.tmps j == some want) = b := by
  unfold gB at h
  rw [List.getElem?_map, Array.getElem?_toList] at h
  split at h
  · rename_i t ht
    have hd : (ops[j]?).bind (·.dst) = some t := by
      cases hj : ops[j]? with
      | none => rw [hj] at ht; cases ht
      | some o => rw [hj] at ht; simpa using ht
    have hs := R.slots t
    have key : ∀ u : Value, a.tmps.getD t undef = u -> (a.tmps[t]? = some u \/ (a.tmps[t]? = none /\ u = undef)) := fun u hu => by
      cases hx : a.tmps[t]? with
      | none => right; exact ⟨rfl, by rw [<- hu]; simp [hx]⟩
      | some y => left; rw [<- hu]; simp [hx]
    split at h
    · rename_i c hc
      rw [hc] at hs
      cases h
      have hv : a.tmps.getD t undef = .bool c := YD hs
      rcases key _ hv with h | ⟨_, h⟩
      · simp [yielded, hd, h]
      · cases h
    · rename_i b' c hc
      rw [hc] at hs
      cases h
      cases b' with
      | true =>
        have hv : a.tmps.getD t undef = .bool c := YD (hs.1 rfl)
        rcases key _ hv with h | ⟨_, h⟩
        · simp [yielded, hd, h]
        · cases h
      | false =>
        have hv := hs.2 rfl
        rcases key _ hv with h | ⟨h, _⟩
        · simp [yielded, hd, h, undef]
        · simp [yielded, hd, h]
    · cases h
  · cases h
theorem O5 {H : Hp} {ρ : Operand -> AV} (h : ∃ c, o.op = .defer c) : nP P nid ρ H o = none := by
  obtain ⟨c, h⟩ := h
  obtain ⟨dst, op, type, pos, after, guard⟩ := o
  simp only at h
  subst h
  rfl
theorem wI {H : Hp} {ρ : Operand -> AV} {x : Prop × AV × Eff} (h : nP P nid ρ H o = some x) : ∀ c, o.op ≠ .defer c := fun c e => by
  rw [O5 ⟨c, e⟩] at h; cases h
theorem Aq {n : Nat} {ops : Array Oper} {K : AS -> Prop} {Q : Exit -> Act -> World -> Prop} (hQ : ∀ s' a' w', l5 w0 Z0 s' a' w' -> K s' -> Q .normal a' w') :
    ∀ (os : List Oper) (k : Nat) (s : AS) (a : Act) (w : World), ops.toList.drop k = os -> eD P (ops.toList.map (·.dst)) os s K -> l5 w0 Z0 s a w -> wpOpsIn (fo Z0.ro) n P ops Q (List.range' k os.length) a w
  | [], k, s, a, w, _, h, R => hQ _ _ _ R h
  | o :: os, k, s, a, w, hk, h, ⟨J, Z, R⟩ => by
    have ho : ops[k]? = some o := by
      have : (ops.toList.drop k)[0]? = some o := by rw [hk]; rfl
      rw [List.getElem?_drop] at this
      simpa using this
    have hk' : ops.toList.drop (k + 1) = os := by
      have := congrArg (List.drop 1) hk
      rw [List.drop_drop] at this
      simpa [Nat.add_comm] using this
    have ih := fun s a w => Aq (n := n) hQ os (k + 1) s a w hk'
    rw [List.length_cons, List.range'_succ, wpOpsIn_cons]
    refine wpOpIn_step ho fun K' hK' => ?_
    obtain ⟨hd, h⟩ := h
    have hnid := Ak s.heap
    split at h
    · rename_i hg
      have hw : Region.wanted o (yielded ops a.tmps) = true := by simp [Region.wanted, hg]
      rw [if_pos hw]
      split at h
      · rename_i nd v ef hop
        refine eZ (dM _) (wI hop) (rV (kX R hnid hop h.1) fun J' w' u R' hr => hK' _ _ (ih _ _ _ h.2 ⟨J', Z, R'.put (fun d e => ?_) hr⟩))
        rw [Co]; exact dz hd d e
      · exact jU R hd h fun s' a' w' R' h' => hK' _ _ (ih _ _ _ h' R')
    · rename_i j want hg
      split at h
      · rename_i b hb
        have hy := Ov R hb
        have hw : Region.wanted o (yielded ops a.tmps) = b := by simp only [Region.wanted, hg]; exact hy
        rw [hw]
        split at h
        · rename_i nd v hop
          cases b with
          | true =>
            rw [if_pos rfl]
            refine eZ (dM _) (wI hop) (rV (kX R hnid hop (h.1 rfl)) fun J' w' u R' hr => hK' _ _ (ih _ _ _ h.2 ⟨J', Z, R'.put (fun d e => dz hd d e) (wC hr)⟩))
          | false =>
            rw [if_neg (by simp)]
            refine ⟨fun f _ => (dM _).fn f, ?_⟩
            exact hK' _ _ (ih _ _ _ h.2 ⟨J, Z, R.put (dz hd) (tV _)⟩)
        · rename_i nd v ef hop
          cases b with
          | true =>
            rw [if_pos rfl]
            refine eZ (dM _) (wI hop) (rV (kX R hnid hop (h.1 rfl).1) fun J' w' u R' hr => hK' _ _ (ih _ _ _ (h.1 rfl).2 ⟨J', Z, R'.put (fun d e => ?_) hr⟩))
            rw [Co]; exact dz hd d e
          | false =>
            rw [if_neg (by simp)]
            refine ⟨fun f _ => (dM _).fn f, ?_⟩
            exact hK' _ _ (ih _ _ _ (h.2 rfl) ⟨J, Z, R.Ad⟩)
        · cases b with
          | true =>
            rw [if_pos rfl]
            exact J6 R hd h fun s' a' w' R' h' => hK' _ _ (ih _ _ _ h' R')
          | false =>
            rw [if_neg (by simp)]
            refine ⟨fun f _ => (dM _).fn f, ?_⟩
            exact F5 R hd h fun s' a' w' R' h' => hK' _ _ (ih _ _ _ h' R')
      · exact h.elim
end
end Go.Sea
