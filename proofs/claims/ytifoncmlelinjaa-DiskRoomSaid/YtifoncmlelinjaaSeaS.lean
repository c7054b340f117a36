/- A range over a function: the iterator is walked with the loop's frame waiting. -/
import Derived.Test.YtifoncmlelinjaaSeaR
set_option linter.unusedVariables false
set_option linter.unusedSimpArgs false
namespace Go.Sea
open Go.RowKit

def loopQ (l fid N : Nat) (lp : LP) (fn : Func) (Q : Exit → AS → Prop) (e : Exit) (s1 : AS) : Prop :=
  (match e with | .normal | .ret => True | _ => False) ∧ fn.results = #[] ∧ s1.lp.ls.tail = lp.ls ∧ match s1.lp.ls with
    | x :: _ => x.l = l ∧ x.st ≠ .busy ∧ match x.pe with
      | none => Q .normal (loopS fid N lp s1)
      | some .ret => Q .ret (loopS fid N lp s1)
      | some (.exit id) => Q (.exit id) (loopS fid N lp s1)
      | some (.goto id) => Q (.goto id) (loopS fid N lp s1)
      | _ => False
    | [] => False
/-- The function that is ranged over: its arguments in front of yield and behind it. -/
def iterF : AV → Option (FuncId × List LV)
  | .t (.one (.iv (.g (.func (.func k) A B)))) => if A.size = 0 ∧ B.size = 0 then some (k, []) else none
  | .t (.one (.fn (.func k) [] m)) => some (k, m)
  | _ => none
def yV (l : Nat) : TV := .one (.iv (.g (.func (.yield l) #[] #[])))
def yA (l : Nat) : Value := .func (.yield l) #[] #[]
def inLs (ls : List LS) (o : Option Nat) : Prop := match o with
  | some l => (lkL ls l).isSome = true
  | none => True
section
variable {P : Program}
theorem iter_eval {w0 : World} {Z0 : Fr} {J : Nat → Option Nat} {Z : Nat → Prop} {s : AS} {a : Act} {w : World} (R : Rel w0 Z0 J Z s a w) {g : Operand} {k : FuncId} {m : List LV} (h : iterF (s.ev g) = some (k, m)) : ∃ B, a.eval g = .func (.func k) #[] B ∧ All2 (LRel w J Z) B.toList m := by
  have hx := R.ev g
  generalize s.ev g = av at h hx
  generalize a.eval g = vx at hx ⊢
  unfold iterF at h
  split at h
  · split at h
    · rename_i k' A B hs
      cases h
      have hA : A = #[] := Array.eq_empty_of_size_eq_zero hs.1
      have hB : B = #[] := Array.eq_empty_of_size_eq_zero hs.2
      subst hA hB
      cases hx
      exact ⟨#[], rfl, trivial⟩
    · cases h
  · cases h
    obtain ⟨A, B, h1, h2, h3⟩ := hx
    have hA : A = #[] := by
      apply Array.ext'
      cases hA : A.toList with
      | nil => rfl
      | cons x l => rw [hA] at h2; exact h2.elim
    subst hA
    exact ⟨B, h1, h3⟩
  · cases h
theorem run_enterLoop_inner {w : World} (fn : FuncId) (tmps : Array Value) (ps : Array Tmp) (assign body : Code) {l : Nat} {r : Loop} (h : w.heap[l]? = some (.loop r)) :
    (Instr.enterLoop fn tmps ps assign body (some l)).run P w = .ok (w.heap.size, []) (w.alloc (.loop { state := .ready, pending := none, fn, tmps, params := ps, assign, body, defers := r.defers })) := by
  unfold Instr.enterLoop
  simp only [Sem.run_bind, run_getLoop h, run_newObj_alloc, Result.andThen, Sem.run_pure]
theorem alloc_keeps {w : World} (x : Obj) {b : Nat} {o : Obj} (h : w.heap[b]? = some o) : (w.alloc x).heap[b]? = some o := (Below.heap_alloc _ _ _ (Array.getElem?_eq_some_iff.1 h).1).trans h
/-- A block of the books is laid. -/
theorem Rel.book {w0 : World} {Z0 : Fr} {J : Nat → Option Nat} {Z : Nat → Prop} {s : AS} {a : Act} {w : World} (R : Rel w0 Z0 J Z s a w) (o : Obj) : Rel w0 Z0 J Z s a (w.alloc o) := by
  have G : Grow (fun _ => True) w J Z (w.alloc o) J Z := ⟨fun _ _ _ h => h, fun _ h => h, fun b _ h => Below.heap_alloc _ _ _ h.lt, fun _ _ _ _ c e f h => ⟨c, alloc_keeps _ h, rfl⟩, fun b o' h _ => alloc_keeps _ h⟩
  refine R.step G ((Below.refl _ _).alloc R.below.size _) R.zfrom (fun b h => by have := R.zlt b h; simp; omega) (fun i b h => by have := R.jlt i b h; refine ⟨this.1, by simp; omega, this.2.2⟩) R.inj rfl R.hole (fun i cs h hne => ?_) (fun t => Or.inr ⟨rfl, AV.ok_all _⟩) (fun f t => Or.inr ⟨rfl, AV.ok_all _⟩)
  obtain ⟨b, c, e, h1, h2, h3⟩ := R.cells i cs h hne
  exact ⟨b, c, e, h1, alloc_keeps _ h2, h3.mono fun _ y => CRel.grow G y.ok_all⟩
theorem AW_rangeFunc {s : AS} {Q : Exit → AS → Prop} {g : Operand} {ps : Array Tmp} {asg body c : Code} {k : FuncId} {m : List LV} {fn : Func} (hg : iterF (s.ev g) = some (k, m)) (hf : P.funcs[k]? = some fn) (hb : fn.body = some c) (hk : fnOk P k = true)
    (hl : m.length + 1 ≤ fn.ntmps) (hro : inLs s.lp.ls s.lp.ro) (hls : lsF s.lp.ls s.lp.fr)
    (h : ∀ l, (∀ x, x ∈ s.lp.ls → x.l ≠ l) → AW P c ⟨argEnv (yV l :: m.map LV.tv) 0, s.heap, fn.ntmps, (s.lp.fr, s.env) :: s.gh, ⟨⟨l, .ready, none, s.lp.fr, s.N, ps.toList, asg, body⟩ :: s.lp.ls, s.lp.fr + 1, none⟩⟩ (loopQ l s.lp.fr s.N s.lp fn Q)) :
    AW P (.rangeFunc g ps asg body) s Q := by
  intro w0 Z0 a w n ⟨J, Z, R⟩
  refine wpIn_rangeFunc fun fnid _ => ?_
  rw [fo_round]
  obtain ⟨l, mks, W, dd, he, hL, RC, hlo, hfr⟩ : ∃ (l : Nat) (mks : List Nat) (W : World) (dd : Nat), (Instr.enterLoop fnid a.tmps ps asg body Z0.ro).run P w = .ok (l, mks.map mark) W ∧
      W.heap[l]? = some (.loop { state := .ready, pending := none, fn := fnid, tmps := a.tmps, params := ps, assign := asg, body := body, defers := dd }) ∧
      Rel w0 Z0 J Z s { a with defers := mks.map mark ++ a.defers } W ∧ w0.heap.size ≤ l ∧ ∀ x, x ∈ s.lp.ls → x.l ≠ l := by
    have hlt : ∀ x, x ∈ s.lp.ls → x.l < w.heap.size := fun x hx => by
      obtain ⟨_, _, _, _, h1, _⟩ := R.loops x hx
      exact (Array.getElem?_eq_some_iff.1 h1).1
    have hlow := R.below.size
    rw [← R.ro]
    cases hr : s.lp.ro with
    | none =>
      refine ⟨w.heap.size + 1, [w.heap.size], _, w.heap.size, run_enterLoop_outer _ _ _ _ _, ?_, ?_, by omega, fun x hx => by have := hlt x hx; omega⟩
      · have := World.alloc_heap_new (w.alloc (.deferred (some []))) (.loop { state := .ready, pending := none, fn := fnid, tmps := a.tmps, params := ps, assign := asg, body := body, defers := w.heap.size })
        rwa [World.size_alloc] at this
      · have R2 := (R.book (.deferred (some []))).book (.loop { state := .ready, pending := none, fn := fnid, tmps := a.tmps, params := ps, assign := asg, body := body, defers := w.heap.size })
        obtain ⟨M, m1, m2, m3⟩ := R2.nodef
        have m3' : ∀ b, b ∈ M ++ Z0.pin → b < w.heap.size := by
          obtain ⟨M0, n1, n2, n3⟩ := R.nodef
          obtain rfl := marks_inj (m1.symm.trans n1)
          exact fun b hb => (Array.getElem?_eq_some_iff.1 (n3 b hb).2).1
        refine { R2 with nodef := ⟨w.heap.size :: M, by simp [m1], ?_, fun b hb => ?_⟩ }
        · rw [List.cons_append, List.nodup_cons]
          exact ⟨fun hm => by have := m3' _ hm; omega, m2⟩
        · rw [List.cons_append] at hb
          rcases List.mem_cons.1 hb with rfl | hb
          · exact ⟨hlow, alloc_keeps _ (World.alloc_heap_new w _)⟩
          · exact m3 b hb
    | some l0 =>
      rw [hr] at hro
      obtain ⟨x0, hx0⟩ := Option.isSome_iff_exists.1 hro
      obtain ⟨hm0, hl0⟩ := lkL_mem hx0
      obtain ⟨fn0, tmps0, dd0, _, g1, _⟩ := R.loops x0 hm0
      rw [hl0] at g1
      refine ⟨w.heap.size, [], _, dd0, run_enterLoop_inner _ _ _ _ _ g1, World.alloc_heap_new w _, R.book _, hlow, fun x hx => by have := hlt x hx; omega⟩
  obtain ⟨B, hgv, hB⟩ := iter_eval RC hg
  have hgv' : a.eval g = .func (.func k) #[] B := hgv
  refine ⟨l, mks.map mark, W, { target := .fn (.func k) B, args := #[yA l] }, W, k, #[yA l] ++ B, W, he, ?_, fun _ _ => (free_fo _).fn _, ?_, fun hx => (by rw [(free_fo _).depth] at hx; cases hx), (free_fo _).calls (callsIn_wide.1 (callsIn_of_wp_marks (F := Fence.wide) (n := 0) hf hb trivial ?_))⟩
  · simp only [resolve, hgv', yA]
    simp [go_sem]
  · have := run_callFunc (P := P) hk (#[yA l] ++ B) W
    simp [invoke, go_sem, this]
  obtain ⟨M, m1, m2, m3⟩ := RC.nodef
  have hlsf := lsF_mem hls
  let Z1 : Fr := ⟨Z0.z, fun f t => if f = s.lp.fr then a.tmps.getD t undef else Z0.g f t, none, M ++ Z0.pin⟩
  have ha : All2 (TRel W J Z) (#[yA l] ++ B).toList (yV l :: m.map LV.tv) := by
    simp only [Array.toList_append]
    exact ⟨Rd.g (yA l) rfl, All2.map_right.2 (hB.mono fun _ _ => LRel.tv)⟩
  have hlen := ha.length
  simp only [Array.length_toList, List.length_cons, List.length_map] at hlen
  have R1 : Rel w0 Z1 J Z ⟨argEnv (yV l :: m.map LV.tv) 0, s.heap, fn.ntmps, (s.lp.fr, s.env) :: s.gh, ⟨⟨l, .ready, none, s.lp.fr, s.N, ps.toList, asg, body⟩ :: s.lp.ls, s.lp.fr + 1, none⟩⟩ { tmps := (#[yA l] ++ B) ++ Array.replicate (fn.ntmps - (#[yA l] ++ B).size) undef, defers := [] } W := by
    refine ⟨⟨[], rfl, by simpa [Z1] using m2, fun b hb => m3 b (by simpa [Z1] using hb)⟩, ?_, RC.below, RC.zfrom, RC.zlt, RC.jlt, RC.inj, RC.hole, RC.cells, fun t => ?_, fun f t => ?_, fun y hy => ?_, ?_, rfl⟩
    · show _ = fn.ntmps
      simp only [Array.size_append, Array.size_replicate] at hlen ⊢; omega
    · simp only [AS.get, argEnv_lk, Nat.zero_le, if_true, Nat.sub_zero]
      cases hx : (yV l :: m.map LV.tv)[t]? with
      | none => simp; trivial
      | some x =>
        obtain ⟨u, hu, hr⟩ := ha.get hx
        have : ((#[yA l] ++ B) ++ Array.replicate (fn.ntmps - (#[yA l] ++ B).size) undef).getD t undef = u := by
          rw [Array.getElem?_toList] at hu
          have hlt : t < (#[yA l] ++ B).size := (Array.getElem?_eq_some_iff.1 hu).1
          simp only [Array.getD_eq_getD_getElem?, Array.getElem?_append_left hlt, hu, Option.getD_some]
        rw [this]
        exact hr
    · rw [gk_push]
      by_cases hf : f = s.lp.fr
      · simp only [Z1, if_pos hf]; exact RC.slots t
      · simp only [Z1, if_neg hf]; exact RC.ghost f t
    · rcases List.mem_cons.1 hy with rfl | hy
      · refine ⟨fnid, a.tmps, dd, hlo, ?_, RC.size, fun t => by simp only [Z1, if_true]⟩
        simpa [LS.loop] using hL
      · obtain ⟨fn', tmps', dd', k0, k1, k2, k3⟩ := RC.loops y hy
        refine ⟨fn', tmps', dd', k0, k1, k2, fun t => ?_⟩
        simp only [Z1, if_neg (hlsf y hy)]; exact k3 t
    · simp only [List.map_cons, List.nodup_cons]
      refine ⟨fun hm => ?_, RC.lnd⟩
      obtain ⟨x, hx, hx2⟩ := List.mem_map.1 hm
      exact hfr x hx hx2
  refine wpIn_mono (h l hfr w0 Z1 _ W 0 ⟨J, Z, R1⟩) fun e a1 w1 ⟨s1, R2, q⟩ => ?_
  obtain ⟨J1, Y1, R2⟩ := R2
  obtain ⟨he1, hres, htl, q⟩ := q
  have fin : LeavesInM Fence.wide 0 P fn a1.tmps (rangePost (fo Z0.ro) n P l (fun e a' w' => ∃ s', Rep w0 Z0 s' a' w' ∧ Q e s') { a with defers := mks.map mark ++ a.defers }) a1.defers .returning w1 := by
    obtain ⟨M', m1', _⟩ := R2.nodef
    refine R2.leaves M' m1' fun a2 w2 R3 h2 h3 => ?_
    refine ⟨.tuple #[], by simp [results, hres], ?_⟩
    cases hs1 : s1.lp.ls with
    | nil => rw [hs1] at q; exact q.elim
    | cons x r =>
      rw [hs1] at q htl
      obtain ⟨hxl, hst, q⟩ := q
      obtain ⟨fn1, tmps1, dd1, k0, k1, k2, k3⟩ := R3.loops x (by rw [hs1]; simp)
      rw [hxl] at k0 k1
      have hnd := R3.lnd
      rw [hs1] at hnd
      simp only [List.map_cons, List.nodup_cons] at hnd
      simp only [List.tail_cons] at htl
      have G : Grow4 (fun _ => True) w2 J1 Y1 (w2.putObj l (.loop { x.loop fn1 tmps1 dd1 with state := .exhausted })) J1 Y1 := g4_turn k1 rfl
      have R5 : Rel w0 Z0 J1 Y1 (loopS s.lp.fr s.N s.lp s1) { a with defers := mks.map mark ++ a.defers } (w2.putObj l (.loop { x.loop fn1 tmps1 dd1 with state := .exhausted })) := by
        refine ⟨⟨M, m1, m2, fun b hb => ?_⟩, RC.size, R3.below.trans (below_turn k1 k0), R3.zfrom, fun c h => by rw [World.putObj_size]; exact R3.zlt c h, fun i c h => by rw [World.putObj_size]; exact R3.jlt i c h, R3.inj, R3.hole, fun i cs h hne => ?_, fun t => ?_, fun f t => ?_, fun y hy => ?_, RC.lnd, RC.ro⟩
        · obtain ⟨M4, _, _, n3⟩ := R3.nodef
          have := n3 b (List.mem_append_right _ hb)
          refine ⟨this.1, (World.putObj_heap_other (fun e => ?_)).trans this.2⟩
          subst e; have := this.2; rw [k1] at this; cases this
        · obtain ⟨c, x, e, h1, h2, h3⟩ := R3.cells i cs h hne
          refine ⟨c, x, e, h1, (World.putObj_heap_other (fun e' => ?_)).trans h2, h3.mono fun _ y => CRel.grow4 G (CV.ok_all _)⟩
          subst e'; rw [k1] at h2; cases h2
        · have := R3.ghost s.lp.fr t
          simp only [Z1, if_true] at this
          exact ARel.grow4 G (AV.ok_all _) this
        · show ARel _ J1 Y1 _ (gk (gdrop s1.gh s.lp.fr) f t)
          rw [gk_drop]
          by_cases hf : f = s.lp.fr
          · rw [if_pos hf]; trivial
          · rw [if_neg hf]
            have := R3.ghost f t
            simp only [Z1, if_neg hf] at this
            exact ARel.grow4 G (AV.ok_all _) this
        · have hy' : y ∈ s.lp.ls := hy
          obtain ⟨fn', tmps', dd', p0, p1, p2, p3⟩ := R3.loops y (by rw [hs1, htl]; exact List.mem_cons_of_mem _ hy')
          refine ⟨fn', tmps', dd', p0, (World.putObj_heap_other (hfr y hy')).trans p1, p2, fun t => ?_⟩
          have := p3 t
          simpa only [Z1, if_neg (hlsf y hy')] using this
      have hend : (Instr.endLoop l).run P w2 = .ok x.pe (w2.putObj l (.loop { x.loop fn1 tmps1 dd1 with state := .exhausted })) := run_endLoop (P := P) k1 hst
      generalize hw4 : w2.putObj l (.loop { x.loop fn1 tmps1 dd1 with state := .exhausted }) = w4 at R5 hend
      refine ⟨_, w4, hend, ?_⟩
      clear hw4 hend G
      cases hpx : x.pe with
      | none => rw [hpx] at q; exact ⟨_, ⟨_, _, R5⟩, q⟩
      | some j =>
        rw [hpx] at q
        cases j <;> first | exact q.elim | exact wpIn_ret ⟨_, ⟨_, _, R5⟩, q⟩ | exact wpIn_exit ⟨_, ⟨_, _, R5⟩, q⟩ | exact wpIn_goto ⟨_, ⟨_, _, R5⟩, q⟩
  cases e <;> simp at he1 <;> exact fin
end
end Go.Sea
