/- A region in the text's order tells what the model does. -/
import Derived.Test.YtifoncmlelinjaaSeaG
set_option linter.unusedVariables false
set_option linter.unusedSimpArgs false
namespace Go.Sea
open Go.RowKit
/-- A fence that lets every function by. -/
def Free (F : Fence) : Prop := F = Fence.wide ∨ ∃ l, F = Fence.wide.inRound l
theorem Free.fn {F : Fence} (h : Free F) (f : FuncId) : F.fn f := by
  rcases h with rfl | ⟨l, rfl⟩ <;> trivial
theorem Free.depth {F : Fence} (h : Free F) : F.depth = none := by
  rcases h with rfl | ⟨l, rfl⟩ <;> rfl
theorem Free.calls {F : Fence} (h : Free F) {n : Nat} {P : Program} {f : FuncId} {args : Array Value} {w : World} {R : Ending → World → Prop} (hc : Calls P f args w R) : CallsIn F n P f args w R := by
  rcases h with rfl | ⟨l, rfl⟩
  · exact callsIn_wide.2 hc
  · exact CallsIn.inRound l (callsIn_wide.2 hc)
theorem Free.wide : Free Fence.wide := Or.inl rfl
theorem Free.round (l : Nat) : Free (Fence.wide.inRound l) := Or.inr ⟨l, rfl⟩

section
variable {P : Program} {ops : Array Oper} {Q : Exit → Act → World → Prop} {md : Region.Mode} {F : Fence} {n : Nat}
theorem Free.rows {F : Fence} (h : Free F) {row : String} {args : Array Value} {w : World} {R : Value → World → Prop} (hc : Rows P row args w R) : RowsIn F n P row args w R := by
  have hw : RowsIn Fence.wide n P row args w R := fun c cs _ => let ⟨v, w', r, s⟩ := hc c cs; ⟨v, w', r, stepsIn_wide.2 s⟩
  rcases h with rfl | ⟨l, rfl⟩
  · exact hw
  · exact hw
theorem opIn_of_wp (hF : Free F) {o : Oper} (hd : ∀ c, o.op ≠ .defer c) {a : Act} {w : World} {K : Act → World → Prop} (h : o.wp P a w K Q) : o.wpIn F n P a w K Q := by
  refine ⟨fun f _ => hF.fn f, ?_⟩
  rw [Oper.semAt_eq _ _ _ hd]
  unfold Oper.wp at h
  generalize (execOp a.eval o).run P w = r at *
  cases r with
  | ok x w' =>
    cases x <;> simp only [Oper.upon, Oper.uponIn] at h ⊢ <;> first | exact h | exact ⟨fun hx => (by rw [hF.depth] at hx; cases hx), CallsIn.mono (hF.calls h) (fun e w'' he => by cases e <;> exact he)⟩ | exact ⟨fun hx => (by rw [hF.depth] at hx; cases hx), Free.rows (n := n - 1) hF h⟩
  | halt x w' => cases x <;> simp only [Oper.upon, Oper.uponIn] at h ⊢ <;> exact h
end
theorem free_fo (ro : Option Nat) : Free (fo ro) := by
  cases ro with
  | none => exact Free.wide
  | some l => exact Free.round l
theorem fo_round (ro : Option Nat) : (fo ro).round = ro := by cases ro <;> rfl
theorem fo_inRound (ro : Option Nat) (l : Nat) : (fo ro).inRound l = fo (some l) := by cases ro <;> rfl

theorem gk_push (gh : List (Nat × List (Nat × AV))) (k : Nat) (e : List (Nat × AV)) (f t : Nat) : gk ((k, e) :: gh) f t = if f = k then lk e t else gk gh f t := by
  simp only [gk, gf]
  split <;> rfl
theorem gk_drop (k f t : Nat) : ∀ gh : List (Nat × List (Nat × AV)), gk (gdrop gh k) f t = if f = k then .any else gk gh f t
  | [] => by simp [gdrop, gk, gf, lk]
  | (q, e) :: r => by
    simp only [gdrop]
    by_cases hq : q = k
    · rw [if_pos hq, gk_drop k f t r]
      by_cases hf : f = k
      · rw [if_pos hf, if_pos hf]
      · rw [if_neg hf, if_neg hf, gk_push, if_neg (by omega)]
    · rw [if_neg hq, gk_push]
      by_cases hf : f = k
      · rw [if_pos hf, if_neg (by omega), gk_drop k f t r, if_pos hf]
      · rw [if_neg hf, gk_drop k f t r, if_neg hf, gk_push]
theorem lkL_mem : ∀ {ls : List LS} {l : Nat} {x : LS}, lkL ls l = some x → x ∈ ls ∧ x.l = l
  | [], _, _, h => by cases h
  | y :: r, l, x, h => by
    simp only [lkL] at h
    split at h
    · rename_i e; cases h; exact ⟨by simp, e⟩
    · have := lkL_mem h; exact ⟨by simp [this.1], this.2⟩
theorem setL_map (l : Nat) (st : LoopState) (pe : Option Code) : ∀ ls : List LS, (setL ls l st pe).map LS.l = ls.map LS.l
  | [] => rfl
  | x :: r => by
    simp only [setL]
    split
    · rfl
    · simp [setL_map l st pe r]
/-- Who stands in the list behind the change: the loop itself, changed; or another one. -/
theorem setL_mem {l : Nat} {st : LoopState} {pe : Option Code} : ∀ {ls : List LS}, (ls.map LS.l).Nodup → ∀ {y : LS}, y ∈ setL ls l st pe → (y ∈ ls ∧ y.l ≠ l) ∨ ∃ x, lkL ls l = some x ∧ y = { x with st := st, pe := pe }
  | [], _, y, h => by cases h
  | x :: r, hn, y, h => by
    simp only [List.map_cons, List.nodup_cons] at hn
    simp only [setL] at h
    simp only [lkL]
    split at h
    · rename_i e
      rcases List.mem_cons.1 h with rfl | h
      · exact Or.inr ⟨x, by rw [if_pos e], rfl⟩
      · exact Or.inl ⟨by simp [h], fun e' => hn.1 (by rw [e, ← e']; exact List.mem_map_of_mem h)⟩
    · rename_i e
      rcases List.mem_cons.1 h with rfl | h
      · exact Or.inl ⟨by simp, e⟩
      · rcases setL_mem hn.2 h with ⟨h1, h2⟩ | ⟨z, h1, h2⟩
        · exact Or.inl ⟨by simp [h1], h2⟩
        · exact Or.inr ⟨z, by rw [if_neg e]; exact h1, h2⟩
theorem lsF_mem {f : Nat} : ∀ {ls : List LS}, lsF ls f → ∀ x, x ∈ ls → x.fid ≠ f
  | [], _, x, h => by cases h
  | y :: r, ⟨h1, h2⟩, x, h => by
    rcases List.mem_cons.1 h with rfl | h
    · exact h1
    · exact lsF_mem h2 x h
theorem ltAll_mem {n : Nat} : ∀ {ts : List Nat}, ltAll ts n → ∀ t, t ∈ ts → t < n
  | [], _, t, h => by cases h
  | y :: r, ⟨h1, h2⟩, t, h => by
    rcases List.mem_cons.1 h with rfl | h
    · exact h1
    · exact ltAll_mem h2 t h

section
variable {w0 : World} {Z0 : Fr} {J J' : Nat → Option Nat} {Z Z' : Nat → Prop} {s s' : AS} {a : Act} {w w' : World} {P : Program} {o : Oper} {nid : Nat} {v : AV} {ef : Eff}
theorem hget_ge : ∀ (h : List (Option (List CV))) (n : Nat), h.length ≤ n → hget h n = none := by
  intro h n hn
  simp [hget, List.getElem?_eq_none hn]
theorem dstOk_spec {d : Option Nat} (h : dstOk s d) : ∀ k, d = some k → k < s.N := by
  rintro k rfl; exact h
theorem eff_N (s : AS) (n : Nat) (e : Eff) : (s.eff n e).N = s.N := by cases e <;> rfl

theorem args_rel (R : Rel w0 Z0 J Z s a w) : ∀ {l : List Operand} {nd : Prop} {ps : List PT} {own : Bool}, argsF s.ev (hget s.heap) l = some (nd, ps, own) → nd → All2 (PTRel w (if own then OwnZ J Z else Z)) (l.map a.eval) ps
  | [], _, _, _, h, _ => by simp only [argsF, Option.some.injEq, Prod.mk.injEq] at h; obtain ⟨rfl, rfl, rfl⟩ := h; trivial
  | x :: l, _, _, _, h, hn => by
    unfold argsF at h
    split at h
    · rename_i n1 y b1 n2 l' b2 h1 h2
      simp only [Option.some.injEq, Prod.mk.injEq] at h
      obtain ⟨rfl, rfl, rfl⟩ := h
      obtain ⟨t, ht, hu⟩ := tv_of_bind h1
      exact ⟨PTRel.zmono (fun k => (ifz k).1) (toPT_rel R (ARel.tv (R.ev x) ht hn.1) hu hn.2.1), (args_rel R h2 hn.2.2).mono fun _ _ hr => PTRel.zmono (fun k => (ifz k).2) hr⟩
    · cases h
theorem tvs_rel (R : Rel w0 Z0 J Z s a w) : ∀ {l : List Operand} {nd : Prop} {ps : List TV}, tvsF s.ev l = some (nd, ps) → nd → All2 (TRel w J Z) (l.map a.eval) ps
  | [], _, _, h, _ => by simp only [tvsF, Option.some.injEq, Prod.mk.injEq] at h; obtain ⟨rfl, rfl⟩ := h; trivial
  | x :: l, _, _, h, hn => by
    unfold tvsF at h
    split at h
    · rename_i y n2 l' h1 h2
      simp only [Option.some.injEq, Prod.mk.injEq] at h
      obtain ⟨rfl, rfl⟩ := h
      exact ⟨ARel.tv (R.ev x) h1 hn.1, tvs_rel R h2 hn.2⟩
    · cases h
theorem LRel.tv {v : Value} {l : LV} (h : LRel w J Z v l) : TRel w J Z v l.tv := by cases l <;> exact h
theorem run_callFunc {k : FuncId} (h : fnOk P k = true) (args : Array Value) (w : World) : (callFunc k args).run P w = .ok (.enter k args) w := by
  unfold fnOk at h
  split at h
  · rename_i fn hf
    simp only [Bool.and_eq_true, bne_iff_ne] at h
    cases hb : fn.body with
    | none => rw [hb] at h; cases h.2
    | some c => simp [callFunc, hf, h.1, hb]
  · cases h

/-- A call by value gives a state again. -/
theorem call_rep (R : Rel w0 Z0 J Z s a w) {k : FuncId} {args : Array Operand} {nd : Prop} {ps : List PT} {own : Bool} {r : PV} (h : argsF s.ev (hget s.heap) args.toList = some (nd, ps, own)) (hn : nd) (hc : CallsP P k ps r) (hf : own = true → r.flat = true) :
    Calls P k (args.map a.eval) w fun e w' => ∃ v Z', e = .returned v ∧ Rel w0 Z0 J Z' s a w' ∧ ARel w' J Z' v r.av := by
  have ha := args_rel R h hn
  rw [← Array.toList_map] at ha
  refine (hc w _ _ (fun b hb => ?_) ha).mono fun e w' ⟨v, he, hbel, hr⟩ => ?_
  · cases own with
    | false => exact R.zlt b hb
    | true =>
      rcases hb with hb | ⟨i, hb⟩
      · exact R.zlt b hb
      · exact (R.jlt i b hb).2.1
  · obtain ⟨R', _⟩ := R.call hbel
    refine ⟨v, _, he, R', PRel.av ?_⟩
    cases own with
    | false => exact hr
    | true => exact PRel.flat hr (hf rfl)

theorem gv_eval (R : Rel w0 Z0 J Z s a w) {x : Operand} {u : Value} (h : gv (s.ev x) = some u) : a.eval x = u := by
  have hx := R.ev x
  generalize s.ev x = av at h hx
  generalize a.eval x = vx at hx ⊢
  unfold gv at h
  split at h
  · simp only [Option.some.injEq] at h
    subst h
    cases hx; rfl
  · rename_i cs
    split at h
    · rename_i hall
      simp only [Option.some.injEq] at h
      subst h
      obtain ⟨A, hA, hr⟩ := hx
      rw [hA]
      congr 1
      apply Array.ext'
      simp only
      clear hA
      generalize A.toList = l at hr
      induction cs generalizing l with
      | nil => cases l with
        | nil => rfl
        | cons _ _ => exact hr.elim
      | cons c cs ih =>
        cases l with
        | nil => exact hr.elim
        | cons x l =>
          simp only [List.all_cons, Bool.and_eq_true] at hall
          rw [List.map_cons, ← ih hall.2 l hr.2]
          congr 1
          cases c with
          | iv c =>
            cases c with
            | g u => cases hr.1; rfl
            | lst => simp at hall
            | ptr => simp at hall
          | _ => simp at hall
    · cases h
  · cases h

theorem upon_call {K : Act → World → Prop} {Q : Exit → Act → World → Prop} {k : FuncId} {args : Array Value} (hrun : (execOp a.eval o).run P w = .ok (.enter k args) w) (h : Calls P k args w fun e w' => ∃ v, e = .returned v ∧ K (a.put o.dst v) w') : o.wp P a w K Q := by
  unfold Oper.wp
  rw [hrun]
  refine Calls.mono h fun e w' ⟨v, he, hk⟩ => ?_
  subst he
  exact hk
theorem exec_call {f : Operand} {args : Array Operand} {tys : Array TypeId} (ho : o.op = .call ⟨.value f, args, tys⟩) {k : FuncId} {A B : Array Value} (hf : a.eval f = .func (.func k) A B) (hk : fnOk P k = true) : (execOp a.eval o).run P w = .ok (.enter k (A ++ args.map a.eval ++ B)) w := by
  simp [execOp, ho, resolve, hf, Deferred.ofValue, invoke, run_callFunc hk]

theorem callee_tv (R : Rel w0 Z0 J Z s a w) {f : Operand} {c : Cle} (h : calleeF (s.ev f) = c) (hc : c ≠ .no) : ∃ x, TRel w J Z (a.eval f) x ∧ calleeT x = c := by
  have hx := R.ev f
  generalize s.ev f = av at h hx
  unfold calleeF at h
  split at h
  · exact ⟨_, hx, h⟩
  · exact ⟨_, hx.1 rfl, h⟩
  · exact absurd h.symm hc
theorem callee_pure (R : Rel w0 Z0 J Z s a w) {f : Operand} {k : FuncId} (h : calleeF (s.ev f) = .pure k) : a.eval f = .func (.func k) #[] #[] := by
  obtain ⟨av, hx, h⟩ := callee_tv R h (by simp)
  generalize a.eval f = vx at hx ⊢
  unfold calleeT at h
  split at h
  · split at h
    · rename_i k' A B hs
      cases h
      have hA : A = #[] := Array.eq_empty_of_size_eq_zero hs.1
      have hB : B = #[] := Array.eq_empty_of_size_eq_zero hs.2
      subst hA hB
      cases hx; rfl
    · cases h
  · split at h <;> cases h
  · cases h
  · cases h
theorem callee_clo (R : Rel w0 Z0 J Z s a w) {f : Operand} {k : FuncId} {l m : List LV} (h : calleeF (s.ev f) = .clo k l m) : ∃ A B, a.eval f = .func (.func k) A B ∧ All2 (LRel w J Z) A.toList l ∧ All2 (LRel w J Z) B.toList m := by
  obtain ⟨av, hx, h⟩ := callee_tv R h (by simp)
  unfold calleeT at h
  split at h
  · split at h <;> cases h
  · split at h <;> cases h
  · cases h
    exact hx
  · cases h
theorem callee_yld (R : Rel w0 Z0 J Z s a w) {f : Operand} {l : Nat} (h : calleeF (s.ev f) = .yld l) : a.eval f = .func (.yield l) #[] #[] := by
  obtain ⟨av, hx, h⟩ := callee_tv R h (by simp)
  generalize a.eval f = vx at hx ⊢
  unfold calleeT at h
  split at h
  · split at h <;> cases h
  · split at h
    · rename_i k' A B hs
      cases h
      have hA : A = #[] := Array.eq_empty_of_size_eq_zero hs.1
      have hB : B = #[] := Array.eq_empty_of_size_eq_zero hs.2
      subst hA hB
      cases hx; rfl
    · cases h
  · cases h
  · cases h
/-- A block of the books turns. -/
theorem g4_turn {b : Nat} {o o' : Obj} (hb : w.heap[b]? = some o) (ho : o.isCells = false) : Grow4 (fun _ => True) w J Z (w.putObj b o') J Z := by
  have hne : ∀ b', IsCells w b' → b' ≠ b := fun b' ⟨c, e, f, h⟩ e' => by subst e'; rw [hb] at h; cases h; cases ho
  exact ⟨fun _ _ _ h => h, fun _ h => h, fun b' _ h => World.putObj_heap_other (hne b' h), fun i b' _ _ c e f h => ⟨c, (World.putObj_heap_other (hne b' ⟨c, e, f, h⟩)).trans h, rfl⟩⟩
theorem below_turn {n0 b : Nat} {o o' : Obj} (hb : w.heap[b]? = some o) (hl : n0 ≤ b) : Below n0 w (w.putObj b o') :=
  (Below.refl n0 w).grown (grownBy_putObj' w b o') (by have := (Array.getElem?_eq_some_iff.1 hb).1; omega) (fun k e => by cases e; omega)
theorem Rel.turn (R : Rel w0 Z0 J Z s a w) {b : Nat} {o o' : Obj} {D : List Deferred} {ls : List LS} (hb : w.heap[b]? = some o) (ho : o.isCells = false) (hl : w0.heap.size ≤ b)
    (hD : ∃ M : List Nat, D = M.map mark ∧ (M ++ Z0.pin).Nodup ∧ ∀ c, c ∈ M ++ Z0.pin → w0.heap.size ≤ c ∧ (w.putObj b o').heap[c]? = some (.deferred (some [])))
    (hL : ∀ x, x ∈ ls → ∃ fn tmps dd, w0.heap.size ≤ x.l ∧ (w.putObj b o').heap[x.l]? = some (.loop (x.loop fn tmps dd)) ∧ tmps.size = x.N ∧ ∀ t, tmps.getD t undef = Z0.g x.fid t) (hn : (ls.map LS.l).Nodup) :
    Rel w0 Z0 J Z { s with lp := ⟨ls, s.lp.fr, s.lp.ro⟩ } { a with defers := D } (w.putObj b o') := by
  have G : Grow4 (fun _ => True) w J Z (w.putObj b o') J Z := g4_turn hb ho
  refine ⟨hD, R.size, R.below.trans (below_turn hb hl), R.zfrom, fun c h => by rw [World.putObj_size]; exact R.zlt c h, fun i c h => by rw [World.putObj_size]; exact R.jlt i c h, R.inj, R.hole, fun i cs h hne => ?_, fun t => ARel.grow4 G (AV.ok_all _) (R.slots t), fun f t => ARel.grow4 G (AV.ok_all _) (R.ghost f t), hL, hn, R.ro⟩
  obtain ⟨c, x, e, h1, h2, h3⟩ := R.cells i cs h hne
  refine ⟨c, x, e, h1, (World.putObj_heap_other (fun e' => ?_)).trans h2, h3.mono fun _ y => CRel.grow4 G (CV.ok_all _)⟩
  subst e'; rw [hb] at h2; cases h2; cases ho
theorem zip_rel : ∀ {ps : List Nat} {vs : List Value} {tvs : List TV} {tmps : Array Value} {env : List (Nat × AV)}, ps.length = tvs.length → All2 (TRel w J Z) vs tvs → ltAll ps tmps.size → (∀ t, ARel w J Z (tmps.getD t undef) (lk env t)) →
    ((ps.zip vs).foldl (fun (tmps : Array Value) (p : Nat × Value) => tmps.setIfInBounds p.1 p.2) tmps).size = tmps.size ∧ ∀ t, ARel w J Z (((ps.zip vs).foldl (fun (tmps : Array Value) (p : Nat × Value) => tmps.setIfInBounds p.1 p.2) tmps).getD t undef) (lk (zipPut ps tvs env) t)
  | [], [], [], _, _, _, _, _, h => ⟨rfl, h⟩
  | [], _ :: _, _ :: _, _, _, hl, _, _, _ => by simp at hl
  | _ :: _, [], [], _, _, hl, _, _, _ => by simp at hl
  | p :: ps, v :: vs, x :: tvs, tmps, env, hl, ⟨h1, h2⟩, ⟨g1, g2⟩, h => by
    simp only [List.zip_cons_cons, List.foldl_cons, zipPut]
    have := zip_rel (ps := ps) (vs := vs) (tvs := tvs) (tmps := tmps.setIfInBounds p v) (env := (p, .t x) :: env) (by simpa using hl) h2 (by simpa using g2) (fun t => ?_)
    · simpa using this
    · simp only [lk]
      by_cases e : t = p
      · subst e; simp [g1]; exact h1
      · rw [if_neg e]
        have := h t
        simpa [Array.getElem?_setIfInBounds_ne (Ne.symm e)] using this
theorem argEnv_lk : ∀ (l : List TV) (k t : Nat), lk (argEnv l k) t = if k ≤ t then ((l[t - k]?).map AV.t).getD .any else .any
  | [], k, t => by simp [argEnv, lk]
  | v :: l, k, t => by
    simp only [argEnv, lk]
    by_cases h : t = k
    · subst h; simp
    · rw [if_neg h, argEnv_lk l (k + 1) t]
      by_cases h2 : k ≤ t
      · rw [if_pos h2, if_pos (by omega), show t - k = (t - (k + 1)) + 1 by omega, List.getElem?_cons_succ]
      · rw [if_neg h2, if_neg (by omega)]
def resOne (tmps : Array Value) : ResultVar → Sem Value
  | .tmp t => pure (tmps.getD t undef)
  | .cell x t => do loadVar t (← asAddr (tmps.getD x undef))
theorem results_eq (fn : Func) (tmps : Array Value) : results fn tmps = (do let vs ← fn.results.mapM (resOne tmps); pure (if h : vs.size = 1 then vs[0] else .tuple vs)) := by
  unfold results
  congr 2
theorem run_results (R : Rel w0 Z0 J Z s a w) : ∀ {l : List ResultVar} {nd : Prop} {m : List TV}, resF P s l = some (nd, m) → nd →
    ∃ vs : List Value, (l.mapM (resOne a.tmps)).run P w = .ok vs w ∧ All2 (TRel w J Z) vs m
  | [], _, _, h, _ => by simp only [resF, Option.some.injEq, Prod.mk.injEq] at h; obtain ⟨rfl, rfl⟩ := h; exact ⟨[], rfl, trivial⟩
  | .tmp t :: r, _, _, h, hn => by
    unfold resF at h
    split at h
    · rename_i v nd' l' h1 h2
      simp only [Option.some.injEq, Prod.mk.injEq] at h
      obtain ⟨rfl, rfl⟩ := h
      obtain ⟨vs, hvs, hr⟩ := run_results R h2 hn.2
      refine ⟨a.tmps.getD t undef :: vs, ?_, ARel.tv (R.slots t) h1 hn.1, hr⟩
      rw [List.mapM_cons]
      simp only [Sem.run_bind, resOne, Sem.run_pure, Result.andThen_ok, hvs]
    · cases h
  | .cell x t :: r, _, _, h, hn => by
    unfold resF at h
    split at h
    · rename_i v ag n h1 ht
      split at h
      · rename_i n1 y nd' l' h2 h3
        simp only [Option.some.injEq, Prod.mk.injEq] at h
        obtain ⟨rfl, rfl⟩ := h
        obtain ⟨vs, hvs, hr⟩ := run_results R h3 hn.2.2
        have hx := ARel.tv (R.slots x) h1 hn.1
        obtain ⟨u, hu, hur⟩ := run_load (P := P) R ht hx h2 hn.2.1
        refine ⟨u :: vs, ?_, hur, hr⟩
        have hptr : ∃ ad, a.tmps.getD x undef = .pointer (some ad) := by
          generalize a.tmps.getD x undef = vx at hx ⊢
          unfold loadF at h2
          split at h2
          · obtain ⟨b, off, X, rfl, _⟩ := hx; exact ⟨_, rfl⟩
          · obtain ⟨b, rfl, _⟩ := hx; exact ⟨_, rfl⟩
          · cases h2
        obtain ⟨ad, hp⟩ := hptr
        rw [hp] at hu
        have hu' : (loadVar t ad).run P w = .ok u w := by simpa [Instr.loadAt, Instr.sureAddr] using hu
        have has : (asAddr (.pointer (some ad))).run P w = .ok ad w := rfl
        rw [List.mapM_cons]
        have hone : (resOne a.tmps (.cell x t)).run P w = .ok u w := by
          show ((asAddr (a.tmps.getD x undef)) >>= fun y => loadVar t y).run P w = _
          rw [Sem.run_bind, hp, has]; exact hu'
        simp only [Sem.run_bind, hone, Sem.run_pure, Result.andThen_ok, hvs]
      · cases h
    · cases h
theorem tupA_rel {w : World} {J : Nat → Option Nat} {Z : Nat → Prop} {vs : List Value} {l : List TV} (hr : All2 (TRel w J Z) vs l) : ARel w J Z (if h : vs.toArray.size = 1 then vs.toArray[0] else .tuple vs.toArray) (tupA l) := by
  rcases l with _ | ⟨v1, _ | ⟨v2, l⟩⟩ <;> rcases vs with _ | ⟨u1, _ | ⟨u2, vs⟩⟩ <;> first | exact hr.elim | exact hr.2.elim | skip
  · exact ⟨_, rfl, hr⟩
  · exact hr.1
  · exact ⟨_, rfl, hr⟩
theorem mark_inj {a b : Nat} (h : mark a = mark b) : a = b := by
  simp only [mark, Deferred.mk.injEq, Target.collected.injEq, and_true] at h
  exact h
theorem marks_inj : ∀ {M N : List Nat}, M.map mark = N.map mark → M = N
  | [], [], _ => rfl
  | [], _ :: _, h => by cases h
  | _ :: _, [], h => by cases h
  | a :: M, b :: N, h => by
    simp only [List.map_cons, List.cons.injEq] at h
    rw [mark_inj h.1, marks_inj h.2]
/-- A frame on its way out shuts its marks' blocks. -/
theorem Rel.leaves {F : Fence} {n : Nat} {fn : Func} {R0 : Ending → World → Prop} {w0 : World} {Z0 : Fr} {J : Nat → Option Nat} {Z : Nat → Prop} : ∀ (M : List Nat) {a : Act} {w : World}, Rel w0 Z0 J Z s a w → a.defers = M.map mark →
    (∀ a' w', Rel w0 Z0 J Z s a' w' → a'.tmps = a.tmps → a'.defers = [] → LeavesIn F n P fn a.tmps R0 [] .returning w') → LeavesInM F n P fn a.tmps R0 a.defers .returning w
  | [], a, w, R, hd, h => by
    rw [hd]
    exact h a w R rfl hd
  | b :: M, a, w, R, hd, h => by
    rw [hd, List.map_cons]
    refine ⟨by simp, Or.inl ⟨b, w.putObj b (.deferred none), rfl, ?_, ?_⟩⟩
    · obtain ⟨M', m1, m2, m3⟩ := R.nodef
      obtain rfl := marks_inj (hd.symm.trans m1)
      exact run_takeDeferred (m3 b (by simp)).2
    · obtain ⟨M', m1, m2, m3⟩ := R.nodef
      obtain rfl := marks_inj (hd.symm.trans m1)
      have hb := (m3 b (by simp)).2
      have hM : ∀ c, c ∈ M ++ Z0.pin → c ≠ b := fun c hc e => by
        subst e
        rw [List.cons_append, List.nodup_cons] at m2
        exact m2.1 hc
      have R' := R.turn (o' := .deferred none) (D := M.map mark) (ls := s.lp.ls) hb rfl (m3 b (by simp)).1
        ⟨M, rfl, by rw [List.cons_append, List.nodup_cons] at m2; exact m2.2, fun c hc => ⟨(m3 c (by rw [List.cons_append]; exact List.mem_cons_of_mem _ hc)).1, (World.putObj_heap_other (hM c hc)).trans (m3 c (by rw [List.cons_append]; exact List.mem_cons_of_mem _ hc)).2⟩⟩
        (fun x hx => by
          obtain ⟨fn', tmps, dd, h1, h2, h3, h4⟩ := R.loops x hx
          refine ⟨fn', tmps, dd, h1, (World.putObj_heap_other (fun e => ?_)).trans h2, h3, h4⟩
          rw [e, hb] at h2; cases h2) R.lnd
      exact Rel.leaves M (a := { a with defers := M.map mark }) R' rfl fun a' w' R'' h1 h2 => h a' w' R'' h1 h2
section
variable {P : Program}
theorem inl_sound (R : Rel w0 Z0 J Z s a w) {k : FuncId} {fn : Func} {c : Code} {args : List TV} {vs : Array Value} {d : Option Nat} {K : AS → Prop} {K2 : Act → World → Prop} (ha : All2 (TRel w J Z) vs.toList args) (hd : dstOk s d) (hf : P.funcs[k]? = some fn) (hb : fn.body = some c)
    (hl : args.length ≤ fn.ntmps) (hls : lsF s.lp.ls s.lp.fr) (h : AW P c ⟨argEnv args 0, s.heap, fn.ntmps, (s.lp.fr, s.env) :: s.gh, ⟨s.lp.ls, s.lp.fr + 1, none⟩⟩ (inlQ P s.lp.fr s.N s.lp fn d K)) (hK : ∀ s' a' w', Rep w0 Z0 s' a' w' → K s' → K2 a' w') :
    Calls P k vs w fun e w' => ∃ v, e = .returned v ∧ K2 (a.put d v) w' := by
  refine callsIn_wide.1 (callsIn_of_wp_marks (F := Fence.wide) (n := 0) hf hb trivial ?_)
  have hlen := ha.length
  simp only [Array.length_toList] at hlen
  have hlsf := lsF_mem hls
  obtain ⟨M, m1, m2, m3⟩ := R.nodef
  let Z1 : Fr := ⟨Z0.z, fun f t => if f = s.lp.fr then a.tmps.getD t undef else Z0.g f t, none, M ++ Z0.pin⟩
  have R1 : Rel w0 Z1 J Z ⟨argEnv args 0, s.heap, fn.ntmps, (s.lp.fr, s.env) :: s.gh, ⟨s.lp.ls, s.lp.fr + 1, none⟩⟩ { tmps := vs ++ Array.replicate (fn.ntmps - vs.size) undef, defers := [] } w := by
    refine ⟨⟨[], rfl, by simpa [Z1] using m2, fun b hb => m3 b (by simpa [Z1] using hb)⟩, ?_, R.below, R.zfrom, R.zlt, R.jlt, R.inj, R.hole, R.cells, fun t => ?_, fun f t => ?_, fun y hy => ?_, R.lnd, rfl⟩
    · simp; omega
    · simp only [AS.get, argEnv_lk, Nat.zero_le, if_true, Nat.sub_zero]
      cases hx : args[t]? with
      | none => simp; trivial
      | some x =>
        obtain ⟨u, hu, hr⟩ := ha.get hx
        have : (vs ++ Array.replicate (fn.ntmps - vs.size) undef).getD t undef = u := by
          rw [Array.getElem?_toList] at hu
          have hlt : t < vs.size := (Array.getElem?_eq_some_iff.1 hu).1
          simp only [Array.getD_eq_getD_getElem?, Array.getElem?_append_left hlt, hu, Option.getD_some]
        rw [this]
        exact hr
    · rw [gk_push]
      by_cases hf : f = s.lp.fr
      · simp only [Z1, if_pos hf]; exact R.slots t
      · simp only [Z1, if_neg hf]; exact R.ghost f t
    · obtain ⟨fn', tmps', dd', k0, k1, k2, k3⟩ := R.loops y hy
      refine ⟨fn', tmps', dd', k0, k1, k2, fun t => ?_⟩
      simp only [Z1, if_neg (hlsf y hy)]; exact k3 t
  refine wpIn_mono (h w0 Z1 _ w 0 ⟨_, _, R1⟩) fun e a' w' ⟨s', ⟨J', Z', R'⟩, he, hlp, q⟩ => ?_
  have fin : LeavesInM Fence.wide 0 P fn a'.tmps (fun e w' => ∃ v, e = .returned v ∧ K2 (a.put d v) w') a'.defers .returning w' := by
    obtain ⟨M', m1', _⟩ := R'.nodef
    refine R'.leaves M' m1' fun a2 w2 R2 h2 h3 => ?_
    split at q
    · rename_i nd l h1
      obtain ⟨hn, hk⟩ := q
      obtain ⟨vs', hvs, hr⟩ := run_results R2 h1 hn
      rw [h2] at hvs
      have hres : (results fn a'.tmps).run P w2 = .ok (if h : vs'.toArray.size = 1 then vs'.toArray[0] else .tuple vs'.toArray) w2 := by
        rw [results_eq, ← Array.toArray_toList (xs := fn.results), List.mapM_toArray]
        simp only [Sem.run_bind, Sem.run_map, hvs, Result.andThen_ok, Sem.run_pure]
      refine ⟨_, hres, _, rfl, hK _ _ _ ⟨J', Z', Rel.put (s := loopS s.lp.fr s.N s.lp s') ?_ (dstOk_spec hd) (tupA_rel hr)⟩ hk⟩
      refine ⟨⟨M, m1, m2, fun b hb => ?_⟩, R.size, R2.below, R2.zfrom, R2.zlt, R2.jlt, R2.inj, R2.hole, R2.cells, fun t => ?_, fun f t => ?_, fun y hy => ?_, R.lnd, R.ro⟩
      · obtain ⟨M4, _, _, n3⟩ := R2.nodef
        exact n3 b (List.mem_append_right _ hb)
      · have := R2.ghost s.lp.fr t
        simp only [Z1, if_true] at this
        exact this
      · show ARel _ J' Z' _ (gk (gdrop s'.gh s.lp.fr) f t)
        rw [gk_drop]
        by_cases hf : f = s.lp.fr
        · rw [if_pos hf]; trivial
        · rw [if_neg hf]
          have := R2.ghost f t
          simpa only [Z1, if_neg hf] using this
      · have hy' : y ∈ s.lp.ls := hy
        obtain ⟨fn', tmps', dd', k0, k1, k2, k3⟩ := R2.loops y (by rw [hlp]; exact hy')
        refine ⟨fn', tmps', dd', k0, k1, k2, fun t => ?_⟩
        have := k3 t
        simpa only [Z1, if_neg (hlsf y hy')] using this
    · exact q.elim
  cases e <;> simp at he <;> exact fin
end
theorem upon_round {n : Nat} {F : Fence} (hF : Free F) {K : Act → World → Prop} {Q : Exit → Act → World → Prop} {l fn : Nat} {tmps : Array Value} {asg body : Code} (hd : ∀ c, o.op ≠ .defer c) (hrun : (execOp a.eval o).run P w = .ok (.round l fn tmps asg body) w)
    (h : ∀ m, RoundIn F m P l fn tmps asg body w fun e w' => ∃ v, e = .returned v ∧ K (a.put o.dst v) w') : o.wpIn F n P a w K Q := by
  refine ⟨fun f _ => hF.fn f, ?_⟩
  rw [Oper.semAt_eq _ _ _ hd, hrun, Oper.uponIn_round]
  refine ⟨fun hx => (by rw [hF.depth] at hx; cases hx), (h _).mono fun e w' ⟨v, he, hk⟩ => ?_⟩
  subst he
  exact hk
theorem exec_yield {f : Operand} {args : Array Operand} {tys : Array TypeId} (ho : o.op = .call ⟨.value f, args, tys⟩) {l : Nat} (hf : a.eval f = .func (.yield l) #[] #[]) : (execOp a.eval o).run P w = (Instr.yield l (args.map a.eval)).run P w := by
  simp [execOp, ho, resolve, hf, Deferred.ofValue, invoke]
theorem yield_sound (R : Rel w0 Z0 J Z s a w) {l : Nat} {ps : List TV} {vs : Array Value} {d : Option Nat} {K : AS → Prop} {K2 : Act → World → Prop} (ha : All2 (TRel w J Z) vs.toList ps) (hd : dstOk s d) (h : yieldF P l ps d s K) (hK : ∀ s' a' w', Rep w0 Z0 s' a' w' → K s' → K2 a' w') :
    ∃ fn tmps asg body, (Instr.yield l vs).run P w = .ok (.round l fn tmps asg body) w ∧ ∀ m, RoundIn (fo Z0.ro) m P l fn tmps asg body w fun e w' => ∃ v, e = .returned v ∧ K2 (a.put d v) w' := by
  unfold yieldF at h
  split at h
  · rename_i x hx
    obtain ⟨h1, h2, h3, h4⟩ := h
    obtain ⟨hxm, hxl⟩ := lkL_mem hx
    obtain ⟨fn, tmps, dd, g0, g1, g2, g3⟩ := R.loops x hxm
    obtain ⟨M, m1, m2, m3⟩ := R.nodef
    rw [hxl] at g0 g1
    have hvl := ha.length
    rw [Array.length_toList] at hvl
    have hlsf := lsF_mem h3
    have hz := zip_rel (w := w) (J := J) (Z := Z) (ps := x.ps) (vs := vs.toList) (tvs := ps) (tmps := tmps) (env := gf s.gh x.fid) h1 ha (by rw [g2]; exact h2) (fun t => by rw [g3]; exact R.ghost x.fid t)
    have hfold : ((x.loop fn tmps dd).params.zip vs).foldl (fun (tmps : Array Value) (p : Nat × Value) => tmps.setIfInBounds p.1 p.2) tmps = (x.ps.zip vs.toList).foldl (fun (tmps : Array Value) (p : Nat × Value) => tmps.setIfInBounds p.1 p.2) tmps := by
      rw [← Array.foldl_toList]; simp [LS.loop]
    let Z1 : Fr := ⟨Z0.z, fun f t => if f = s.lp.fr then a.tmps.getD t undef else Z0.g f t, some l, M ++ Z0.pin⟩
    refine ⟨fn, _, x.asg, x.body, run_yield g1 (by simp [LS.loop]; omega), fun m => ?_⟩
    rw [show (fun (tmps : Array Value) (x : Nat × Value) => match x with | (t, a) => tmps.setIfInBounds t a) = (fun (tmps : Array Value) (p : Nat × Value) => tmps.setIfInBounds p.1 p.2) from rfl]
    rw [show (x.loop fn tmps dd).tmps = tmps from rfl, hfold]
    refine roundIn_of_wpIn ((free_fo _).fn _) ?_
    rw [fo_inRound]
    have R1 : Rel w0 Z1 J Z ⟨zipPut x.ps ps (gf s.gh x.fid), s.heap, x.N, (s.lp.fr, s.env) :: s.gh, ⟨s.lp.ls, s.lp.fr + 1, some l⟩⟩ { tmps := (x.ps.zip vs.toList).foldl (fun (tmps : Array Value) (p : Nat × Value) => tmps.setIfInBounds p.1 p.2) tmps, defers := [] } w := by
      refine ⟨⟨[], rfl, by simpa [Z1] using m2, fun b hb => m3 b (by simpa [Z1] using hb)⟩, hz.1.trans g2, R.below, R.zfrom, R.zlt, R.jlt, R.inj, R.hole, R.cells, hz.2, fun f t => ?_, fun y hy => ?_, R.lnd, rfl⟩
      · rw [gk_push]
        by_cases hf : f = s.lp.fr
        · simp only [Z1, if_pos hf]; exact R.slots t
        · simp only [Z1, if_neg hf]; exact R.ghost f t
      · obtain ⟨fn', tmps', dd', k0, k1, k2, k3⟩ := R.loops y hy
        refine ⟨fn', tmps', dd', k0, k1, k2, fun t => ?_⟩
        simp only [Z1, if_neg (hlsf y hy)]; exact k3 t
    refine wpIn_mono (h4 w0 Z1 _ w m ⟨J, Z, R1⟩) fun e a1 w1 ⟨s1, R2, q⟩ => ?_
    obtain ⟨J1, Y1, R2⟩ := R2
    cases e with
    | normal =>
      obtain ⟨q1, q2⟩ := q
      unfold rdyL at q1
      split at q1
      · rename_i x1 hx1
        obtain ⟨hxm1, hxl1⟩ := lkL_mem hx1
        obtain ⟨fn1, tmps1, dd1, k0, k1, k2, k3⟩ := R2.loops x1 hxm1
        rw [hxl1] at k0 k1
        have hlt := (Array.getElem?_eq_some_iff.1 k1).1
        refine ⟨_, run_beginRound k1 q1.1, ?_⟩
        have R3 := R2.turn (o' := .loop { x1.loop fn1 tmps1 dd1 with state := .busy }) (D := a1.defers) (ls := setL s1.lp.ls l .busy none) k1 rfl k0 (by
          obtain ⟨M1, n1, n2, n3⟩ := R2.nodef
          refine ⟨M1, n1, n2, fun c hc => ⟨(n3 c hc).1, (World.putObj_heap_other (fun e => ?_)).trans (n3 c hc).2⟩⟩
          subst e; have := (n3 _ hc).2; rw [k1] at this; cases this) (fun y hy => by
          rcases setL_mem R2.lnd hy with ⟨hy, hne⟩ | ⟨z, hz1, rfl⟩
          · obtain ⟨fn', tmps', dd', p0, p1, p2, p3⟩ := R2.loops y hy
            exact ⟨fn', tmps', dd', p0, (World.putObj_heap_other hne).trans p1, p2, p3⟩
          · rw [hx1] at hz1; cases hz1
            refine ⟨fn1, tmps1, dd1, by simp only [hxl1]; exact k0, ?_, k2, k3⟩
            simp only [hxl1]
            rw [World.putObj_heap_same hlt]
            simp [LS.loop, q1.2]) (by rw [setL_map]; exact R2.lnd)
        refine wpIn_mono (q2 w0 Z1 _ _ m ⟨J1, Y1, R3⟩) fun e3 a3 w3 ⟨s3, R4, q3⟩ => ?_
        obtain ⟨J3, Y3, R4⟩ := R4
        obtain ⟨t1, t2, t3⟩ := q3
        obtain ⟨x3, hx3⟩ := Option.isSome_iff_exists.1 t1
        obtain ⟨hxm3, hxl3⟩ := lkL_mem hx3
        obtain ⟨fn3, tmps3, dd3, u0, u1, u2, u3⟩ := R4.loops x3 hxm3
        rw [hxl3] at u0 u1
        have hlt3 := (Array.getElem?_eq_some_iff.1 u1).1
        have hls3 := lsF_mem t2
        have fin : ∀ j, (∀ K' : Prop, K' → K') → K ((roundS l s.lp.fr s.N s.lp.ro j s3).put d (bAV j.isNone)) → ∃ v w', (Instr.endRound l j).run P w3 = .ok v w' ∧ ∃ v', (Ending.returned v) = .returned v' ∧ K2 (a.put d v') w' := fun j _ hk => by
          refine ⟨_, _, run_endRound j u1, _, rfl, hK _ _ _ ⟨J3, Y3, Rel.put (s := roundS l s.lp.fr s.N s.lp.ro j s3) ?_ (dstOk_spec hd) (show ARel _ J3 Y3 (.bool j.isNone) (bAV j.isNone) from Rd.g (.bool j.isNone) rfl)⟩ hk⟩
          have G : Grow4 (fun _ => True) w3 J3 Y3 (w3.putObj l (.loop { x3.loop fn3 tmps3 dd3 with state := if j.isNone then .ready else .done, pending := j })) J3 Y3 := g4_turn u1 rfl
          refine ⟨⟨M, m1, m2, fun b hb => ?_⟩, R.size, R4.below.trans (below_turn u1 u0), R4.zfrom, fun c h => by rw [World.putObj_size]; exact R4.zlt c h, fun i c h => by rw [World.putObj_size]; exact R4.jlt i c h, R4.inj, R4.hole, fun i cs h hne => ?_, fun t => ?_, fun f t => ?_, fun y hy => ?_, ?_, R.ro⟩
          · obtain ⟨M4, _, _, n3⟩ := R4.nodef
            have := n3 b (List.mem_append_right _ hb)
            refine ⟨this.1, (World.putObj_heap_other (fun e => ?_)).trans this.2⟩
            subst e; have := this.2; rw [u1] at this; cases this
          · obtain ⟨c, x, e, h1, h2, h3⟩ := R4.cells i cs h hne
            refine ⟨c, x, e, h1, (World.putObj_heap_other (fun e' => ?_)).trans h2, h3.mono fun _ y => CRel.grow4 G (CV.ok_all _)⟩
            subst e'; rw [u1] at h2; cases h2
          · have := R4.ghost s.lp.fr t
            simp only [Z1, if_true] at this
            exact ARel.grow4 G (AV.ok_all _) this
          · show ARel _ J3 Y3 _ (gk (gdrop s3.gh s.lp.fr) f t)
            rw [gk_drop]
            by_cases hf : f = s.lp.fr
            · rw [if_pos hf]; trivial
            · rw [if_neg hf]
              have := R4.ghost f t
              simp only [Z1, if_neg hf] at this
              exact ARel.grow4 G (AV.ok_all _) this
          · rcases setL_mem R4.lnd hy with ⟨hy, hne⟩ | ⟨z, hz1, rfl⟩
            · obtain ⟨fn', tmps', dd', p0, p1, p2, p3⟩ := R4.loops y hy
              refine ⟨fn', tmps', dd', p0, (World.putObj_heap_other hne).trans p1, p2, fun t => ?_⟩
              have := p3 t
              simpa only [Z1, if_neg (hls3 y hy)] using this
            · rw [hx3] at hz1; cases hz1
              refine ⟨fn3, tmps3, dd3, by simp only [hxl3]; exact u0, ?_, u2, fun t => ?_⟩
              · simp only [hxl3]
                rw [World.putObj_heap_same hlt3]
                rfl
              · have := u3 t
                simpa only [Z1, if_neg (hls3 _ hxm3)] using this
          · show ((setL _ _ _ _).map LS.l).Nodup
            rw [setL_map]; exact R4.lnd
        cases e3 with
        | normal => exact fin none (fun _ h => h) t3
        | ret => exact fin (some .ret) (fun _ h => h) t3
        | exit id => exact fin (some (.exit id)) (fun _ h => h) t3
        | goto id => exact fin (some (.goto id)) (fun _ h => h) t3
        | _ => exact t3.elim
      · exact q1.elim
    | _ => exact q.elim
  · exact h.elim
theorem callF0_sound {n : Nat} (R : Rel w0 Z0 J Z s a w) {K : AS → Prop} {K2 : Act → World → Prop} {Q : Exit → Act → World → Prop} (hd : dstOk s o.dst) (h : callF0 P o s K) (hK : ∀ s' a' w', Rep w0 Z0 s' a' w' → K s' → K2 a' w') : o.wpIn (fo Z0.ro) n P a w K2 Q := by
  unfold callF0 at h
  split at h
  · rename_i f args tys ho
    have hnd : ∀ c, o.op ≠ .defer c := fun c e => by rw [ho] at e; cases e
    split at h
    · rename_i k hk
      rcases h with h | h <;> split at h
      · rename_i nd ps own ha
        obtain ⟨h1, h2, r, h3, h4, h5⟩ := h
        have hf := callee_pure R hk
        refine opIn_of_wp (free_fo _) hnd (upon_call (exec_call ho hf h1) ?_)
        simp only [Array.empty_append, Array.append_empty]
        refine (call_rep R ha h2 h3 h4).mono fun e w' ⟨v, Z', he, R', hr⟩ => ⟨v, he, hK _ _ _ ⟨J, Z', R'.put (dstOk_spec hd) hr⟩ h5⟩
      · exact h.elim
      · rename_i nd ps ha
        obtain ⟨h1, h2, h⟩ := h
        have hf := callee_pure R hk
        refine opIn_of_wp (free_fo _) hnd (upon_call (exec_call ho hf h1) ?_)
        simp only [Array.empty_append, Array.append_empty]
        have hargs : All2 (TRel w J Z) (args.map a.eval).toList ps := by simp only [Array.toList_map]; exact tvs_rel R ha h2
        rcases h with ⟨fn, c, i1, i2, i3, i4, i5⟩ | ⟨r, H', h3, h5⟩
        · exact inl_sound R hargs hd i1 i2 i3 i4 i5 hK
        · refine (h3 w0 Z0 J Z s a w _ R rfl hargs).mono fun e w' ⟨v, J', Z', he, R', hr⟩ => ⟨v, he, hK _ _ _ ⟨J', Z', R'.put (dstOk_spec hd) hr⟩ h5⟩
      · exact h.elim
    · rename_i k l m hk
      split at h
      · rename_i nd ps ha
        obtain ⟨h1, h2, h⟩ := h
        obtain ⟨A, B, hf, hA, hB⟩ := callee_clo R hk
        refine opIn_of_wp (free_fo _) hnd (upon_call (exec_call ho hf h1) ?_)
        have hargs : All2 (TRel w J Z) (A ++ args.map a.eval ++ B).toList (l.map LV.tv ++ ps ++ m.map LV.tv) := by
          simp only [Array.toList_append, Array.toList_map]
          exact ((All2.map_right.2 (hA.mono fun _ _ => LRel.tv)).append (tvs_rel R ha h2)).append (All2.map_right.2 (hB.mono fun _ _ => LRel.tv))
        rcases h with ⟨r, H', h3, h5⟩ | ⟨fn, c, i1, i2, i3, i4, i5⟩
        · refine (h3 w0 Z0 J Z s a w _ R rfl hargs).mono fun e w' ⟨v, J', Z', he, R', hr⟩ => ⟨v, he, hK _ _ _ ⟨J', Z', R'.put (dstOk_spec hd) hr⟩ h5⟩
        · exact inl_sound R hargs hd i1 i2 i3 i4 i5 hK
      · exact h.elim
    · rename_i l hk
      split at h
      · rename_i nd ps ha
        obtain ⟨h1, h2⟩ := h
        have hargs : All2 (TRel w J Z) (args.map a.eval).toList ps := by
          simp only [Array.toList_map]; exact tvs_rel R ha h1
        obtain ⟨fn, tmps, asg, body, hy, hr⟩ := yield_sound R hargs hd h2 hK
        exact upon_round (free_fo _) hnd ((exec_yield ho (callee_yld R hk)).trans hy) hr
      · exact h.elim
    · exact h.elim
  · rename_i op hop
    obtain ⟨h1, h2, u, h3, h4⟩ := h
    have he : execOp a.eval o = execOp (gρ s.ev) o := execOp_congr o (fun cs b e => by rw [e] at h1; cases h1) fun x hx => by
      have := List.all_eq_true.1 h2 x (by simpa using hx)
      obtain ⟨u, hu⟩ := Option.isSome_iff_exists.1 this
      rw [gρ, hu, gv_eval R hu]; rfl
    refine opIn_of_wp (free_fo _) (fun c e => by rw [e] at h1; cases h1) ?_
    unfold Oper.wp
    rw [he, h3 w]
    exact hK _ _ _ ⟨J, Z, R.put (dstOk_spec hd) (constA_rel u)⟩ h4
theorem callF_sound {n : Nat} (R : Rel w0 Z0 J Z s a w) {K : AS → Prop} {K2 : Act → World → Prop} {Q : Exit → Act → World → Prop} (hd : dstOk s o.dst) (h : callF P o s K) (hK : ∀ s' a' w', Rep w0 Z0 s' a' w' → K s' → K2 a' w') : o.wpIn (fo Z0.ro) n P a w K2 Q := by
  rcases h with h | ⟨L, h1, h2⟩
  · exact callF0_sound R hd h hK
  · obtain ⟨J', Z', R'⟩ := Rep.frzs L ⟨J, Z, R⟩ h1
    refine callF0_sound R' ?_ h2 hK
    unfold dstOk at hd ⊢
    rw [frzs_N]; exact hd

theorem mbOf_true {x : AV} {u : Value} (h : ARel w J Z u x) : ARel w J Z u (x.mbOf true) := by
  cases x with
  | t x => exact ⟨fun _ => h, fun hb => by cases hb⟩
  | _ => trivial
theorem mbOf_false (x : AV) : ARel w J Z undef (x.mbOf false) := by
  cases x with
  | t x => exact ⟨fun hb => (by cases hb), fun _ => rfl⟩
  | _ => trivial

theorem callG_true {n : Nat} (R : Rel w0 Z0 J Z s a w) {K : AS → Prop} {K2 : Act → World → Prop} {Q : Exit → Act → World → Prop} (hd : dstOk s o.dst) (h : callG P true o s K) (hK : ∀ s' a' w', Rep w0 Z0 s' a' w' → K s' → K2 a' w') : o.wpIn (fo Z0.ro) n P a w K2 Q := by
  rcases h with h | h
  rotate_left
  · exact callF_sound R hd (h.1 rfl) hK
  unfold callG0 at h
  split at h
  · rename_i f args tys ho
    split at h
    · rename_i k hk
      split at h
      · rename_i nd ps own ha
        obtain ⟨h1, h2, r, h3, h4, h5⟩ := h
        have hf := callee_pure R hk
        refine opIn_of_wp (free_fo _) (fun c e => by rw [ho] at e; cases e) (upon_call (exec_call ho hf h1) ?_)
        simp only [Array.empty_append, Array.append_empty]
        refine (call_rep R ha (h2 rfl) (h3 rfl) h4).mono fun e w' ⟨v, Z', he, R', hr⟩ => ⟨v, he, hK _ _ _ ⟨J, Z', R'.put (dstOk_spec hd) (mbOf_true hr)⟩ h5⟩
      · exact h.elim
    · exact callF_sound R hd (h.1 rfl) hK
  · exact callF_sound R hd (h.1 rfl) hK
theorem callG_false (R : Rel w0 Z0 J Z s a w) {K : AS → Prop} {K2 : Act → World → Prop} (hd : dstOk s o.dst) (h : callG P false o s K) (hK : ∀ s' a' w', Rep w0 Z0 s' a' w' → K s' → K2 a' w') : K2 (a.put o.dst undef) w := by
  rcases h with h | h
  rotate_left
  · exact hK _ _ _ ⟨J, Z, R.putAny⟩ (h.2 rfl)
  unfold callG0 at h
  split at h
  · split at h
    · split at h
      · obtain ⟨h1, h2, r, h3, h4, h5⟩ := h
        exact hK _ _ _ ⟨J, Z, R.put (dstOk_spec hd) (mbOf_false _)⟩ h5
      · exact h.elim
    · exact hK _ _ _ ⟨J, Z, R.putAny⟩ (h.2 rfl)
  · exact hK _ _ _ ⟨J, Z, R.putAny⟩ (h.2 rfl)

theorem does_wp {K2 : Act → World → Prop} {Q : Exit → Act → World → Prop} (h : Does P w0 Z0 Z s a w nid o v ef) (hK : ∀ J' w' u, Rel w0 Z0 J' Z (s.eff nid ef) a w' → ARel w' J' Z u v → K2 (a.put o.dst u) w') : o.wp P a w K2 Q := by
  obtain ⟨J', w', u, hrun, R', hr⟩ := h
  unfold Oper.wp
  rcases hrun with h | ⟨h, rfl⟩ <;> rw [h]
  · exact hK J' w' u R' hr
  · exact hK J' w' undef R' hr

theorem rd_g {v u : Value} (h : Rd w Z v (.g u)) : v = u := by cases h; rfl
theorem gB_spec (R : Rel w0 Z0 J Z s a w) {ops : Array Oper} {j : Nat} {want b : Bool} (h : gB (ops.toList.map (·.dst)) s j want = some b) : (yielded ops a.tmps j == some want) = b := by
  unfold gB at h
  rw [List.getElem?_map, Array.getElem?_toList] at h
  split at h
  · rename_i t ht
    have hd : (ops[j]?).bind (·.dst) = some t := by
      cases hj : ops[j]? with
      | none => rw [hj] at ht; cases ht
      | some o => rw [hj] at ht; simpa using ht
    have hs := R.slots t
    have key : ∀ u : Value, a.tmps.getD t undef = u → (a.tmps[t]? = some u ∨ (a.tmps[t]? = none ∧ u = undef)) := fun u hu => by
      cases hx : a.tmps[t]? with
      | none => right; exact ⟨rfl, by rw [← hu]; simp [hx]⟩
      | some y => left; rw [← hu]; simp [hx]
    split at h
    · rename_i c hc
      rw [hc] at hs
      cases h
      have hv : a.tmps.getD t undef = .bool c := rd_g hs
      rcases key _ hv with h | ⟨_, h⟩
      · simp [yielded, hd, h]
      · cases h
    · rename_i b' c hc
      rw [hc] at hs
      cases h
      cases b' with
      | true =>
        have hv : a.tmps.getD t undef = .bool c := rd_g (hs.1 rfl)
        rcases key _ hv with h | ⟨_, h⟩
        · simp [yielded, hd, h]
        · cases h
      | false =>
        have hv := hs.2 rfl
        rcases key _ hv with h | ⟨h, _⟩
        · simp [yielded, hd, h, undef]
        · simp [yielded, hd, h]
    · cases h
  · cases h

theorem opF_defer {H : Hp} {ρ : Operand → AV} (h : ∃ c, o.op = .defer c) : opF P nid ρ H o = none := by
  obtain ⟨c, h⟩ := h
  obtain ⟨dst, op, type, pos, after, guard⟩ := o
  simp only at h
  subst h
  rfl
theorem not_defer {H : Hp} {ρ : Operand → AV} {x : Prop × AV × Eff} (h : opF P nid ρ H o = some x) : ∀ c, o.op ≠ .defer c := fun c e => by
  rw [opF_defer ⟨c, e⟩] at h; cases h
theorem arun_wpOps {n : Nat} {ops : Array Oper} {K : AS → Prop} {Q : Exit → Act → World → Prop} (hQ : ∀ s' a' w', Rep w0 Z0 s' a' w' → K s' → Q .normal a' w') :
    ∀ (os : List Oper) (k : Nat) (s : AS) (a : Act) (w : World), ops.toList.drop k = os → arun P (ops.toList.map (·.dst)) os s K → Rep w0 Z0 s a w → wpOpsIn (fo Z0.ro) n P ops Q (List.range' k os.length) a w
  | [], k, s, a, w, _, h, R => hQ _ _ _ R h
  | o :: os, k, s, a, w, hk, h, ⟨J, Z, R⟩ => by
    have ho : ops[k]? = some o := by
      have : (ops.toList.drop k)[0]? = some o := by rw [hk]; rfl
      rw [List.getElem?_drop] at this
      simpa using this
    have hk' : ops.toList.drop (k + 1) = os := by
      have := congrArg (List.drop 1) hk
      rw [List.drop_drop] at this
      simpa [Nat.add_comm] using this
    have ih := fun s a w => arun_wpOps (n := n) hQ os (k + 1) s a w hk'
    rw [List.length_cons, List.range'_succ, wpOpsIn_cons]
    refine wpOpIn_step ho fun K' hK' => ?_
    obtain ⟨hd, h⟩ := h
    have hnid := hget_nid s.heap
    split at h
    · rename_i hg
      have hw : Region.wanted o (yielded ops a.tmps) = true := by simp [Region.wanted, hg]
      rw [if_pos hw]
      split at h
      · rename_i nd v ef hop
        refine opIn_of_wp (free_fo _) (not_defer hop) (does_wp (opF_sound R hnid hop h.1) fun J' w' u R' hr => hK' _ _ (ih _ _ _ h.2 ⟨J', Z, R'.put (fun d e => ?_) hr⟩))
        rw [eff_N]; exact dstOk_spec hd d e
      · exact callF_sound R hd h fun s' a' w' R' h' => hK' _ _ (ih _ _ _ h' R')
    · rename_i j want hg
      split at h
      · rename_i b hb
        have hy := gB_spec R hb
        have hw : Region.wanted o (yielded ops a.tmps) = b := by simp only [Region.wanted, hg]; exact hy
        rw [hw]
        split at h
        · rename_i nd v hop
          cases b with
          | true =>
            rw [if_pos rfl]
            refine opIn_of_wp (free_fo _) (not_defer hop) (does_wp (opF_sound R hnid hop (h.1 rfl)) fun J' w' u R' hr => hK' _ _ (ih _ _ _ h.2 ⟨J', Z, R'.put (fun d e => dstOk_spec hd d e) (mbOf_true hr)⟩))
          | false =>
            rw [if_neg (by simp)]
            refine ⟨fun f _ => (free_fo _).fn f, ?_⟩
            exact hK' _ _ (ih _ _ _ h.2 ⟨J, Z, R.put (dstOk_spec hd) (mbOf_false _)⟩)
        · rename_i nd v ef hop
          cases b with
          | true =>
            rw [if_pos rfl]
            refine opIn_of_wp (free_fo _) (not_defer hop) (does_wp (opF_sound R hnid hop (h.1 rfl).1) fun J' w' u R' hr => hK' _ _ (ih _ _ _ (h.1 rfl).2 ⟨J', Z, R'.put (fun d e => ?_) hr⟩))
            rw [eff_N]; exact dstOk_spec hd d e
          | false =>
            rw [if_neg (by simp)]
            refine ⟨fun f _ => (free_fo _).fn f, ?_⟩
            exact hK' _ _ (ih _ _ _ (h.2 rfl) ⟨J, Z, R.putAny⟩)
        · cases b with
          | true =>
            rw [if_pos rfl]
            exact callG_true R hd h fun s' a' w' R' h' => hK' _ _ (ih _ _ _ h' R')
          | false =>
            rw [if_neg (by simp)]
            refine ⟨fun f _ => (free_fo _).fn f, ?_⟩
            exact callG_false R hd h fun s' a' w' R' h' => hK' _ _ (ih _ _ _ h' R')
      · exact h.elim
end
end Go.Sea
