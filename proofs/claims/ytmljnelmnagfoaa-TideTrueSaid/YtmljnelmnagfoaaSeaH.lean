/- A region in the text's order tells what the model does. -/
import Derived.Test.YtmljnelmnagfoaaSeaG
set_option linter.unusedVariables false
set_option linter.unusedSimpArgs false
namespace Go.Sea
open Go.RowKit
section
variable {w0 : World} {Z0 : Fr} {J J' : Nat → Option Nat} {Z Z' : Nat → Prop} {s s' : AS} {a : Act} {w w' : World} {P : Program} {o : Oper} {nid : Nat} {v : AV} {ef : Eff}
theorem hget_ge : ∀ (h : List (Option (List CV))) (n : Nat), h.length ≤ n → hget h n = none := by
  intro h n hn
  simp [hget, List.getElem?_eq_none hn]
theorem dstOk_spec {d : Option Nat} (h : dstOk s d) : ∀ k, d = some k → k < s.N := by
  rintro k rfl; exact h
theorem eff_N (s : AS) (n : Nat) (e : Eff) : (s.eff n e).N = s.N := by cases e <;> rfl

theorem args_rel (R : Rel w0 Z0 J Z s a w) : ∀ {l : List Operand} {nd : Prop} {ps : List PT} {own : Bool}, argsF s.ev (hget s.heap) l = some (nd, ps, own) → nd → All2 (PTRel w (if own then OwnZ J Z else Z)) (l.map a.eval) ps
  | [], _, _, _, h, _ => by simp only [argsF, Option.some.injEq, Prod.mk.injEq] at h; obtain ⟨rfl, rfl, rfl⟩ := h; trivial
  | x :: l, _, _, _, h, hn => by
    unfold argsF at h
    split at h
    · rename_i n1 y b1 n2 l' b2 h1 h2
      simp only [Option.some.injEq, Prod.mk.injEq] at h
      obtain ⟨rfl, rfl, rfl⟩ := h
      obtain ⟨t, ht, hu⟩ := tv_of_bind h1
      exact ⟨PTRel.zmono (fun k => (ifz k).1) (toPT_rel R (ARel.tv (R.ev x) ht hn.1) hu hn.2.1), (args_rel R h2 hn.2.2).mono fun _ _ hr => PTRel.zmono (fun k => (ifz k).2) hr⟩
    · cases h
theorem tvs_rel (R : Rel w0 Z0 J Z s a w) : ∀ {l : List Operand} {nd : Prop} {ps : List TV}, tvsF s.ev l = some (nd, ps) → nd → All2 (TRel w J Z) (l.map a.eval) ps
  | [], _, _, h, _ => by simp only [tvsF, Option.some.injEq, Prod.mk.injEq] at h; obtain ⟨rfl, rfl⟩ := h; trivial
  | x :: l, _, _, h, hn => by
    unfold tvsF at h
    split at h
    · rename_i y n2 l' h1 h2
      simp only [Option.some.injEq, Prod.mk.injEq] at h
      obtain ⟨rfl, rfl⟩ := h
      exact ⟨ARel.tv (R.ev x) h1 hn.1, tvs_rel R h2 hn.2⟩
    · cases h
theorem LRel.tv {v : Value} {l : LV} (h : LRel w J Z v l) : TRel w J Z v l.tv := by cases l <;> exact h
theorem run_callFunc {k : FuncId} (h : fnOk P k = true) (args : Array Value) (w : World) : (callFunc k args).run P w = .ok (.enter k args) w := by
  unfold fnOk at h
  split at h
  · rename_i fn hf
    simp only [Bool.and_eq_true, bne_iff_ne] at h
    cases hb : fn.body with
    | none => rw [hb] at h; cases h.2
    | some c => simp [callFunc, hf, h.1, hb]
  · cases h

/-- A call by value gives a state again. -/
theorem call_rep (R : Rel w0 Z0 J Z s a w) {k : FuncId} {args : Array Operand} {nd : Prop} {ps : List PT} {own : Bool} {r : PV} (h : argsF s.ev (hget s.heap) args.toList = some (nd, ps, own)) (hn : nd) (hc : CallsP P k ps r) (hf : own = true → r.flat = true) :
    Calls P k (args.map a.eval) w fun e w' => ∃ v Z', e = .returned v ∧ Rel w0 Z0 J Z' s a w' ∧ ARel w' J Z' v r.av := by
  have ha := args_rel R h hn
  rw [← Array.toList_map] at ha
  refine (hc w _ _ (fun b hb => ?_) ha).mono fun e w' ⟨v, he, hbel, hr⟩ => ?_
  · cases own with
    | false => exact R.zlt b hb
    | true =>
      rcases hb with hb | ⟨i, hb⟩
      · exact R.zlt b hb
      · exact (R.jlt i b hb).2.1
  · obtain ⟨R', _⟩ := R.call hbel
    refine ⟨v, _, he, R', PRel.av ?_⟩
    cases own with
    | false => exact hr
    | true => exact PRel.flat hr (hf rfl)

theorem gv_eval (R : Rel w0 Z0 J Z s a w) {x : Operand} {u : Value} (h : gv (s.ev x) = some u) : a.eval x = u := by
  have hx := R.ev x
  generalize s.ev x = av at h hx
  generalize a.eval x = vx at hx ⊢
  unfold gv at h
  split at h
  · simp only [Option.some.injEq] at h
    subst h
    cases hx; rfl
  · rename_i cs
    split at h
    · rename_i hall
      simp only [Option.some.injEq] at h
      subst h
      obtain ⟨A, hA, hr⟩ := hx
      rw [hA]
      congr 1
      apply Array.ext'
      simp only
      clear hA
      generalize A.toList = l at hr
      induction cs generalizing l with
      | nil => cases l with
        | nil => rfl
        | cons _ _ => exact hr.elim
      | cons c cs ih =>
        cases l with
        | nil => exact hr.elim
        | cons x l =>
          simp only [List.all_cons, Bool.and_eq_true] at hall
          rw [List.map_cons, ← ih hall.2 l hr.2]
          congr 1
          cases c with
          | iv c =>
            cases c with
            | g u => cases hr.1; rfl
            | lst => simp at hall
          | _ => simp at hall
    · cases h
  · cases h

theorem upon_call {K : Act → World → Prop} {Q : Exit → Act → World → Prop} {k : FuncId} {args : Array Value} (hrun : (execOp a.eval o).run P w = .ok (.enter k args) w) (h : Calls P k args w fun e w' => ∃ v, e = .returned v ∧ K (a.put o.dst v) w') : o.wp P a w K Q := by
  unfold Oper.wp
  rw [hrun]
  refine Calls.mono h fun e w' ⟨v, he, hk⟩ => ?_
  subst he
  exact hk
theorem exec_call {f : Operand} {args : Array Operand} {tys : Array TypeId} (ho : o.op = .call ⟨.value f, args, tys⟩) {k : FuncId} {A B : Array Value} (hf : a.eval f = .func (.func k) A B) (hk : fnOk P k = true) : (execOp a.eval o).run P w = .ok (.enter k (A ++ args.map a.eval ++ B)) w := by
  simp [execOp, ho, resolve, hf, Deferred.ofValue, invoke, run_callFunc hk]

theorem callee_pure (R : Rel w0 Z0 J Z s a w) {f : Operand} {k : FuncId} (h : calleeF (s.ev f) = .pure k) : a.eval f = .func (.func k) #[] #[] := by
  have hx := R.ev f
  generalize s.ev f = av at h hx
  generalize a.eval f = vx at hx ⊢
  unfold calleeF at h
  split at h
  · split at h
    · rename_i k' A B hs
      cases h
      have hA : A = #[] := Array.eq_empty_of_size_eq_zero hs.1
      have hB : B = #[] := Array.eq_empty_of_size_eq_zero hs.2
      subst hA hB
      cases hx; rfl
    · cases h
  · cases h
  · cases h
theorem callee_clo (R : Rel w0 Z0 J Z s a w) {f : Operand} {k : FuncId} {l m : List LV} (h : calleeF (s.ev f) = .clo k l m) : ∃ A B, a.eval f = .func (.func k) A B ∧ All2 (LRel w J Z) A.toList l ∧ All2 (LRel w J Z) B.toList m := by
  have hx := R.ev f
  generalize s.ev f = av at h hx
  unfold calleeF at h
  split at h
  · split at h <;> cases h
  · cases h
    exact hx
  · cases h
theorem callF_sound (R : Rel w0 Z0 J Z s a w) {K : AS → Prop} {K2 : Act → World → Prop} {Q : Exit → Act → World → Prop} (hd : dstOk s o.dst) (h : callF P o s K) (hK : ∀ s' a' w', Rep w0 Z0 s' a' w' → K s' → K2 a' w') : o.wp P a w K2 Q := by
  unfold callF at h
  split at h
  · rename_i f args tys ho
    split at h
    · rename_i k hk
      split at h
      · rename_i nd ps own ha
        obtain ⟨h1, h2, r, h3, h4, h5⟩ := h
        have hf := callee_pure R hk
        refine upon_call (exec_call ho hf h1) ?_
        simp only [Array.empty_append, Array.append_empty]
        refine (call_rep R ha h2 h3 h4).mono fun e w' ⟨v, Z', he, R', hr⟩ => ⟨v, he, hK _ _ _ ⟨J, Z', R'.put (dstOk_spec hd) hr⟩ h5⟩
      · exact h.elim
    · rename_i k l m hk
      split at h
      · rename_i nd ps ha
        obtain ⟨h1, h2, r, H', h3, h5⟩ := h
        obtain ⟨A, B, hf, hA, hB⟩ := callee_clo R hk
        refine upon_call (exec_call ho hf h1) ?_
        have hargs : All2 (TRel w J Z) (A ++ args.map a.eval ++ B).toList (l.map LV.tv ++ ps ++ m.map LV.tv) := by
          simp only [Array.toList_append, Array.toList_map]
          exact ((All2.map_right.2 (hA.mono fun _ _ => LRel.tv)).append (tvs_rel R ha h2)).append (All2.map_right.2 (hB.mono fun _ _ => LRel.tv))
        refine (h3 w0 Z0 J Z s a w _ R rfl hargs).mono fun e w' ⟨v, J', Z', he, R', hr⟩ => ⟨v, he, hK _ _ _ ⟨J', Z', R'.put (dstOk_spec hd) hr⟩ h5⟩
      · exact h.elim
    · exact h.elim
  · rename_i op hop
    obtain ⟨h1, h2, u, h3, h4⟩ := h
    have he : execOp a.eval o = execOp (gρ s.ev) o := execOp_congr o (fun cs b e => by rw [e] at h1; cases h1) fun x hx => by
      have := List.all_eq_true.1 h2 x (by simpa using hx)
      obtain ⟨u, hu⟩ := Option.isSome_iff_exists.1 this
      rw [gρ, hu, gv_eval R hu]; rfl
    unfold Oper.wp
    rw [he, h3 w]
    exact hK _ _ _ ⟨J, Z, R.put (dstOk_spec hd) (constA_rel u)⟩ h4

theorem mbOf_true {x : AV} {u : Value} (h : ARel w J Z u x) : ARel w J Z u (x.mbOf true) := by
  cases x with
  | t x => exact ⟨fun _ => h, fun hb => by cases hb⟩
  | _ => trivial
theorem mbOf_false (x : AV) : ARel w J Z undef (x.mbOf false) := by
  cases x with
  | t x => exact ⟨fun hb => (by cases hb), fun _ => rfl⟩
  | _ => trivial

theorem callG_true (R : Rel w0 Z0 J Z s a w) {K : AS → Prop} {K2 : Act → World → Prop} {Q : Exit → Act → World → Prop} (hd : dstOk s o.dst) (h : callG P true o s K) (hK : ∀ s' a' w', Rep w0 Z0 s' a' w' → K s' → K2 a' w') : o.wp P a w K2 Q := by
  unfold callG at h
  split at h
  · rename_i f args tys ho
    split at h
    · rename_i k hk
      split at h
      · rename_i nd ps own ha
        obtain ⟨h1, h2, r, h3, h4, h5⟩ := h
        have hf := callee_pure R hk
        refine upon_call (exec_call ho hf h1) ?_
        simp only [Array.empty_append, Array.append_empty]
        refine (call_rep R ha (h2 rfl) (h3 rfl) h4).mono fun e w' ⟨v, Z', he, R', hr⟩ => ⟨v, he, hK _ _ _ ⟨J, Z', R'.put (dstOk_spec hd) (mbOf_true hr)⟩ h5⟩
      · exact h.elim
    · exact callF_sound R hd (h.1 rfl) hK
  · exact callF_sound R hd (h.1 rfl) hK
theorem callG_false (R : Rel w0 Z0 J Z s a w) {K : AS → Prop} {K2 : Act → World → Prop} (hd : dstOk s o.dst) (h : callG P false o s K) (hK : ∀ s' a' w', Rep w0 Z0 s' a' w' → K s' → K2 a' w') : K2 (a.put o.dst undef) w := by
  unfold callG at h
  split at h
  · split at h
    · split at h
      · obtain ⟨h1, h2, r, h3, h4, h5⟩ := h
        exact hK _ _ _ ⟨J, Z, R.put (dstOk_spec hd) (mbOf_false _)⟩ h5
      · exact h.elim
    · exact hK _ _ _ ⟨J, Z, R.putAny⟩ (h.2 rfl)
  · exact hK _ _ _ ⟨J, Z, R.putAny⟩ (h.2 rfl)

theorem does_wp {K2 : Act → World → Prop} {Q : Exit → Act → World → Prop} (h : Does P w0 Z0 Z s a w nid o v ef) (hK : ∀ J' w' u, Rel w0 Z0 J' Z (s.eff nid ef) a w' → ARel w' J' Z u v → K2 (a.put o.dst u) w') : o.wp P a w K2 Q := by
  obtain ⟨J', w', u, hrun, R', hr⟩ := h
  unfold Oper.wp
  rcases hrun with h | ⟨h, rfl⟩ <;> rw [h]
  · exact hK J' w' u R' hr
  · exact hK J' w' undef R' hr

theorem rd_g {v u : Value} (h : Rd w Z v (.g u)) : v = u := by cases h; rfl
theorem gB_spec (R : Rel w0 Z0 J Z s a w) {ops : Array Oper} {j : Nat} {want b : Bool} (h : gB (ops.toList.map (·.dst)) s j want = some b) : (yielded ops a.tmps j == some want) = b := by
  unfold gB at h
  rw [List.getElem?_map, Array.getElem?_toList] at h
  split at h
  · rename_i t ht
    have hd : (ops[j]?).bind (·.dst) = some t := by
      cases hj : ops[j]? with
      | none => rw [hj] at ht; cases ht
      | some o => rw [hj] at ht; simpa using ht
    have hs := R.slots t
    have key : ∀ u : Value, a.tmps.getD t undef = u → (a.tmps[t]? = some u ∨ (a.tmps[t]? = none ∧ u = undef)) := fun u hu => by
      cases hx : a.tmps[t]? with
      | none => right; exact ⟨rfl, by rw [← hu]; simp [hx]⟩
      | some y => left; rw [← hu]; simp [hx]
    split at h
    · rename_i c hc
      rw [hc] at hs
      cases h
      have hv : a.tmps.getD t undef = .bool c := rd_g hs
      rcases key _ hv with h | ⟨_, h⟩
      · simp [yielded, hd, h]
      · cases h
    · rename_i b' c hc
      rw [hc] at hs
      cases h
      cases b' with
      | true =>
        have hv : a.tmps.getD t undef = .bool c := rd_g (hs.1 rfl)
        rcases key _ hv with h | ⟨_, h⟩
        · simp [yielded, hd, h]
        · cases h
      | false =>
        have hv := hs.2 rfl
        rcases key _ hv with h | ⟨h, _⟩
        · simp [yielded, hd, h, undef]
        · simp [yielded, hd, h]
    · cases h
  · cases h

theorem arun_wpOps {ops : Array Oper} {K : AS → Prop} {Q : Exit → Act → World → Prop} (hQ : ∀ s' a' w', Rep w0 Z0 s' a' w' → K s' → Q .normal a' w') :
    ∀ (os : List Oper) (k : Nat) (s : AS) (a : Act) (w : World), ops.toList.drop k = os → arun P (ops.toList.map (·.dst)) os s K → Rep w0 Z0 s a w → wpOps P ops Q (List.range' k os.length) a w
  | [], k, s, a, w, _, h, R => hQ _ _ _ R h
  | o :: os, k, s, a, w, hk, h, ⟨J, Z, R⟩ => by
    have ho : ops[k]? = some o := by
      have : (ops.toList.drop k)[0]? = some o := by rw [hk]; rfl
      rw [List.getElem?_drop] at this
      simpa using this
    have hk' : ops.toList.drop (k + 1) = os := by
      have := congrArg (List.drop 1) hk
      rw [List.drop_drop] at this
      simpa [Nat.add_comm] using this
    have ih := fun s a w => arun_wpOps hQ os (k + 1) s a w hk'
    rw [List.length_cons, List.range'_succ, wpOps_cons]
    refine wpOp_step ho fun K' hK' => ?_
    obtain ⟨hd, h⟩ := h
    have hnid := hget_ge s.heap s.heap.length (Nat.le_refl _)
    split at h
    · rename_i hg
      have hw : Region.wanted o (yielded ops a.tmps) = true := by simp [Region.wanted, hg]
      rw [if_pos hw]
      split at h
      · rename_i nd v ef hop
        refine does_wp (opF_sound R hnid hop h.1) fun J' w' u R' hr => hK' _ _ (ih _ _ _ h.2 ⟨J', Z, R'.put (fun d e => ?_) hr⟩)
        rw [eff_N]; exact dstOk_spec hd d e
      · exact callF_sound R hd h fun s' a' w' R' h' => hK' _ _ (ih _ _ _ h' R')
    · rename_i j want hg
      split at h
      · rename_i b hb
        have hy := gB_spec R hb
        have hw : Region.wanted o (yielded ops a.tmps) = b := by simp only [Region.wanted, hg]; exact hy
        rw [hw]
        split at h
        · rename_i nd v hop
          cases b with
          | true =>
            rw [if_pos rfl]
            refine does_wp (opF_sound R hnid hop (h.1 rfl)) fun J' w' u R' hr => hK' _ _ (ih _ _ _ h.2 ⟨J', Z, R'.put (fun d e => dstOk_spec hd d e) (mbOf_true hr)⟩)
          | false =>
            rw [if_neg (by simp)]
            exact hK' _ _ (ih _ _ _ h.2 ⟨J, Z, R.put (dstOk_spec hd) (mbOf_false _)⟩)
        · rename_i nd v ef hop
          cases b with
          | true =>
            rw [if_pos rfl]
            refine does_wp (opF_sound R hnid hop (h.1 rfl).1) fun J' w' u R' hr => hK' _ _ (ih _ _ _ (h.1 rfl).2 ⟨J', Z, R'.put (fun d e => ?_) hr⟩)
            rw [eff_N]; exact dstOk_spec hd d e
          | false =>
            rw [if_neg (by simp)]
            exact hK' _ _ (ih _ _ _ (h.2 rfl) ⟨J, Z, R.putAny⟩)
        · cases b with
          | true =>
            rw [if_pos rfl]
            exact callG_true R hd h fun s' a' w' R' h' => hK' _ _ (ih _ _ _ h' R')
          | false =>
            rw [if_neg (by simp)]
            exact callG_false R hd h fun s' a' w' R' h' => hK' _ _ (ih _ _ _ h' R')
      · exact h.elim
end
end Go.Sea
