/- Code on abstract states; functions by value. -/
import Derived.Test.YtifoncmlelinjaaSeaH
set_option linter.unusedVariables false
set_option linter.unusedSimpArgs false
namespace Go.Sea
open Go.RowKit

def blockA (id : Nat) (Q : Exit → AS → Prop) : Exit → AS → Prop
  | .exit id', s => if id' = id then Q .normal s else Q (.exit id') s
  | e, s => Q e s
section
variable {P : Program} {s : AS} {Q : Exit → AS → Prop}
theorem AW.mono {c : Code} {Q' : Exit → AS → Prop} (h : AW P c s Q) (hq : ∀ e s, Q e s → Q' e s) : AW P c s Q' :=
  fun w0 Z0 a w n R => wpIn_mono (h w0 Z0 a w n R) fun e a' w' ⟨s', R', q⟩ => ⟨s', R', hq _ _ q⟩
theorem AW_skip (h : Q .normal s) : AW P .skip s Q := fun w0 Z0 a w n R => wpIn_skip ⟨s, R, h⟩
theorem AW_exit {id : Nat} (h : Q (.exit id) s) : AW P (.exit id) s Q := fun w0 Z0 a w n R => wpIn_exit ⟨s, R, h⟩
theorem AW_goto {id : Nat} (h : Q (.goto id) s) : AW P (.goto id) s Q := fun w0 Z0 a w n R => wpIn_goto ⟨s, R, h⟩
theorem AW_ret (h : Q .ret s) : AW P .ret s Q := fun w0 Z0 a w n R => wpIn_ret ⟨s, R, h⟩
theorem AW_seq {x y : Code} (h : AW P x s (thenA (fun s' => AW P y s' Q) Q)) : AW P (.seq x y) s Q := fun w0 Z0 a w n R => by
  refine wpIn_seq (wpIn_mono (h w0 Z0 a w n R) fun e a' w' ⟨s', R', q⟩ => ?_)
  cases e with
  | normal => exact q w0 Z0 a' w' n R'
  | _ => exact ⟨s', R', q⟩
/-- What follows is kept behind a name. -/
theorem AW_seq_k {x y : Code} (h : ∀ K : AS → Prop, (∀ s', AW P y s' Q → K s') → AW P x s (thenA K Q)) : AW P (.seq x y) s Q := AW_seq (h _ fun _ h => h)
theorem AW_cond {c : Operand} {x y : Code} {b : Bool} (hb : (s.ev c).tv.bind TV.bool? = some b) (hn : (s.ev c).nd) (ht : b = true → AW P x s Q) (hf : b = false → AW P y s Q) : AW P (.cond c x y) s Q := fun w0 Z0 a w n R => by
  obtain ⟨J, Z, R'⟩ := R
  obtain ⟨t, h1, h2⟩ := tv_of_bind hb
  have hc := (ARel.tv (R'.ev c) h1 hn).bool h2
  refine wpIn_cond hc ?_
  cases b with
  | true => exact ht rfl w0 Z0 a w n ⟨J, Z, R'⟩
  | false => exact hf rfl w0 Z0 a w n ⟨J, Z, R'⟩
theorem AW_block {id : Nat} {c : Code} (h : AW P c s (blockA id Q)) : AW P (.block id c) s Q := fun w0 Z0 a w n R => by
  refine wpIn_block (wpIn_mono (h w0 Z0 a w n R) fun e a' w' ⟨s', R', q⟩ => ?_)
  cases e with
  | exit id' =>
    simp only [blockA, Exit.inBlock] at q ⊢
    split at q
    · rename_i h; rw [if_pos h]; exact ⟨s', R', q⟩
    · rename_i h; rw [if_neg h]; exact ⟨s', R', q⟩
  | _ => exact ⟨s', R', q⟩
theorem AW_region {id : Nat} {ops : Array Oper} (h : arun P (ops.toList.map (·.dst)) ops.toList s fun s' => Q .normal s') : AW P (.region id ops false) s Q := fun w0 Z0 a w n R => by
  refine wpIn_region ?_
  have := arun_wpOps (P := P) (w0 := w0) (Z0 := Z0) (n := n) (ops := ops) (K := fun s' => Q .normal s') (Q := fun e a' w' => ∃ s', Rep w0 Z0 s' a' w' ∧ Q e s') (fun s' a' w' R' q => ⟨s', R', q⟩) ops.toList 0 s a w (by simp) h R
  rw [List.range_eq_range']
  simpa using this

/-- Forgetting slots and blocks. -/
def Weak (s s' : AS) : Prop :=
  s'.N = s.N ∧ (∀ t, wkA (fun i => (hget s'.heap i).isSome = true) (s.get t) (s'.get t)) ∧
  (∀ f t, wkA (fun i => (hget s'.heap i).isSome = true) (gk s.gh f t) (gk s'.gh f t)) ∧ s'.lp = s.lp ∧
  ∀ i cs, hget s'.heap i = some cs → cs ≠ [] → ∃ cs0, hget s.heap i = some cs0 ∧ All2 (wkV fun i => (hget s'.heap i).isSome = true) (cs0.take cs.length) cs
theorem Rep.weak {w0 : World} {Z0 : Fr} {s s' : AS} {a : Act} {w : World} (h : Weak s s') (R : Rep w0 Z0 s a w) : Rep w0 Z0 s' a w := by
  obtain ⟨J, Z, R⟩ := R
  exact ⟨_, Z, R.weak h.1 h.2.1 h.2.2.1 h.2.2.2.1 h.2.2.2.2⟩
theorem AW_weak {c : Code} {s' : AS} (hw : Weak s s') (h : AW P c s' Q) : AW P c s Q := fun w0 Z0 a w n R => h w0 Z0 a w n (R.weak hw)
def okE (h : List (Option (List CV))) (e e' : List (Nat × AV)) : Prop := ∀ p, p ∈ e' → (lk e p.1 = p.2 ∧ p.2.ok fun i => (hget h i).isSome = true) ∨ nilA (lk e p.1) p.2
theorem okE_lk {h : List (Option (List CV))} {e : List (Nat × AV)} : ∀ {e' : List (Nat × AV)}, okE h e e' → ∀ t, wkA (fun i => (hget h i).isSome = true) (lk e t) (lk e' t)
  | [], _, t => Or.inl rfl
  | (k, v) :: r, H, t => by
    simp only [lk]
    split
    · rename_i e; subst e
      rcases H (t, v) (by simp) with this | this
      · simp only at this
        exact Or.inr (Or.inl ⟨this.1.symm, by rw [this.1]; exact this.2⟩)
      · exact Or.inr (Or.inr this)
    · exact okE_lk (fun p hp => H p (by simp [hp])) t
def wkC (ok : Nat → Prop) : List CV → List CV → Prop
  | _, [] => True
  | c :: l, c' :: l' => wkV ok c c' ∧ wkC ok l l'
  | [], _ :: _ => False
theorem wkC_spec {ok : Nat → Prop} : ∀ {l m : List CV}, wkC ok l m → All2 (wkV ok) (l.take m.length) m
  | _, [], _ => by simp [All2]
  | _ :: _, _ :: _, ⟨h1, h2⟩ => ⟨h1, wkC_spec h2⟩
theorem wkC_refl {ok : Nat → Prop} : ∀ (l : List CV), (∀ c, c ∈ l → c.ok ok) → wkC ok l l
  | [], _ => trivial
  | c :: l, h => ⟨Or.inr (Or.inl ⟨rfl, h c (by simp)⟩), wkC_refl l fun x hx => h x (by simp [hx])⟩
theorem wkC_eq {ok : Nat → Prop} {l m : List CV} (e : l = m) (h : ∀ c, c ∈ m → isIv c) : wkC ok l m := by
  subst e
  refine wkC_refl l fun c hc => ?_
  have := h c hc
  cases c <;> first | trivial | exact this.elim
def wkH (ok : Nat → Prop) : List (Option (List CV)) → List (Option (List CV)) → Prop
  | _, [] => True
  | some _ :: h, none :: h' => wkH ok h h'
  | none :: h, none :: h' => wkH ok h h'
  | some cs :: h, some cs' :: h' => wkC ok cs cs' ∧ wkH ok h h'
  | none :: h, some cs' :: h' => cs' = [] ∧ wkH ok h h'
  | [], none :: h' => wkH ok [] h'
  | [], some cs' :: h' => cs' = [] ∧ wkH ok [] h'
theorem wkH_spec {ok : Nat → Prop} : ∀ {h h' : List (Option (List CV))}, wkH ok h h' → ∀ i cs, hget h' i = some cs → cs ≠ [] → ∃ cs0, hget h i = some cs0 ∧ All2 (wkV ok) (cs0.take cs.length) cs
  | _, [], _, i, cs, hi, _ => by simp [hget] at hi
  | some _ :: h, none :: h', H, 0, cs, hi, _ => by simp [hget] at hi
  | none :: h, none :: h', H, 0, cs, hi, _ => by simp [hget] at hi
  | some _ :: h, none :: h', H, i + 1, cs, hi, hn => by rw [hget_succ] at hi ⊢; exact wkH_spec (h := h) (h' := h') H i cs hi hn
  | none :: h, none :: h', H, i + 1, cs, hi, hn => by rw [hget_succ] at hi ⊢; exact wkH_spec (h := h) (h' := h') H i cs hi hn
  | some c0 :: h, some c1 :: h', H, 0, cs, hi, hn => by
    rw [hget_zero] at hi ⊢
    cases hi
    exact ⟨c0, rfl, wkC_spec H.1⟩
  | some c0 :: h, some c1 :: h', H, i + 1, cs, hi, hn => by rw [hget_succ] at hi ⊢; exact wkH_spec (h := h) (h' := h') H.2 i cs hi hn
  | none :: h, some c1 :: h', H, 0, cs, hi, hn => by rw [hget_zero] at hi; cases hi; exact absurd H.1 hn
  | none :: h, some c1 :: h', H, i + 1, cs, hi, hn => by rw [hget_succ] at hi ⊢; exact wkH_spec (h := h) (h' := h') H.2 i cs hi hn
  | [], none :: h', H, 0, cs, hi, _ => by simp [hget] at hi
  | [], none :: h', H, i + 1, cs, hi, hn => by
    rw [hget_succ] at hi
    obtain ⟨c0, h1, _⟩ := wkH_spec (h := []) (h' := h') H i cs hi hn
    rw [hget_nil] at h1; cases h1
  | [], some c1 :: h', H, 0, cs, hi, hn => by rw [hget_zero] at hi; cases hi; exact absurd H.1 hn
  | [], some c1 :: h', H, i + 1, cs, hi, hn => by
    rw [hget_succ] at hi
    obtain ⟨c0, h1, _⟩ := wkH_spec (h := []) (h' := h') H.2 i cs hi hn
    rw [hget_nil] at h1; cases h1
theorem Weak.of {s s' : AS} (hN : s'.N = s.N) (hg : ∀ f, okE s'.heap (gf s.gh f) (gf s'.gh f)) (hl : s'.lp = s.lp) (he : okE s'.heap s.env s'.env) (hh : wkH (fun i => (hget s'.heap i).isSome = true) s.heap s'.heap) : Weak s s' :=
  ⟨hN, okE_lk he, fun f => okE_lk (hg f), hl, wkH_spec hh⟩

theorem wpIn_loop_ind {F : Fence} {m : Nat} {c : Code} {Q : Exit → Act → World → Prop} {a : Act} {w : World} (I : Nat → Act → World → Prop) (n : Nat) (h₀ : I n a w)
    (round : ∀ n a w, I n a w → c.wpIn F m P (Exit.then (fun a' w' => ∃ m, m < n ∧ I m a' w') Q) a w) : (Code.loop c).wpIn F m P Q a w := by
  intro b k cs hro hb hr
  have key : ∀ n a w, I n a w →
      ∃ e a' w', Q e a' w' ∧ ArrivesIn (Machine.fenced P F) P (lone (b.atR a (.code c :: .inLoop c :: k)) cs w) b k cs e a' w' := by
    intro n
    induction n using Nat.strongRecOn with
    | _ n ih =>
      intro a w hI
      obtain ⟨e, a₁, w₁, hq, harr⟩ := round n a w hI b (.inLoop c :: k) cs hro hb hr
      cases e with
      | normal =>
        obtain ⟨m', hlt, hI₁⟩ := hq
        obtain ⟨e₂, a₂, w₂, hq₂, harr₂⟩ := ih m' hlt a₁ w₁ hI₁
        exact ⟨e₂, a₂, w₂, hq₂, .of_steps (StepsIn.trans harr (.one (fenced_calm hb hr rfl) stepR_inLoop)) harr₂⟩
      | exit id => exact ⟨_, a₁, w₁, hq, .pass (x := .inLoop c) rfl (fun _ _ => .inl (by simp)) harr⟩
      | goto l => exact ⟨_, a₁, w₁, hq, .pass (x := .inLoop c) rfl (fun _ _ => .inl (by simp)) harr⟩
      | ret => exact ⟨_, a₁, w₁, hq, .pass (x := .inLoop c) rfl (fun _ _ => .inl (by simp)) harr⟩
      | panic ch => exact ⟨_, a₁, w₁, hq, .pass (x := .inLoop c) rfl (fun _ _ => .inl (by simp)) harr⟩
      | outgrown => exact ⟨_, a₁, w₁, hq, .pass (x := .inLoop c) rfl (fun _ _ => .inl (by simp)) harr⟩
  obtain ⟨e, a', w', hq, harr⟩ := key _ a w h₀
  exact ⟨e, a', w', hq, .of_steps (.one (fenced_calm hb hr rfl) stepR_loop) harr⟩
/-- A loop: I n s holds at each round's head, and n gets less. -/
theorem AW_loop {c : Code} (I : Nat → AS → Prop) (n : Nat) (h0 : ∃ s0, Weak s s0 ∧ I n s0) (round : ∀ n s, I n s → AW P c s (thenA (fun s' => ∃ m s1, m < n ∧ Weak s' s1 ∧ I m s1) Q)) : AW P (.loop c) s Q := fun w0 Z0 a w m R => by
  obtain ⟨s0, hw, hi⟩ := h0
  refine wpIn_loop_ind (fun n a w => ∃ s, Rep w0 Z0 s a w ∧ I n s) n ⟨s0, R.weak hw, hi⟩ fun n a w ⟨s, R, hi⟩ => ?_
  refine wpIn_mono (round n s hi w0 Z0 a w m R) fun e a' w' ⟨s', R', q⟩ => ?_
  cases e with
  | normal =>
    obtain ⟨m, s1, hm, hw, hi⟩ := q
    exact ⟨m, hm, s1, R'.weak hw, hi⟩
  | _ => exact ⟨s', R', q⟩

/-- The function's end: what it returns. -/
def retK (P : Program) (fn : Func) (r : PV) (e : Exit) (s : AS) : Prop :=
  (match e with | .normal | .ret => True | _ => False) ∧ match resF P s fn.results.toList with
    | some (nd, l) => nd ∧ match toPV (hget s.heap) (tupA l) with
      | some (n2, v, _) => n2 ∧ v.eqv r
      | none => False
    | none => False
theorem retK_spec {w0 : World} {Z0 : Fr} {J : Nat → Option Nat} {Z : Nat → Prop} {a : Act} {w : World} {fn : Func} {e : Exit} {r : PV} (R : Rel w0 Z0 J Z s a w) (h : retK P fn r e s) :
    (e = .normal ∨ e = .ret) ∧ ∃ v, (results fn a.tmps).run P w = .ok v w ∧ PRel w (OwnZ J Z) v r := by
  obtain ⟨he, h⟩ := h
  refine ⟨by cases e <;> simp at he <;> simp, ?_⟩
  split at h
  · rename_i nd l h1
    obtain ⟨hn, h⟩ := h
    obtain ⟨vs, hvs, hr⟩ := run_results R h1 hn
    split at h
    · rename_i n2 v b h2
      obtain ⟨hn2, hev⟩ := h
      have hA : ARel w J Z (if h : vs.toArray.size = 1 then vs.toArray[0] else .tuple vs.toArray) (tupA l) := by
        clear hvs h1 h2
        rcases l with _ | ⟨v1, _ | ⟨v2, l⟩⟩ <;> rcases vs with _ | ⟨u1, _ | ⟨u2, vs⟩⟩ <;> first | exact hr.elim | exact hr.2.elim | skip
        · exact ⟨_, rfl, hr⟩
        · exact hr.1
        · exact ⟨_, rfl, hr⟩
      refine ⟨_, ?_, PRel.eqv (PRel.zmono (fun b' hz => ?_) (toPV_rel R hA h2 hn2)) hev⟩
      · rw [results_eq, ← Array.toArray_toList (xs := fn.results), List.mapM_toArray]
        simp only [Sem.run_bind, Sem.run_map, hvs, Result.andThen_ok, Sem.run_pure]
      · split at hz
        · exact hz
        · exact Or.inl hz
    · exact h.elim
  · exact h.elim
/-- A function by value, from its body. -/
theorem CallsP_of {k : FuncId} {fn : Func} {c : Code} {args : List PT} {r : PV} (hf : P.funcs[k]? = some fn) (hb : fn.body = some c) (hl : args.length ≤ fn.ntmps) (h : AW P c ⟨argEnv (args.map PT.tv) 0, [], fn.ntmps, [], .top⟩ (retK P fn r)) : CallsP P k args r := by
  intro w Z vs hZ ha
  refine callsIn_wide.1 (callsIn_of_wp_marks (F := Fence.wide) (n := 0) hf hb trivial ?_)
  have hlen := ha.length
  simp only [Array.length_toList] at hlen
  have R : Rel w ⟨Z, fun _ _ => undef, none, []⟩ (fun _ => none) Z ⟨argEnv (args.map PT.tv) 0, [], fn.ntmps, [], .top⟩ { tmps := vs ++ Array.replicate (fn.ntmps - vs.size) undef, defers := [] } w := by
    refine ⟨⟨[], rfl, by simp, fun b hb => by cases hb⟩, ?_, Below.refl _ _, fun b h => Or.inl h, hZ, (fun i b h => by cases h), (fun i j b h => by cases h), fun _ _ => rfl, (fun i cs h => by simp [hget] at h), fun t => ?_, fun f t => trivial, (fun x hx => by cases hx), by simp, rfl⟩
    · simp; omega
    · simp only [AS.get, argEnv_lk, Nat.zero_le, if_true, Nat.sub_zero]
      rw [List.getElem?_map]
      cases hx : args[t]? with
      | none => simp; trivial
      | some x =>
        obtain ⟨u, hu, hr⟩ := ha.get hx
        have : (vs ++ Array.replicate (fn.ntmps - vs.size) undef).getD t undef = u := by
          rw [Array.getElem?_toList] at hu
          have hlt : t < vs.size := (Array.getElem?_eq_some_iff.1 hu).1
          have := (Array.getElem?_eq_some_iff.1 hu).2
          simp only [Array.getD_eq_getD_getElem?, Array.getElem?_append_left hlt, hu, Option.getD_some]
        rw [this]
        exact PTRel.tv hr
  refine wpIn_mono (h w ⟨Z, fun _ _ => undef, none, []⟩ _ w 0 ⟨_, _, R⟩) fun e a' w' ⟨s', ⟨J', Z', R'⟩, q⟩ => ?_
  have he := (retK_spec R' q).1
  have fin : LeavesInM Fence.wide 0 P fn a'.tmps (fun e w' => ∃ v, e = .returned v ∧ Below w.heap.size w w' ∧ PRel w' (fun b => Z b ∨ (w.heap.size ≤ b ∧ b < w'.heap.size)) v r) a'.defers .returning w' := by
    obtain ⟨M, m1, _⟩ := R'.nodef
    refine R'.leaves M m1 fun a2 w2 R2 h2 h3 => ?_
    obtain ⟨_, v, hv, hr⟩ := retK_spec R2 q
    rw [h2] at hv
    exact ⟨v, hv, v, rfl, R2.below, PRel.zmono (fun b hz => by
      rcases hz with hz | ⟨i, hz⟩
      · rcases R2.zfrom b hz with h1 | h1
        · exact Or.inl h1
        · exact Or.inr ⟨h1, R2.zlt b hz⟩
      · exact Or.inr ⟨(R2.jlt i b hz).1, (R2.jlt i b hz).2.1⟩) hr⟩
  rcases he with rfl | rfl <;> exact fin
end
end Go.Sea
