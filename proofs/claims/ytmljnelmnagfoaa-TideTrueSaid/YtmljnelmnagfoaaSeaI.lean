/- Code on abstract states; functions by value. -/
import Derived.Test.YtmljnelmnagfoaaSeaH
set_option linter.unusedVariables false
set_option linter.unusedSimpArgs false
namespace Go.Sea
open Go.RowKit

/-- What code does with an abstract state. -/
def AW (P : Program) (c : Code) (s : AS) (Q : Exit → AS → Prop) : Prop :=
  ∀ (w0 : World) (Z0 : Fr) (a : Act) (w : World), Rep w0 Z0 s a w → c.wp P (fun e a' w' => ∃ s', Rep w0 Z0 s' a' w' ∧ Q e s') a w
def thenA (K : AS → Prop) (Q : Exit → AS → Prop) : Exit → AS → Prop
  | .normal, s => K s
  | e, s => Q e s
def blockA (id : Nat) (Q : Exit → AS → Prop) : Exit → AS → Prop
  | .exit id', s => if id' = id then Q .normal s else Q (.exit id') s
  | e, s => Q e s
section
variable {P : Program} {s : AS} {Q : Exit → AS → Prop}
theorem AW.mono {c : Code} {Q' : Exit → AS → Prop} (h : AW P c s Q) (hq : ∀ e s, Q e s → Q' e s) : AW P c s Q' :=
  fun w0 Z0 a w R => wp_mono (h w0 Z0 a w R) fun e a' w' ⟨s', R', q⟩ => ⟨s', R', hq _ _ q⟩
theorem AW_skip (h : Q .normal s) : AW P .skip s Q := fun w0 Z0 a w R => wp_skip ⟨s, R, h⟩
theorem AW_exit {id : Nat} (h : Q (.exit id) s) : AW P (.exit id) s Q := fun w0 Z0 a w R => wp_exit ⟨s, R, h⟩
theorem AW_ret (h : Q .ret s) : AW P .ret s Q := fun w0 Z0 a w R => wp_ret ⟨s, R, h⟩
theorem AW_seq {x y : Code} (h : AW P x s (thenA (fun s' => AW P y s' Q) Q)) : AW P (.seq x y) s Q := fun w0 Z0 a w R => by
  refine wp_seq (wp_mono (h w0 Z0 a w R) fun e a' w' ⟨s', R', q⟩ => ?_)
  cases e with
  | normal => exact q w0 Z0 a' w' R'
  | _ => exact ⟨s', R', q⟩
/-- What follows is kept behind a name. -/
theorem AW_seq_k {x y : Code} (h : ∀ K : AS → Prop, (∀ s', AW P y s' Q → K s') → AW P x s (thenA K Q)) : AW P (.seq x y) s Q := AW_seq (h _ fun _ h => h)
theorem AW_cond {c : Operand} {x y : Code} {b : Bool} (hb : (s.ev c).tv.bind TV.bool? = some b) (hn : (s.ev c).nd) (ht : b = true → AW P x s Q) (hf : b = false → AW P y s Q) : AW P (.cond c x y) s Q := fun w0 Z0 a w R => by
  obtain ⟨J, Z, R'⟩ := R
  obtain ⟨t, h1, h2⟩ := tv_of_bind hb
  have hc := (ARel.tv (R'.ev c) h1 hn).bool h2
  refine wp_cond hc ?_
  cases b with
  | true => exact ht rfl w0 Z0 a w ⟨J, Z, R'⟩
  | false => exact hf rfl w0 Z0 a w ⟨J, Z, R'⟩
theorem AW_block {id : Nat} {c : Code} (h : AW P c s (blockA id Q)) : AW P (.block id c) s Q := fun w0 Z0 a w R => by
  refine wp_block (wp_mono (h w0 Z0 a w R) fun e a' w' ⟨s', R', q⟩ => ?_)
  cases e with
  | exit id' =>
    simp only [blockA, Exit.inBlock] at q ⊢
    split at q
    · rename_i h; rw [if_pos h]; exact ⟨s', R', q⟩
    · rename_i h; rw [if_neg h]; exact ⟨s', R', q⟩
  | _ => exact ⟨s', R', q⟩
theorem AW_region {id : Nat} {ops : Array Oper} (h : arun P (ops.toList.map (·.dst)) ops.toList s fun s' => Q .normal s') : AW P (.region id ops false) s Q := fun w0 Z0 a w R => by
  refine wp_region ?_
  have := arun_wpOps (P := P) (w0 := w0) (Z0 := Z0) (ops := ops) (K := fun s' => Q .normal s') (Q := fun e a' w' => ∃ s', Rep w0 Z0 s' a' w' ∧ Q e s') (fun s' a' w' R' q => ⟨s', R', q⟩) ops.toList 0 s a w (by simp) h R
  rw [List.range_eq_range']
  simpa using this

/-- Forgetting slots and blocks. -/
def Weak (s s' : AS) : Prop :=
  s'.N = s.N ∧ (∀ t, s'.get t = .any ∨ (s'.get t = s.get t ∧ (s.get t).ok fun i => (hget s'.heap i).isSome = true)) ∧
  (∀ t, lk s'.gh t = .any ∨ (lk s'.gh t = lk s.gh t ∧ (lk s.gh t).ok fun i => (hget s'.heap i).isSome = true)) ∧
  ∀ i cs, hget s'.heap i = some cs → ∃ cs0, hget s.heap i = some cs0 ∧ All2 (fun x y => y = .any ∨ (x = y ∧ y.ok fun i => (hget s'.heap i).isSome = true)) (cs0.take cs.length) cs
theorem Rep.weak {w0 : World} {Z0 : Fr} {s s' : AS} {a : Act} {w : World} (h : Weak s s') (R : Rep w0 Z0 s a w) : Rep w0 Z0 s' a w := by
  obtain ⟨J, Z, R⟩ := R
  exact ⟨_, Z, R.weak h.1 h.2.1 h.2.2.1 h.2.2.2⟩
theorem AW_weak {c : Code} {s' : AS} (hw : Weak s s') (h : AW P c s' Q) : AW P c s Q := fun w0 Z0 a w R => h w0 Z0 a w (R.weak hw)
def okE (h : List (Option (List CV))) (e e' : List (Nat × AV)) : Prop := ∀ p, p ∈ e' → lk e p.1 = p.2 ∧ p.2.ok fun i => (hget h i).isSome = true
theorem okE_lk {h : List (Option (List CV))} {e : List (Nat × AV)} : ∀ {e' : List (Nat × AV)}, okE h e e' → ∀ t, lk e' t = .any ∨ (lk e' t = lk e t ∧ (lk e t).ok fun i => (hget h i).isSome = true)
  | [], _, t => Or.inl rfl
  | (k, v) :: r, H, t => by
    simp only [lk]
    split
    · rename_i e; subst e
      have := H (t, v) (by simp)
      simp only at this
      exact Or.inr ⟨this.1.symm, by rw [this.1]; exact this.2⟩
    · exact okE_lk (fun p hp => H p (by simp [hp])) t
def wkC (ok : Nat → Prop) : List CV → List CV → Prop
  | _, [] => True
  | c :: l, c' :: l' => (c' = .any ∨ (c = c' ∧ c'.ok ok)) ∧ wkC ok l l'
  | [], _ :: _ => False
theorem wkC_spec {ok : Nat → Prop} : ∀ {l m : List CV}, wkC ok l m → All2 (fun x y => y = .any ∨ (x = y ∧ y.ok ok)) (l.take m.length) m
  | _, [], _ => by simp [All2]
  | _ :: _, _ :: _, ⟨h1, h2⟩ => ⟨h1, wkC_spec h2⟩
theorem wkC_refl {ok : Nat → Prop} : ∀ (l : List CV), (∀ c, c ∈ l → c.ok ok) → wkC ok l l
  | [], _ => trivial
  | c :: l, h => ⟨Or.inr ⟨rfl, h c (by simp)⟩, wkC_refl l fun x hx => h x (by simp [hx])⟩
def wkH (ok : Nat → Prop) : List (Option (List CV)) → List (Option (List CV)) → Prop
  | _, [] => True
  | some _ :: h, none :: h' => wkH ok h h'
  | none :: h, none :: h' => wkH ok h h'
  | some cs :: h, some cs' :: h' => wkC ok cs cs' ∧ wkH ok h h'
  | none :: _, some _ :: _ => False
  | [], none :: h' => wkH ok [] h'
  | [], some _ :: _ => False
theorem wkH_spec {ok : Nat → Prop} : ∀ {h h' : List (Option (List CV))}, wkH ok h h' → ∀ i cs, hget h' i = some cs → ∃ cs0, hget h i = some cs0 ∧ All2 (fun x y => y = .any ∨ (x = y ∧ y.ok ok)) (cs0.take cs.length) cs
  | _, [], _, i, cs, hi => by simp [hget] at hi
  | some _ :: h, none :: h', H, 0, cs, hi => by simp [hget] at hi
  | none :: h, none :: h', H, 0, cs, hi => by simp [hget] at hi
  | some _ :: h, none :: h', H, i + 1, cs, hi => by rw [hget_succ] at hi ⊢; exact wkH_spec (h := h) (h' := h') H i cs hi
  | none :: h, none :: h', H, i + 1, cs, hi => by rw [hget_succ] at hi ⊢; exact wkH_spec (h := h) (h' := h') H i cs hi
  | some c0 :: h, some c1 :: h', H, 0, cs, hi => by
    rw [hget_zero] at hi ⊢
    cases hi
    exact ⟨c0, rfl, wkC_spec H.1⟩
  | some c0 :: h, some c1 :: h', H, i + 1, cs, hi => by rw [hget_succ] at hi ⊢; exact wkH_spec (h := h) (h' := h') H.2 i cs hi
  | none :: _, some _ :: _, H, i, cs, hi => H.elim
  | [], none :: h', H, 0, cs, hi => by simp [hget] at hi
  | [], none :: h', H, i + 1, cs, hi => by
    rw [hget_succ] at hi
    obtain ⟨c0, h1, _⟩ := wkH_spec (h := []) (h' := h') H i cs hi
    rw [hget_nil] at h1; cases h1
  | [], some _ :: _, H, i, cs, hi => H.elim
theorem Weak.of {s s' : AS} (hN : s'.N = s.N) (hg : s'.gh = s.gh ∧ ∀ t, (lk s.gh t).ok fun i => (hget s'.heap i).isSome = true) (he : okE s'.heap s.env s'.env) (hh : wkH (fun i => (hget s'.heap i).isSome = true) s.heap s'.heap) : Weak s s' :=
  ⟨hN, okE_lk he, fun t => Or.inr ⟨by rw [hg.1], hg.2 t⟩, wkH_spec hh⟩

theorem wp_loop_ind {c : Code} {Q : Exit → Act → World → Prop} {a : Act} {w : World} (I : Nat → Act → World → Prop) (n : Nat) (h₀ : I n a w)
    (round : ∀ n a w, I n a w → c.wp P (Exit.then (fun a' w' => ∃ m, m < n ∧ I m a' w') Q) a w) : (Code.loop c).wp P Q a w := by
  intro b k cs
  have key : ∀ n a w, I n a w → ∃ e a' w', Q e a' w' ∧ Arrives P (lone (b.at a (.code c :: .inLoop c :: k)) cs w) b k cs e a' w' := by
    intro n
    induction n using Nat.strongRecOn with
    | _ n ih =>
      intro a w hI
      obtain ⟨e, a₁, w₁, hq, harr⟩ := round n a w hI b (.inLoop c :: k) cs
      cases e with
      | normal =>
        obtain ⟨m, hlt, hI₁⟩ := hq
        obtain ⟨e₂, a₂, w₂, hq₂, harr₂⟩ := ih m hlt a₁ w₁ hI₁
        exact ⟨e₂, a₂, w₂, hq₂, .of_steps (Go.Steps.trans harr (.one step_inLoop)) harr₂⟩
      | exit id => exact ⟨_, a₁, w₁, hq, .pass (x := .inLoop c) rfl (fun _ _ => .inl (by simp)) harr⟩
      | goto l => exact ⟨_, a₁, w₁, hq, .pass (x := .inLoop c) rfl (fun _ _ => .inl (by simp)) harr⟩
      | ret => exact ⟨_, a₁, w₁, hq, .pass (x := .inLoop c) rfl (fun _ _ => .inl (by simp)) harr⟩
      | panic ch => exact ⟨_, a₁, w₁, hq, .pass (x := .inLoop c) rfl (fun _ _ => .inl (by simp)) harr⟩
      | outgrown => exact ⟨_, a₁, w₁, hq, .pass (x := .inLoop c) rfl (fun _ _ => .inl (by simp)) harr⟩
  obtain ⟨e, a', w', hq, harr⟩ := key n a w h₀
  exact ⟨e, a', w', hq, .of_steps (.one step_loop) harr⟩
/-- A loop: I n s holds at each round's head, and n gets less. -/
theorem AW_loop {c : Code} (I : Nat → AS → Prop) (n : Nat) (h0 : ∃ s0, Weak s s0 ∧ I n s0) (round : ∀ n s, I n s → AW P c s (thenA (fun s' => ∃ m s1, m < n ∧ Weak s' s1 ∧ I m s1) Q)) : AW P (.loop c) s Q := fun w0 Z0 a w R => by
  obtain ⟨s0, hw, hi⟩ := h0
  refine wp_loop_ind (fun n a w => ∃ s, Rep w0 Z0 s a w ∧ I n s) n ⟨s0, R.weak hw, hi⟩ fun n a w ⟨s, R, hi⟩ => ?_
  refine wp_mono (round n s hi w0 Z0 a w R) fun e a' w' ⟨s', R', q⟩ => ?_
  cases e with
  | normal =>
    obtain ⟨m, s1, hm, hw, hi⟩ := q
    exact ⟨m, hm, s1, R'.weak hw, hi⟩
  | _ => exact ⟨s', R', q⟩

def resF (P : Program) (s : AS) : List ResultVar → Option (Prop × List TV)
  | [] => some (True, [])
  | .tmp t :: r => match (s.get t).tv, resF P s r with
    | some v, some (nd, l) => some ((s.get t).nd ∧ nd, v :: l)
    | _, _ => none
  | .cell x t :: r => match (s.get x).tv, tyD P t with
    | some v, some (ag, n) => match loadF ag n (hget s.heap) v, resF P s r with
      | some (n1, .t y), some (nd, l) => some ((s.get x).nd ∧ n1 ∧ nd, y :: l)
      | _, _ => none
    | _, _ => none
def tupA : List TV → AV
  | [v] => .t v
  | l => .tup l
/-- The function's end: what it returns. -/
def retK (P : Program) (fn : Func) (r : PV) (e : Exit) (s : AS) : Prop :=
  (match e with | .normal | .ret => True | _ => False) ∧ match resF P s fn.results.toList with
    | some (nd, l) => nd ∧ match toPV (hget s.heap) (tupA l) with
      | some (n2, v, _) => n2 ∧ v = r
      | none => False
    | none => False
def argEnv : List TV → Nat → List (Nat × AV)
  | [], _ => []
  | v :: l, k => (k, .t v) :: argEnv l (k + 1)
theorem argEnv_lk : ∀ (l : List TV) (k t : Nat), lk (argEnv l k) t = if k ≤ t then ((l[t - k]?).map AV.t).getD .any else .any
  | [], k, t => by simp [argEnv, lk]
  | v :: l, k, t => by
    simp only [argEnv, lk]
    by_cases h : t = k
    · subst h; simp
    · rw [if_neg h, argEnv_lk l (k + 1) t]
      by_cases h2 : k ≤ t
      · rw [if_pos h2, if_pos (by omega), show t - k = (t - (k + 1)) + 1 by omega, List.getElem?_cons_succ]
      · rw [if_neg h2, if_neg (by omega)]
def resOne (tmps : Array Value) : ResultVar → Sem Value
  | .tmp t => pure (tmps.getD t undef)
  | .cell x t => do loadVar t (← asAddr (tmps.getD x undef))
theorem results_eq (fn : Func) (tmps : Array Value) : results fn tmps = (do let vs ← fn.results.mapM (resOne tmps); pure (if h : vs.size = 1 then vs[0] else .tuple vs)) := by
  unfold results
  congr 2
theorem run_results {w0 : World} {Z0 : Fr} {J : Nat → Option Nat} {Z : Nat → Prop} {a : Act} {w : World} (R : Rel w0 Z0 J Z s a w) : ∀ {l : List ResultVar} {nd : Prop} {m : List TV}, resF P s l = some (nd, m) → nd →
    ∃ vs : List Value, (l.mapM (resOne a.tmps)).run P w = .ok vs w ∧ All2 (TRel w J Z) vs m
  | [], _, _, h, _ => by simp only [resF, Option.some.injEq, Prod.mk.injEq] at h; obtain ⟨rfl, rfl⟩ := h; exact ⟨[], rfl, trivial⟩
  | .tmp t :: r, _, _, h, hn => by
    unfold resF at h
    split at h
    · rename_i v nd' l' h1 h2
      simp only [Option.some.injEq, Prod.mk.injEq] at h
      obtain ⟨rfl, rfl⟩ := h
      obtain ⟨vs, hvs, hr⟩ := run_results R h2 hn.2
      refine ⟨a.tmps.getD t undef :: vs, ?_, ARel.tv (R.slots t) h1 hn.1, hr⟩
      rw [List.mapM_cons]
      simp only [Sem.run_bind, resOne, Sem.run_pure, Result.andThen_ok, hvs]
    · cases h
  | .cell x t :: r, _, _, h, hn => by
    unfold resF at h
    split at h
    · rename_i v ag n h1 ht
      split at h
      · rename_i n1 y nd' l' h2 h3
        simp only [Option.some.injEq, Prod.mk.injEq] at h
        obtain ⟨rfl, rfl⟩ := h
        obtain ⟨vs, hvs, hr⟩ := run_results R h3 hn.2.2
        have hx := ARel.tv (R.slots x) h1 hn.1
        obtain ⟨u, hu, hur⟩ := run_load (P := P) R ht hx h2 hn.2.1
        refine ⟨u :: vs, ?_, hur, hr⟩
        have hptr : ∃ ad, a.tmps.getD x undef = .pointer (some ad) := by
          generalize a.tmps.getD x undef = vx at hx ⊢
          unfold loadF at h2
          split at h2
          · obtain ⟨b, off, X, rfl, _⟩ := hx; exact ⟨_, rfl⟩
          · obtain ⟨b, rfl, _⟩ := hx; exact ⟨_, rfl⟩
          · cases h2
        obtain ⟨ad, hp⟩ := hptr
        rw [hp] at hu
        have hu' : (loadVar t ad).run P w = .ok u w := by simpa [Instr.loadAt, Instr.sureAddr] using hu
        have has : (asAddr (.pointer (some ad))).run P w = .ok ad w := rfl
        rw [List.mapM_cons]
        have hone : (resOne a.tmps (.cell x t)).run P w = .ok u w := by
          show ((asAddr (a.tmps.getD x undef)) >>= fun y => loadVar t y).run P w = _
          rw [Sem.run_bind, hp, has]; exact hu'
        simp only [Sem.run_bind, hone, Sem.run_pure, Result.andThen_ok, hvs]
      · cases h
    · cases h
theorem retK_spec {w0 : World} {Z0 : Fr} {J : Nat → Option Nat} {Z : Nat → Prop} {a : Act} {w : World} {fn : Func} {e : Exit} {r : PV} (R : Rel w0 Z0 J Z s a w) (h : retK P fn r e s) :
    (e = .normal ∨ e = .ret) ∧ ∃ v, (results fn a.tmps).run P w = .ok v w ∧ PRel w (OwnZ J Z) v r := by
  obtain ⟨he, h⟩ := h
  refine ⟨by cases e <;> simp at he <;> simp, ?_⟩
  split at h
  · rename_i nd l h1
    obtain ⟨hn, h⟩ := h
    obtain ⟨vs, hvs, hr⟩ := run_results R h1 hn
    split at h
    · rename_i n2 v b h2
      obtain ⟨hn2, rfl⟩ := h
      have hA : ARel w J Z (if h : vs.toArray.size = 1 then vs.toArray[0] else .tuple vs.toArray) (tupA l) := by
        clear hvs h1 h2
        rcases l with _ | ⟨v1, _ | ⟨v2, l⟩⟩ <;> rcases vs with _ | ⟨u1, _ | ⟨u2, vs⟩⟩ <;> first | exact hr.elim | exact hr.2.elim | skip
        · exact ⟨_, rfl, hr⟩
        · exact hr.1
        · exact ⟨_, rfl, hr⟩
      refine ⟨_, ?_, PRel.zmono (fun b' hz => ?_) (toPV_rel R hA h2 hn2)⟩
      · rw [results_eq, ← Array.toArray_toList (xs := fn.results), List.mapM_toArray]
        simp only [Sem.run_bind, Sem.run_map, hvs, Result.andThen_ok, Sem.run_pure]
      · split at hz
        · exact hz
        · exact Or.inl hz
    · exact h.elim
  · exact h.elim
/-- A function by value, from its body. -/
theorem CallsP_of {k : FuncId} {fn : Func} {c : Code} {args : List PT} {r : PV} (hf : P.funcs[k]? = some fn) (hb : fn.body = some c) (hl : args.length ≤ fn.ntmps) (h : AW P c ⟨argEnv (args.map PT.tv) 0, [], fn.ntmps, []⟩ (retK P fn r)) : CallsP P k args r := by
  intro w Z vs hZ ha
  refine calls_of_wp hf hb ?_
  have hlen := ha.length
  simp only [Array.length_toList] at hlen
  have R : Rel w ⟨Z, fun _ => undef⟩ (fun _ => none) Z ⟨argEnv (args.map PT.tv) 0, [], fn.ntmps, []⟩ { tmps := vs ++ Array.replicate (fn.ntmps - vs.size) undef, defers := [] } w := by
    refine ⟨rfl, ?_, Below.refl _ _, fun b h => Or.inl h, hZ, (fun i b h => by cases h), (fun i j b h => by cases h), fun _ _ => rfl, (fun i cs h => by simp [hget] at h), fun t => ?_, fun t => trivial⟩
    · simp; omega
    · simp only [AS.get, argEnv_lk, Nat.zero_le, if_true, Nat.sub_zero]
      rw [List.getElem?_map]
      cases hx : args[t]? with
      | none => simp; trivial
      | some x =>
        obtain ⟨u, hu, hr⟩ := ha.get hx
        have : (vs ++ Array.replicate (fn.ntmps - vs.size) undef).getD t undef = u := by
          rw [Array.getElem?_toList] at hu
          have hlt : t < vs.size := (Array.getElem?_eq_some_iff.1 hu).1
          have := (Array.getElem?_eq_some_iff.1 hu).2
          simp only [Array.getD_eq_getD_getElem?, Array.getElem?_append_left hlt, hu, Option.getD_some]
        rw [this]
        exact PTRel.tv hr
  refine wp_mono (h w ⟨Z, fun _ => undef⟩ _ w ⟨_, _, R⟩) fun e a' w' ⟨s', ⟨J', Z', R'⟩, q⟩ => ?_
  obtain ⟨he, v, hv, hr⟩ := retK_spec R' q
  have hpost : a'.defers = [] ∧ ∃ v, (results fn a'.tmps).run P w' = .ok v w' ∧ (∃ v', (Ending.returned v) = .returned v' ∧ Below w.heap.size w w' ∧ PRel w' (fun b => Z b ∨ (w.heap.size ≤ b ∧ b < w'.heap.size)) v' r) :=
    ⟨R'.nodef, v, hv, v, rfl, R'.below, PRel.zmono (fun b hz => by
      rcases hz with hz | ⟨i, hz⟩
      · rcases R'.zfrom b hz with h1 | h1
        · exact Or.inl h1
        · exact Or.inr ⟨h1, R'.zlt b hz⟩
      · exact Or.inr ⟨(R'.jlt i b hz).1, (R'.jlt i b hz).2.1⟩) hr⟩
  rcases he with rfl | rfl <;> exact hpost
end
end Go.Sea
