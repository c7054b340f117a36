/- Part 5 of 18: contracts of functions and plain laws for the root text. No condition. -/
import Derived.Test.YtmnejmpjmniiiaaGreatDoorV01
import Derived.Test.YtmnejmpjmniiiaaGreatDoorV02
import Derived.Test.YtmnejmpjmniiiaaGreatDoorV03
import Derived.Test.YtmnejmpjmniiiaaGreatDoorV04
import Derived.WalkKit
import Derived.WalkSpells
import Derived.Lib.Hide
import Derived.Deep.RegionHeld3
import Derived.Handy
set_option linter.unusedVariables false
set_option linter.unusedSimpArgs false
set_option linter.unusedSectionVars false
set_option linter.deprecated false
namespace Go.Sea
open Go.RowKit
def LX (id : Nat) (Q : Exit -> AS -> Prop) : Exit -> AS -> Prop
  | .exit id', s => if id' = id then Q .normal s else Q (.exit id') s
  | e, s => Q e s
theorem iG {P : Program} {b : Frame} {a : Act} {k : List Item} {cs : List Frame} {w : World} {c : Code} : step P (lone (b.atR a (.code (.scope c) :: k)) cs w) = .next (lone (b.atR a (.code c :: .inScope c :: k)) cs w) :=
  step_lone_go (by simp [stepG, stepG.exec, Frame.atR])
theorem zD {P : Program} {b : Frame} {a : Act} {k : List Item} {cs : List Frame} {w : World} {c : Code} : step P (lone (b.atR a (.inScope c :: k)) cs w) = .next (lone (b.atR a k) cs w) :=
  step_lone_go (by simp [stepG, stepG.exec, Frame.atR])
theorem Gu {F : Fence} {n : Nat} {P : Program} {c : Code} {Q : Exit -> Act -> World -> Prop} {a : Act} {w : World} (h : c.wpIn F n P (fun e a w => (∀ l, e ≠ .goto l) /\ Q e a w) a w) : (Code.scope c).wpIn F n P Q a w := by
  intro b k cs hro hb hr
  have h0 : (lone (b.atR a (.code (.scope c) :: k)) cs w).fenced P F := fenced_calm hb hr rfl
  obtain ⟨e, a₁, w₁, ⟨hg, hq⟩, harr⟩ := h b (.inScope c :: k) cs hro hb hr
  cases e with
  | normal => exact ⟨.normal, a₁, w₁, hq, .head h0 iG (StepsIn.trans harr (.one (fenced_calm hb hr rfl) zD))⟩
  | exit id =>
    have hx : exitTo id (.inScope c :: k) = exitTo id k := by simp [exitTo]
    exact ⟨_, a₁, w₁, hq, fun k' hk => .head h0 iG (harr.1 k' (by rw [hx]; exact hk)),
      fun hr' hk => let ⟨k₁, h1, h2⟩ := harr.2 hr' (by rw [hx]; exact hk); ⟨k₁, h1, .head h0 iG h2⟩⟩
  | goto l => exact absurd rfl (hg l)
  | ret => exact ⟨_, a₁, w₁, hq, .of_steps (.one h0 iG) harr⟩
  | panic ch => exact ⟨_, a₁, w₁, hq, .of_steps (.one h0 iG) harr⟩
  | outgrown => exact ⟨_, a₁, w₁, hq, .of_steps (.one h0 iG) harr⟩
def Vq (Q : Exit -> AS -> Prop) : Exit -> AS -> Prop
  | .goto _, _ => False
  | .normal, s => Q .normal s
  | .exit id, s => Q (.exit id) s
  | e, s => Q e s
section
variable {P : Program} {s : AS} {Q : Exit -> AS -> Prop}
theorem AW.mono {c : Code} {Q' : Exit -> AS -> Prop} (h : AW P c s Q) (hq : ∀ e s, Q e s -> Q' e s) : AW P c s Q' :=
  fun w0 Z0 a w n R => wpIn_mono (h w0 Z0 a w n R) fun e a' w' ⟨s', R', q⟩ => ⟨s', R', hq _ _ q⟩
theorem aI (h : Q .normal s) : AW P .skip s Q := fun w0 Z0 a w n R => wpIn_skip ⟨s, R, h⟩
theorem U5 {l : Nat} (h : Q .normal s) : AW P (.label l) s Q := fun w0 Z0 a w n R => wpIn_label ⟨s, R, h⟩
theorem I5 {c : Code} (h : AW P c s (Vq Q)) : AW P (.scope c) s Q := fun w0 Z0 a w n R => by
  refine Gu (wpIn_mono (h w0 Z0 a w n R) fun e a' w' ⟨s', R', q⟩ => ?_)
  cases e with
  | goto l => exact q.elim
  | _ => exact ⟨fun l h => (by cases h), s', R', q⟩
theorem aX {id : Nat} (h : Q (.exit id) s) : AW P (.exit id) s Q := fun w0 Z0 a w n R => wpIn_exit ⟨s, R, h⟩
theorem aT (h : Q .ret s) : AW P .ret s Q := fun w0 Z0 a w n R => wpIn_ret ⟨s, R, h⟩
theorem adA {x y : Code} (h : AW P x s (vU (fun s' => AW P y s' Q) Q)) : AW P (.seq x y) s Q := fun w0 Z0 a w n R => by
  refine wpIn_seq (wpIn_mono (h w0 Z0 a w n R) fun e a' w' ⟨s', R', q⟩ => ?_)
  cases e with
  | normal => exact q w0 Z0 a' w' n R'
  | _ => exact ⟨s', R', q⟩
theorem aS {x y : Code} (h : ∀ K : AS -> Prop, (∀ s', AW P y s' Q -> K s') -> AW P x s (vU K Q)) : AW P (.seq x y) s Q := adA (h _ fun _ h => h)
theorem Xn {c : Operand} {x y : Code} {b : Bool} (hb : (s.ev c).tv.bind TV.bool? = some b) (hn : (s.ev c).nd) (ht : b = true -> AW P x s Q) (hf : b = false -> AW P y s Q) : AW P (.cond c x y) s Q := fun w0 Z0 a w n R => by
  obtain ⟨J, Z, R'⟩ := R
  obtain ⟨t, h1, h2⟩ := bV hb
  have hc := (bD.tv (R'.ev c) h1 hn).bool h2
  refine wpIn_cond hc ?_
  cases b with
  | true => exact ht rfl w0 Z0 a w n ⟨J, Z, R'⟩
  | false => exact hf rfl w0 Z0 a w n ⟨J, Z, R'⟩
theorem aB {id : Nat} {c : Code} (h : AW P c s (LX id Q)) : AW P (.block id c) s Q := fun w0 Z0 a w n R => by
  refine wpIn_block (wpIn_mono (h w0 Z0 a w n R) fun e a' w' ⟨s', R', q⟩ => ?_)
  cases e with
  | exit id' =>
    simp only [LX, Exit.inBlock] at q ⊢
    split at q
    · rename_i h; rw [if_pos h]; exact ⟨s', R', q⟩
    · rename_i h; rw [if_neg h]; exact ⟨s', R', q⟩
  | _ => exact ⟨s', R', q⟩
theorem PO {id : Nat} {ops : Array Oper} (h : eD P (ops.toList.map (·.dst)) ops.toList s fun s' => Q .normal s') : AW P (.region id ops false) s Q := fun w0 Z0 a w n R => by
  refine wpIn_region ?_
  have := Aq (P := P) (w0 := w0) (Z0 := Z0) (n := n) (ops := ops) (K := fun s' => Q .normal s') (Q := fun e a' w' => ∃ s', l5 w0 Z0 s' a' w' /\ Q e s') (fun s' a' w' R' q => ⟨s', R', q⟩) ops.toList 0 s a w (by simp) h R
  rw [List.range_eq_range']
  simpa using this
def Weak (s s' : AS) : Prop :=
  s'.N = s.N /\ (∀ t, wkA (fun i => (hget s'.heap i).isSome = true) (s.get t) (s'.get t)) ∧
  (∀ f t, wkA (fun i => (hget s'.heap i).isSome = true) (gk s.gh f t) (gk s'.gh f t)) /\ s'.lp = s.lp ∧
  ∀ i cs, hget s'.heap i = some cs -> cs ≠ [] -> ∃ cs0, hget s.heap i = some cs0 /\ aU (ZK fun i => (hget s'.heap i).isSome = true) (cs0.take cs.length) cs
theorem l5.weak {w0 : World} {Z0 : Fr} {s s' : AS} {a : Act} {w : World} (h : Weak s s') (R : l5 w0 Z0 s a w) : l5 w0 Z0 s' a w := by
  obtain ⟨J, Z, R⟩ := R
  exact ⟨_, Z, R.weak h.1 h.2.1 h.2.2.1 h.2.2.2.1 h.2.2.2.2⟩
def okE (h : List (Option (List CV))) (e e' : List (Nat × AV)) : Prop := ∀ p, p ∈ e' -> (lk e p.1 = p.2 /\ p.2.ok fun i => (hget h i).isSome = true) \/ O1 (lk e p.1) p.2
theorem K9 {h : List (Option (List CV))} {e : List (Nat × AV)} : ∀ {e' : List (Nat × AV)}, okE h e e' -> ∀ t, wkA (fun i => (hget h i).isSome = true) (lk e t) (lk e' t)
  | [], _, t => Or.inl rfl
  | (k, v) :: r, H, t => by
    simp only [lk]
    split
    · rename_i e; subst e
      rcases H (t, v) (by simp) with this | this
      · simp only at this
        exact Or.inr (Or.inl ⟨this.1.symm, by rw [this.1]; exact this.2⟩)
      · exact Or.inr (Or.inr this)
    · exact K9 (fun p hp => H p (by simp [hp])) t
def V7 (ok : Nat -> Prop) : List CV -> List CV -> Prop
  | _, [] => True
  | c :: l, c' :: l' => ZK ok c c' /\ V7 ok l l'
  | [], _ :: _ => False
theorem Ii {ok : Nat -> Prop} : ∀ {l m : List CV}, V7 ok l m -> aU (ZK ok) (l.take m.length) m
  | _, [], _ => by simp [aU]
  | _ :: _, _ :: _, ⟨h1, h2⟩ => ⟨h1, Ii h2⟩
theorem FU {ok : Nat -> Prop} : ∀ (l : List CV), (∀ c, c ∈ l -> c.ok ok) -> V7 ok l l
  | [], _ => trivial
  | c :: l, h => ⟨Or.inr (Or.inl ⟨rfl, h c (by simp)⟩), FU l fun x hx => h x (by simp [hx])⟩
theorem bO {ok : Nat -> Prop} {l m : List CV} (e : l = m) (h : ∀ c, c ∈ m -> kg c) : V7 ok l m := by
  subst e
  refine FU l fun c hc => ?_
  have := h c hc
  cases c <;> first | trivial | exact this.elim
def KW (ok : Nat -> Prop) : List (Option (List CV)) -> List (Option (List CV)) -> Prop
  | _, [] => True
  | some _ :: h, none :: h' => KW ok h h'
  | none :: h, none :: h' => KW ok h h'
  | some cs :: h, some cs' :: h' => V7 ok cs cs' /\ KW ok h h'
  | none :: h, some cs' :: h' => cs' = [] /\ KW ok h h'
  | [], none :: h' => KW ok [] h'
  | [], some cs' :: h' => cs' = [] /\ KW ok [] h'
theorem lZ {ok : Nat -> Prop} : ∀ {h h' : List (Option (List CV))}, KW ok h h' -> ∀ i cs, hget h' i = some cs -> cs ≠ [] -> ∃ cs0, hget h i = some cs0 /\ aU (ZK ok) (cs0.take cs.length) cs
  | _, [], _, i, cs, hi, _ => by simp [hget] at hi
  | some _ :: h, none :: h', H, 0, cs, hi, _ => by simp [hget] at hi
  | none :: h, none :: h', H, 0, cs, hi, _ => by simp [hget] at hi
  | some _ :: h, none :: h', H, i + 1, cs, hi, hn => by rw [dW] at hi ⊢; exact lZ (h := h) (h' := h') H i cs hi hn
  | none :: h, none :: h', H, i + 1, cs, hi, hn => by rw [dW] at hi ⊢; exact lZ (h := h) (h' := h') H i cs hi hn
  | some c0 :: h, some c1 :: h', H, 0, cs, hi, hn => by
    rw [kZ] at hi ⊢
    cases hi
    exact ⟨c0, rfl, Ii H.1⟩
  | some c0 :: h, some c1 :: h', H, i + 1, cs, hi, hn => by rw [dW] at hi ⊢; exact lZ (h := h) (h' := h') H.2 i cs hi hn
  | none :: h, some c1 :: h', H, 0, cs, hi, hn => by rw [kZ] at hi; cases hi; exact absurd H.1 hn
  | none :: h, some c1 :: h', H, i + 1, cs, hi, hn => by rw [dW] at hi ⊢; exact lZ (h := h) (h' := h') H.2 i cs hi hn
  | [], none :: h', H, 0, cs, hi, _ => by simp [hget] at hi
  | [], none :: h', H, i + 1, cs, hi, hn => by
    rw [dW] at hi
    obtain ⟨c0, h1, _⟩ := lZ (h := []) (h' := h') H i cs hi hn
    rw [lC] at h1; cases h1
  | [], some c1 :: h', H, 0, cs, hi, hn => by rw [kZ] at hi; cases hi; exact absurd H.1 hn
  | [], some c1 :: h', H, i + 1, cs, hi, hn => by
    rw [dW] at hi
    obtain ⟨c0, h1, _⟩ := lZ (h := []) (h' := h') H.2 i cs hi hn
    rw [lC] at h1; cases h1
theorem Weak.of {s s' : AS} (hN : s'.N = s.N) (hg : ∀ f, okE s'.heap (gf s.gh f) (gf s'.gh f)) (hl : s'.lp = s.lp) (he : okE s'.heap s.env s'.env) (hh : KW (fun i => (hget s'.heap i).isSome = true) s.heap s'.heap) : Weak s s' :=
  ⟨hN, K9 he, fun f => K9 (hg f), hl, lZ hh⟩
theorem BR {F : Fence} {m : Nat} {c : Code} {Q : Exit -> Act -> World -> Prop} {a : Act} {w : World} (I : Nat -> Act -> World -> Prop) (n : Nat) (h₀ : I n a w)
    (round : ∀ n a w, I n a w -> c.wpIn F m P (Exit.then (fun a' w' => ∃ m, m < n /\ I m a' w') Q) a w) : (Code.loop c).wpIn F m P Q a w := by
  intro b k cs hro hb hr
  have key : ∀ n a w, I n a w ->
      ∃ e a' w', Q e a' w' /\ ArrivesIn (Machine.fenced P F) P (lone (b.atR a (.code c :: .inLoop c :: k)) cs w) b k cs e a' w' := by
    intro n
    induction n using Nat.strongRecOn with
    | _ n ih =>
      intro a w hI
      obtain ⟨e, a₁, w₁, hq, harr⟩ := round n a w hI b (.inLoop c :: k) cs hro hb hr
      cases e with
      | normal =>
        obtain ⟨m', hlt, hI₁⟩ := hq
        obtain ⟨e₂, a₂, w₂, hq₂, harr₂⟩ := ih m' hlt a₁ w₁ hI₁
        exact ⟨e₂, a₂, w₂, hq₂, .of_steps (StepsIn.trans harr (.one (fenced_calm hb hr rfl) stepR_inLoop)) harr₂⟩
      | exit id => exact ⟨_, a₁, w₁, hq, .pass (x := .inLoop c) rfl (fun _ _ => .inl (by simp)) harr⟩
      | goto l => exact ⟨_, a₁, w₁, hq, .pass (x := .inLoop c) rfl (fun _ _ => .inl (by simp)) harr⟩
      | ret => exact ⟨_, a₁, w₁, hq, .pass (x := .inLoop c) rfl (fun _ _ => .inl (by simp)) harr⟩
      | panic ch => exact ⟨_, a₁, w₁, hq, .pass (x := .inLoop c) rfl (fun _ _ => .inl (by simp)) harr⟩
      | outgrown => exact ⟨_, a₁, w₁, hq, .pass (x := .inLoop c) rfl (fun _ _ => .inl (by simp)) harr⟩
  obtain ⟨e, a', w', hq, harr⟩ := key _ a w h₀
  exact ⟨e, a', w', hq, .of_steps (.one (fenced_calm hb hr rfl) stepR_loop) harr⟩
theorem VE {c : Code} (I : Nat -> AS -> Prop) (n : Nat) (h0 : ∃ s0, Weak s s0 /\ I n s0) (round : ∀ n s, I n s -> AW P c s (vU (fun s' => ∃ m s1, m < n /\ Weak s' s1 /\ I m s1) Q)) : AW P (.loop c) s Q := fun w0 Z0 a w m R => by
  obtain ⟨s0, hw, hi⟩ := h0
  refine BR (fun n a w => ∃ s, l5 w0 Z0 s a w /\ I n s) n ⟨s0, R.weak hw, hi⟩ fun n a w ⟨s, R, hi⟩ => ?_
  refine wpIn_mono (round n s hi w0 Z0 a w m R) fun e a' w' ⟨s', R', q⟩ => ?_
  cases e with
  | normal =>
    obtain ⟨m, s1, hm, hw, hi⟩ := q
    exact ⟨m, hm, s1, R'.weak hw, hi⟩
  | _ => exact ⟨s', R', q⟩
def acT (P : Program) (fn : Func) (r : PV) (e : Exit) (s : AS) : Prop :=
  (match e with | .normal | .ret => True | _ => False) /\ match Ci P s fn.results.toList with
    | some (nd, l) => nd /\ match Qr (hget s.heap) (Pb l) with
      | some (n2, v, _) => n2 /\ v.eqv r
      | none => False
    | none => False
theorem C9 {w0 : World} {Z0 : Fr} {J : Nat -> Option Nat} {Z : Nat -> Prop} {a : Act} {w : World} {fn : Func} {e : Exit} {r : PV} (R : Rel w0 Z0 J Z s a w) (h : acT P fn r e s) :
    (e = .normal \/ e = .ret) /\ ∃ v, (results fn a.tmps).run P w = .ok v w /\ l8 w (vo J Z) v r := by
  obtain ⟨he, h⟩ := h
  refine ⟨by cases e <;> simp at he <;> simp, ?_⟩
  split at h
  · rename_i nd l h1
    obtain ⟨hn, h⟩ := h
    obtain ⟨vs, hvs, hr⟩ := mI R h1 hn
    split at h
    · rename_i n2 v b h2
      obtain ⟨hn2, hev⟩ := h
      have hA : bD w J Z (if h : vs.toArray.size = 1 then vs.toArray[0] else .tuple vs.toArray) (Pb l) := by
        clear hvs h1 h2
        rcases l with _ | ⟨v1, _ | ⟨v2, l⟩⟩ <;> rcases vs with _ | ⟨u1, _ | ⟨u2, vs⟩⟩ <;> first | exact hr.elim | exact hr.2.elim | skip
        · exact ⟨_, rfl, hr⟩
        · exact hr.1
        · exact ⟨_, rfl, hr⟩
      refine ⟨_, ?_, l8.eqv (l8.vT (fun b' hz => ?_) (RB R hA h2 hn2)) hev⟩
      · rw [zx, <- Array.toArray_toList (xs := fn.results), List.mapM_toArray]
        simp only [Sem.run_bind, Sem.run_map, hvs, Result.andThen_ok, Sem.run_pure]
      · split at hz
        · exact hz
        · exact Or.inl hz
    · exact h.elim
  · exact h.elim
theorem ah {k : FuncId} {fn : Func} {c : Code} {args : List PT} {r : PV} (hf : P.funcs[k]? = some fn) (hb : fn.body = some c) (hl : args.length <= fn.ntmps) (h : AW P c ⟨ak (args.map PT.tv) 0, [], fn.ntmps, [], .top⟩ (acT P fn r)) : au P k args r := by
  intro w Z vs hZ ha hT
  refine callsIn_wide.1 (callsIn_of_wp_marks (F := Fence.wide) (n := 0) hf hb trivial ?_)
  have hlen := ha.length
  simp only [Array.length_toList] at hlen
  have R : Rel w ⟨Z, fun _ _ => undef, none, []⟩ (fun _ => none) Z ⟨ak (args.map PT.tv) 0, [], fn.ntmps, [], .top⟩ { tmps := vs ++ Array.replicate (fn.ntmps - vs.size) undef, defers := [] } w := by
    refine ⟨⟨[], rfl, by simp, fun b hb => by cases hb⟩, ?_, Below.refl _ _, fun b h => Or.inl h, hZ, (fun i b h => by cases h), (fun i j b h => by cases h), fun _ _ => rfl, (fun i cs h => by simp [hget] at h), fun t => ?_, fun f t => trivial, (fun x hx => by cases hx), by simp, rfl, hT⟩
    · simp; omega
    · simp only [AS.get, rC, Nat.zero_le, if_true, Nat.sub_zero]
      rw [List.getElem?_map]
      cases hx : args[t]? with
      | none => simp; trivial
      | some x =>
        obtain ⟨u, hu, hr⟩ := ha.get hx
        have : (vs ++ Array.replicate (fn.ntmps - vs.size) undef).getD t undef = u := by
          rw [Array.getElem?_toList] at hu
          have hlt : t < vs.size := (Array.getElem?_eq_some_iff.1 hu).1
          have := (Array.getElem?_eq_some_iff.1 hu).2
          simp only [Array.getD_eq_getD_getElem?, Array.getElem?_append_left hlt, hu, Option.getD_some]
        rw [this]
        exact bZ.tv hr
  refine wpIn_mono (h w ⟨Z, fun _ _ => undef, none, []⟩ _ w 0 ⟨_, _, R⟩) fun e a' w' ⟨s', ⟨J', Z', R'⟩, q⟩ => ?_
  have he := (C9 R' q).1
  have fin : LeavesInM Fence.wide 0 P fn a'.tmps (fun e w' => ∃ v, e = .returned v /\ Below w.heap.size w w' /\ l8 w' (fun b => Z b \/ (w.heap.size <= b /\ b < w'.heap.size)) v r) a'.defers .returning w' := by
    obtain ⟨M, m1, _⟩ := R'.nodef
    refine R'.leaves M m1 fun a2 w2 R2 h2 h3 => ?_
    obtain ⟨_, v, hv, hr⟩ := C9 R2 q
    rw [h2] at hv
    exact ⟨v, hv, v, rfl, R2.below, l8.vT (fun b hz => by
      rcases hz with hz | ⟨i, hz⟩
      · rcases R2.zfrom b hz with h1 | h1
        · exact Or.inl h1
        · exact Or.inr ⟨h1, R2.zlt b hz⟩
      · exact Or.inr ⟨(R2.jlt i b hz).1, (R2.jlt i b hz).2.1⟩) hr⟩
  rcases he with rfl | rfl <;> exact fin
end
end Go.Sea
namespace Go.Sea
open Go.RowKit
def upd (L : Nat -> Bool) (i : Nat) : Nat -> Bool := fun k => if k = i then true else L k
theorem upd_same (L : Nat -> Bool) (i : Nat) : upd L i i = true := by simp [upd]
theorem upd_ne (L : Nat -> Bool) {i k : Nat} (h : k ≠ i) : upd L i k = L k := by simp [upd, h]
section
variable {P : Program} {ops : Array Oper} {Q : Exit -> Act -> World -> Prop} {md : Region.Mode}
def Closed (md : Region.Mode) (ops : Array Oper) (L : Nat -> Bool) : Prop := ∀ k o, ops[k]? = some o -> L k = true -> (o.after.toList.all fun e => !Region.binds md e || L e.on) = true
def Steps (P : Program) (md : Region.Mode) (ops : Array Oper) (Q : Exit -> Act -> World -> Prop) (Inv : (Nat -> Bool) -> Act -> World -> Prop) : Nat -> List Oper -> Prop
  | _, [] => True
  | i, o :: os => (∀ L a w, Inv L a w -> L i = false -> (o.after.toList.all fun e => !Region.binds md e || L e.on) = true -> Closed md ops L ->
      ∀ K : Act -> World -> Prop, (∀ a' w', Inv (upd L i) a' w' -> K a' w') -> if Region.wanted o (yielded ops a.tmps) = true then Oper.wp P o a w K Q else K (a.put o.dst undef) w) /\ Steps P md ops Q Inv (i + 1) os
theorem Steps.at {Inv : (Nat -> Bool) -> Act -> World -> Prop} : ∀ (os : List Oper) (i : Nat), Steps P md ops Q Inv i os -> ∀ k o, os[k]? = some o ->
    ∀ L a w, Inv L a w -> L (i + k) = false -> (o.after.toList.all fun e => !Region.binds md e || L e.on) = true -> Closed md ops L ->
      ∀ K : Act -> World -> Prop, (∀ a' w', Inv (upd L (i + k)) a' w' -> K a' w') -> if Region.wanted o (yielded ops a.tmps) = true then Oper.wp P o a w K Q else K (a.put o.dst undef) w
  | [], _, _, k, o, h => by simp at h
  | x :: xs, i, hs, 0, o, h => by
    simp at h; subst h
    exact hs.1
  | x :: xs, i, hs, k + 1, o, h => by
    have := Steps.at xs (i + 1) hs.2 k o (by simpa using h)
    rw [show i + 1 + k = i + (k + 1) by omega] at this
    exact this
def left (n : Nat) (listed : Array Bool) : Nat := ((List.range n).filter fun k => !listed.getD k false).length
theorem uI {n i : Nat} {listed : Array Bool} (hs : listed.size = n) (hi : i < n) (h : listed.getD i true = false) : left n (listed.setIfInBounds i true) < left n listed := by
  unfold left
  have hsub : ((List.range n).filter fun k => !(listed.setIfInBounds i true).getD k false) = (((List.range n).filter fun k => !listed.getD k false).filter fun k => k != i) := by
    rw [List.filter_filter]
    apply List.filter_congr
    intro k hk
    by_cases hki : k = i
    · subst hki; simp [hs, hi]
    · simp [Array.getElem?_setIfInBounds_ne (Ne.symm hki), hki]
  rw [hsub]
  have hmem : i ∈ (List.range n).filter fun k => !listed.getD k false := by
    rw [List.mem_filter]
    refine ⟨List.mem_range.2 hi, ?_⟩
    have : listed.getD i false = false := by
      simp [hs, hi] at h ⊢; exact h
    simp [this]
  exact List.length_filter_lt_length_iff_exists.2 ⟨i, hmem, by simp⟩
def qz (md : Region.Mode) (ops : Array Oper) : Bool := (List.range ops.size).all fun i => match ops[i]? with | some o => o.after.toList.all fun e => !Region.binds md e || decide (e.on < i) | none => true
theorem Oh {md : Region.Mode} {ops : Array Oper} (h : qz md ops = true) : ∀ i o, ops[i]? = some o -> ∀ e ∈ o.after, Region.binds md e = true -> e.on < i := by
  intro i o ho e he hb
  have hlt : i < ops.size := by
    rcases Nat.lt_or_ge i ops.size with h | h
    · exact h
    · simp [Array.getElem?_eq_none h] at ho
  have := List.all_eq_true.1 h i (List.mem_range.2 hlt)
  rw [ho] at this
  have := List.all_eq_true.1 this e (by simpa using he)
  simpa [hb] using this
end
def iE (ops : Array Oper) : Bool := ops.toList.all fun o => match o.op with | .defer _ => false | _ => true
section
variable {P : Program} {ops : Array Oper} {Q : Exit -> Act -> World -> Prop} {md : Region.Mode} {F : Fence} {n : Nat}
theorem Pt (hF : Free F) (hd : iE ops = true) (Inv : (Nat -> Bool) -> Act -> World -> Prop) (hback : ∀ i o, ops[i]? = some o -> ∀ e ∈ o.after, Region.binds md e = true -> e.on < i)
    (hs : Steps P md ops Q Inv 0 ops.toList) (hend : ∀ L a w, (∀ k, k < ops.size -> L k = true) -> Inv L a w -> Q .normal a w) :
    ∀ (fuel : Nat) (listed : Array Bool) (a : Act) (w : World), listed.size = ops.size -> left ops.size listed <= fuel -> Inv (fun k => listed.getD k false) a w -> Closed md ops (fun k => listed.getD k false) -> wpAnyIn F n P md ops Q fuel listed a w := by
  have hall : ∀ listed : Array Bool, listed.size = ops.size -> Region.ready md ops listed = [] -> ∀ k, k < ops.size -> listed.getD k false = true := by
    intro listed hsz hr k
    induction k using Nat.strongRecOn with
    | ind k ih =>
      intro hk
      cases hv : listed.getD k false with
      | true => rfl
      | false =>
        exfalso
        have hm : k ∈ Region.ready md ops listed := by
          refine mem_ready.2 ⟨?_, ops[k], by simp [hk], fun e he hb => ?_⟩
          · simp [hsz, hk] at hv ⊢; exact hv
          · have := hback k ops[k] (by simp [hk]) e he hb
            exact ih e.on this (by omega)
        rw [hr] at hm; cases hm
  intro fuel
  induction fuel with
  | zero =>
    intro listed a w hsz hl hI hcl
    have hr : Region.ready md ops listed = [] := by
      apply List.eq_nil_iff_forall_not_mem.2
      intro i hi
      obtain ⟨h1, o, ho, _⟩ := mem_ready.1 hi
      have hlt : i < ops.size := by
        rcases Nat.lt_or_ge i ops.size with h | h
        · exact h
        · simp [Array.getElem?_eq_none h] at ho
      have := uI hsz hlt h1
      omega
    exact ⟨hr, hend _ a w (hall listed hsz hr) hI⟩
  | succ fuel ih =>
    intro listed a w hsz hl hI hcl
    refine ⟨fun hr => hend _ a w (hall listed hsz hr) hI, fun i hi => ?_⟩
    obtain ⟨h1, o, ho, hdep⟩ := mem_ready.1 hi
    have hlt : i < ops.size := by
      rcases Nat.lt_or_ge i ops.size with h | h
      · exact h
      · simp [Array.getElem?_eq_none h] at ho
    have hst := Steps.at ops.toList 0 hs i o (by simpa using ho)
    rw [Nat.zero_add] at hst
    have hLi : (fun k => listed.getD k false) i = false := by
      simp [hsz, hlt] at h1 ⊢; exact h1
    have hdeps : (o.after.toList.all fun e => !Region.binds md e || (fun k => listed.getD k false) e.on) = true := by
      rw [List.all_eq_true]
      intro e he
      cases hb : Region.binds md e with
      | false => rfl
      | true => simpa using hdep e (by simpa using he) hb
    have hf : (fun k => (listed.setIfInBounds i true).getD k false) = upd (fun k => listed.getD k false) i := by
      funext k
      by_cases hki : k = i
      · subst hki; simp [upd, hsz, hlt]
      · simp [upd, hki, Array.getElem?_setIfInBounds_ne (Ne.symm hki)]
    have hdo : ∀ c, o.op ≠ .defer c := by
      intro c hc
      have := List.all_eq_true.1 hd o (by have := Array.mem_of_getElem? ho; simpa using this)
      rw [hc] at this; cases this
    have fin := hst _ a w hI hLi hdeps hcl (wpAnyIn F n P md ops Q fuel (listed.setIfInBounds i true)) fun a' w' hI' => by
      refine ih _ a' w' (by simp [hsz]) (by have := uI hsz hlt h1; omega) ?_ ?_
      · rw [hf]; exact hI'
      · rw [hf]
        intro k o' ho' hk
        rw [List.all_eq_true]
        intro e he
        by_cases hki : k = i
        · subst hki
          have : o' = o := by rw [ho] at ho'; exact (Option.some.inj ho').symm
          subst this
          have := List.all_eq_true.1 hdeps e he
          cases hb : Region.binds md e with
          | false => rfl
          | true =>
            rw [hb] at this
            simp only [Bool.not_true, Bool.false_or] at this ⊢
            simp only [upd]
            split
            · rfl
            · exact this
        · have hk' : listed.getD k false = true := by simpa [upd, hki] using hk
          have := List.all_eq_true.1 (hcl k o' ho' hk') e he
          cases hb : Region.binds md e with
          | false => rfl
          | true =>
            rw [hb] at this
            simp only [Bool.not_true, Bool.false_or] at this ⊢
            simp only [upd]
            split
            · rfl
            · exact this
    unfold wpOpIn
    simp only [ho]
    split
    · rename_i hw
      rw [if_pos hw] at fin
      exact eZ hF hdo fin
    · rename_i hw
      rw [if_neg hw] at fin
      exact ⟨fun f _ => hF.fn f, fin⟩
theorem oZ {id : Nat} {a : Act} {w : World} (hF : Free F) (Inv : Act -> (Nat -> Bool) -> Act -> World -> Prop) (hm : P.follows .mixedOrders = true) (hd : iE ops = true) (hback : qz .any ops = true)
    (h0 : Inv a (fun _ => false) a w.drew) (hs : Steps P .any ops Q (Inv a) 0 ops.toList) (hend : ∀ L a' w', (∀ k, k < ops.size -> L k = true) -> Inv a L a' w' -> Q .normal a' w') : (Code.region id ops true).wpIn F n P Q a w := by
  refine wpIn_region_any hm (Pt hF hd (Inv a) (Oh hback) hs hend ops.size _ a _ (by simp) ?_ ?_ ?_)
  · exact Nat.le_trans (List.length_filter_le _ _) (by simp)
  · have : (fun k => (Array.replicate ops.size false).getD k false) = fun _ => false := by
      funext k; simp [Array.getElem?_replicate]; split <;> rfl
    rw [this]; exact h0
  · intro k o _ hk
    simp [Array.getElem?_replicate] at hk
    split at hk <;> simp at hk
def lq (F : Fence) (n : Nat) (P : Program) (md : Region.Mode) (ops : Array Oper) (Q : Exit -> Act -> World -> Prop) (Inv : (Nat -> Bool) -> Act -> World -> Prop) : Nat -> List Oper -> Prop
  | _, [] => True
  | i, o :: os => (∀ L a w, Inv L a w -> L i = false -> (o.after.toList.all fun e => !Region.binds md e || L e.on) = true -> Closed md ops L ->
      ∀ K : Act -> World -> Prop, (∀ a' w', Inv (upd L i) a' w' -> K a' w') -> if Region.wanted o (yielded ops a.tmps) = true then o.wpIn F n P a w K Q else K (a.put o.dst undef) w) /\ lq F n P md ops Q Inv (i + 1) os
theorem lq.at {Inv : (Nat -> Bool) -> Act -> World -> Prop} : ∀ (os : List Oper) (i : Nat), lq F n P md ops Q Inv i os -> ∀ k o, os[k]? = some o ->
    ∀ L a w, Inv L a w -> L (i + k) = false -> (o.after.toList.all fun e => !Region.binds md e || L e.on) = true -> Closed md ops L ->
      ∀ K : Act -> World -> Prop, (∀ a' w', Inv (upd L (i + k)) a' w' -> K a' w') -> if Region.wanted o (yielded ops a.tmps) = true then o.wpIn F n P a w K Q else K (a.put o.dst undef) w
  | [], _, _, k, o, h => by simp at h
  | x :: xs, i, hs, 0, o, h => by
    simp at h; subst h
    exact hs.1
  | x :: xs, i, hs, k + 1, o, h => by
    have := lq.at xs (i + 1) hs.2 k o (by simpa using h)
    rw [show i + 1 + k = i + (k + 1) by omega] at this
    exact this
theorem Lf (hF : Free F) (hd : iE ops = true) (Inv : (Nat -> Bool) -> Act -> World -> Prop) (hback : ∀ i o, ops[i]? = some o -> ∀ e ∈ o.after, Region.binds md e = true -> e.on < i)
    (hs : lq F n P md ops Q Inv 0 ops.toList) (hend : ∀ L a w, (∀ k, k < ops.size -> L k = true) -> Inv L a w -> Q .normal a w) :
    ∀ (fuel : Nat) (listed : Array Bool) (a : Act) (w : World), listed.size = ops.size -> left ops.size listed <= fuel -> Inv (fun k => listed.getD k false) a w -> Closed md ops (fun k => listed.getD k false) -> wpAnyIn F n P md ops Q fuel listed a w := by
  have hall : ∀ listed : Array Bool, listed.size = ops.size -> Region.ready md ops listed = [] -> ∀ k, k < ops.size -> listed.getD k false = true := by
    intro listed hsz hr k
    induction k using Nat.strongRecOn with
    | ind k ih =>
      intro hk
      cases hv : listed.getD k false with
      | true => rfl
      | false =>
        exfalso
        have hm : k ∈ Region.ready md ops listed := by
          refine mem_ready.2 ⟨?_, ops[k], by simp [hk], fun e he hb => ?_⟩
          · simp [hsz, hk] at hv ⊢; exact hv
          · have := hback k ops[k] (by simp [hk]) e he hb
            exact ih e.on this (by omega)
        rw [hr] at hm; cases hm
  intro fuel
  induction fuel with
  | zero =>
    intro listed a w hsz hl hI hcl
    have hr : Region.ready md ops listed = [] := by
      apply List.eq_nil_iff_forall_not_mem.2
      intro i hi
      obtain ⟨h1, o, ho, _⟩ := mem_ready.1 hi
      have hlt : i < ops.size := by
        rcases Nat.lt_or_ge i ops.size with h | h
        · exact h
        · simp [Array.getElem?_eq_none h] at ho
      have := uI hsz hlt h1
      omega
    exact ⟨hr, hend _ a w (hall listed hsz hr) hI⟩
  | succ fuel ih =>
    intro listed a w hsz hl hI hcl
    refine ⟨fun hr => hend _ a w (hall listed hsz hr) hI, fun i hi => ?_⟩
    obtain ⟨h1, o, ho, hdep⟩ := mem_ready.1 hi
    have hlt : i < ops.size := by
      rcases Nat.lt_or_ge i ops.size with h | h
      · exact h
      · simp [Array.getElem?_eq_none h] at ho
    have hst := lq.at ops.toList 0 hs i o (by simpa using ho)
    rw [Nat.zero_add] at hst
    have hLi : (fun k => listed.getD k false) i = false := by
      simp [hsz, hlt] at h1 ⊢; exact h1
    have hdeps : (o.after.toList.all fun e => !Region.binds md e || (fun k => listed.getD k false) e.on) = true := by
      rw [List.all_eq_true]
      intro e he
      cases hb : Region.binds md e with
      | false => rfl
      | true => simpa using hdep e (by simpa using he) hb
    have hf : (fun k => (listed.setIfInBounds i true).getD k false) = upd (fun k => listed.getD k false) i := by
      funext k
      by_cases hki : k = i
      · subst hki; simp [upd, hsz, hlt]
      · simp [upd, hki, Array.getElem?_setIfInBounds_ne (Ne.symm hki)]
    have hdo : ∀ c, o.op ≠ .defer c := by
      intro c hc
      have := List.all_eq_true.1 hd o (by have := Array.mem_of_getElem? ho; simpa using this)
      rw [hc] at this; cases this
    have fin := hst _ a w hI hLi hdeps hcl (wpAnyIn F n P md ops Q fuel (listed.setIfInBounds i true)) fun a' w' hI' => by
      refine ih _ a' w' (by simp [hsz]) (by have := uI hsz hlt h1; omega) ?_ ?_
      · rw [hf]; exact hI'
      · rw [hf]
        intro k o' ho' hk
        rw [List.all_eq_true]
        intro e he
        by_cases hki : k = i
        · subst hki
          have : o' = o := by rw [ho] at ho'; exact (Option.some.inj ho').symm
          subst this
          have := List.all_eq_true.1 hdeps e he
          cases hb : Region.binds md e with
          | false => rfl
          | true =>
            rw [hb] at this
            simp only [Bool.not_true, Bool.false_or] at this ⊢
            simp only [upd]
            split
            · rfl
            · exact this
        · have hk' : listed.getD k false = true := by simpa [upd, hki] using hk
          have := List.all_eq_true.1 (hcl k o' ho' hk') e he
          cases hb : Region.binds md e with
          | false => rfl
          | true =>
            rw [hb] at this
            simp only [Bool.not_true, Bool.false_or] at this ⊢
            simp only [upd]
            split
            · rfl
            · exact this
    unfold wpOpIn
    simp only [ho]
    split
    · rename_i hw
      rw [if_pos hw] at fin
      exact fin
    · rename_i hw
      rw [if_neg hw] at fin
      exact ⟨fun f _ => hF.fn f, fin⟩
theorem D5 {id : Nat} {a : Act} {w : World} (hF : Free F) (Inv : Act -> (Nat -> Bool) -> Act -> World -> Prop) (hm : P.follows .mixedOrders = true) (hd : iE ops = true) (hback : qz .any ops = true)
    (h0 : Inv a (fun _ => false) a w.drew) (hs : lq F n P .any ops Q (Inv a) 0 ops.toList) (hend : ∀ L a' w', (∀ k, k < ops.size -> L k = true) -> Inv a L a' w' -> Q .normal a' w') : (Code.region id ops true).wpIn F n P Q a w := by
  refine wpIn_region_any hm (Lf hF hd (Inv a) (Oh hback) hs hend ops.size _ a _ (by simp) ?_ ?_ ?_)
  · exact Nat.le_trans (List.length_filter_le _ _) (by simp)
  · have : (fun k => (Array.replicate ops.size false).getD k false) = fun _ => false := by
      funext k; simp [Array.getElem?_replicate]; split <;> rfl
    rw [this]; exact h0
  · intro k o _ hk
    simp [Array.getElem?_replicate] at hk
    split at hk <;> simp at hk
end
end Go.Sea
namespace Go.Sea
open Go.RowKit
def LV.refs : LV -> List Nat
  | .ptr j _ | .mp j => [j]
  | _ => []
def CV.refs : CV -> List Nat
  | .slc j _ _ _ | .ptr j _ | .mp j | .it j => [j]
  | .fn _ a b => a.flatMap LV.refs ++ b.flatMap LV.refs
  | _ => []
def TV.refs : TV -> List Nat
  | .one c => c.refs
  | .agg cs => cs.flatMap CV.refs
def AV.refs : AV -> List Nat
  | .t x | .mb _ x => x.refs
  | .tup xs => xs.flatMap TV.refs
  | .any => []
structure Qb where
  v : AV
  ef : Eff
  ft : List Nat
def Eff.eF : Eff -> Prop
  | .app _ _ => False
  | _ => True
def Eff.tgt (nid : Nat) : Eff -> Option Nat
  | .new _ => some nid
  | .set i _ => some i
  | _ => none
def sI (s : AS) (o : Oper) : List Nat := match o.op with
  | .move _ => []
  | op => op.operands.toList.flatMap fun x => (s.ev x).refs
theorem aaL {s : AS} {o : Oper} (h : ¬ ∃ x, o.op = .move x) : sI s o = o.op.operands.toList.flatMap fun x => (s.ev x).refs := by
  unfold sI
  split
  · rename_i x hx; exact absurd ⟨x, hx⟩ h
  · rfl
def AS.ent (s : AS) (d : Option Nat) (nid : Nat) (v : AV) (ef : Eff) : AS := (s.Ce nid ef).put d v
structure Like (s s' : AS) : Prop where
  N : s'.N = s.N
  gh : s'.gh = s.gh
  lp : s'.lp = s.lp
  get : ∀ t, s'.get t = s.get t
  blk : ∀ i, hget s'.heap i = hget s.heap i
theorem Like.refl (s : AS) : Like s s := ⟨rfl, rfl, rfl, fun _ => rfl, fun _ => rfl⟩
theorem Like.symm {s s' : AS} (h : Like s s') : Like s' s := ⟨h.N.symm, h.gh.symm, h.lp.symm, fun t => (h.get t).symm, fun t => (h.blk t).symm⟩
theorem Like.trans {s s' s'' : AS} (h : Like s s') (k : Like s' s'') : Like s s'' := ⟨k.N.trans h.N, k.gh.trans h.gh, k.lp.trans h.lp, fun t => (k.get t).trans (h.get t), fun t => (k.blk t).trans (h.blk t)⟩
theorem Rel.like {w0 : World} {Z0 : Fr} {J : Nat -> Option Nat} {Z : Nat -> Prop} {s s' : AS} {a : Act} {w : World} (R : Rel w0 Z0 J Z s a w) (h : Like s s') : Rel w0 Z0 J Z s' a w :=
  ⟨R.nodef, by rw [h.N]; exact R.size, R.below, R.zfrom, R.zlt, R.jlt, R.inj, fun i hi => R.hole i (by rw [<- h.blk]; exact hi), fun i cs hi => R.blk i cs (by rw [<- h.blk]; exact hi), fun t => by rw [h.get]; exact R.slots t, fun f t => by rw [h.gh]; exact R.ghost f t, by rw [h.lp]; exact R.loops, by rw [h.lp]; exact R.lnd, by rw [h.lp]; exact R.ro, R.tab⟩
theorem YZ (s : AS) (d : Option Nat) (v : AV) (t : Nat) : (s.put d v).get t = if d = some t then v else s.get t := by
  cases d with
  | none => simp [AS.put]
  | some d =>
    simp only [AS.put, AS.get, lk, Option.some.injEq]
    by_cases h : t = d
    · rw [if_pos h, if_pos h.symm]
    · rw [if_neg h, if_neg (Ne.symm h)]
theorem VF {s : AS} {nid : Nat} {ef : Eff} (h : ef.eF) (t : Nat) : (s.Ce nid ef).get t = s.get t := by cases ef <;> first | rfl | exact h.elim
theorem ady {s : AS} {nid : Nat} {ef : Eff} (h : ef.eF) : (s.Ce nid ef).gh = s.gh := by cases ef <;> first | rfl | exact h.elim
theorem adV {s : AS} {nid : Nat} {ef : Eff} : (s.Ce nid ef).lp = s.lp := by cases ef <;> rfl
def Eff.cells : Eff -> List CV
  | .new cs | .set _ cs | .app _ cs => cs
  | .nop => []
theorem WG {s : AS} {nid : Nat} {ef : Eff} (h : ef.eF) (i : Nat) : hget (s.Ce nid ef).heap i = if ef.tgt nid = some i then some ef.cells else hget s.heap i := by
  cases ef with
  | nop => simp [AS.Ce, Eff.tgt]
  | new cs =>
    simp only [AS.Ce, Eff.tgt, Option.some.injEq, Eff.cells]
    split
    · rename_i h; subst h; exact bn _ _ _
    · rename_i h; exact bE _ _ _ _ (Ne.symm h)
  | set j cs =>
    simp only [AS.Ce, Eff.tgt, Option.some.injEq, Eff.cells]
    split
    · rename_i h; subst h; exact bn _ _ _
    · rename_i h; exact bE _ _ _ _ (Ne.symm h)
  | app => exact h.elim
theorem kN {s : AS} {d : Option Nat} {nid : Nat} {v : AV} {ef : Eff} (h : ef.eF) (t : Nat) : (s.ent d nid v ef).get t = if d = some t then v else s.get t := by rw [AS.ent, YZ, VF h]
theorem kH {s : AS} {d : Option Nat} {nid : Nat} {v : AV} {ef : Eff} (h : ef.eF) (i : Nat) : hget (s.ent d nid v ef).heap i = if ef.tgt nid = some i then some ef.cells else hget s.heap i := by rw [AS.ent, RU, WG h]
theorem NS {s : AS} {d : Option Nat} {nid : Nat} {v : AV} {ef : Eff} : (s.ent d nid v ef).N = s.N := by rw [AS.ent, agy, Co]
theorem JU {s : AS} {d : Option Nat} {nid : Nat} {v : AV} {ef : Eff} : (s.ent d nid v ef).lp = s.lp := by
  have : ∀ (s : AS) d v, (s.put d v).lp = s.lp := fun s d v => by cases d <;> rfl
  rw [AS.ent, this, adV]
theorem DF {s : AS} {d : Option Nat} {nid : Nat} {v : AV} {ef : Eff} (h : ef.eF) : (s.ent d nid v ef).gh = s.gh := by
  rw [AS.ent]
  have : ∀ (s : AS) d v, (s.put d v).gh = s.gh := fun s d v => by cases d <;> rfl
  rw [this, ady h]
theorem Like.ent {s s' : AS} (h : Like s s') {d : Option Nat} {nid : Nat} {v : AV} {ef : Eff} (he : ef.eF) : Like (s.ent d nid v ef) (s'.ent d nid v ef) :=
  ⟨by rw [NS, NS]; exact h.N, by rw [DF he, DF he]; exact h.gh, by rw [JU, JU]; exact h.lp, fun t => by rw [kN he, kN he, h.get], fun i => by rw [kH he, kH he, h.blk]⟩
theorem Ul {s : AS} {d d' : Option Nat} {n n' : Nat} {v v' : AV} {e e' : Eff} (he : e.eF) (he' : e'.eF) (hd : ∀ t, d = some t -> d' ≠ some t) (ht : ∀ i, e.tgt n = some i -> e'.tgt n' ≠ some i) : Like ((s.ent d n v e).ent d' n' v' e') ((s.ent d' n' v' e').ent d n v e) := by
  refine ⟨by simp only [NS], by simp only [DF he, DF he'], by simp only [JU], fun t => ?_, fun i => ?_⟩
  · rw [kN he, kN he', kN he', kN he]
    by_cases h1 : d = some t
    · rw [if_pos h1, if_neg (hd t h1), if_pos h1]
    · rw [if_neg h1, if_neg h1]
  · rw [kH he, kH he', kH he', kH he]
    by_cases h1 : e.tgt n = some i
    · rw [if_pos h1, if_neg (ht i h1), if_pos h1]
    · rw [if_neg h1, if_neg h1]
def bR (n0 : Nat) (D : Nat -> Bool) : Nat -> List (Option Nat × Qb) -> AS -> AS
  | _, [], s => s
  | i, e :: es, s => bR n0 D (i + 1) es (bif D i then s.ent e.1 (n0 + i) e.2.v e.2.ef else s)
section
variable {n0 : Nat}
theorem BJ {D : Nat -> Bool} : ∀ (es : List (Option Nat × Qb)) (i : Nat) {s s' : AS}, (∀ e, e ∈ es -> e.2.ef.eF) -> Like s s' -> Like (bR n0 D i es s) (bR n0 D i es s')
  | [], _, _, _, _, h => h
  | e :: es, i, s, s', hn, h => by
    refine BJ es (i + 1) (fun x hx => hn x (by simp [hx])) ?_
    cases D i with
    | true => exact h.ent (hn e (by simp))
    | false => exact h
theorem xH {D D' : Nat -> Bool} : ∀ (es : List (Option Nat × Qb)) (i : Nat) (s : AS), (∀ k, i <= k -> D k = D' k) -> bR n0 D i es s = bR n0 D' i es s
  | [], _, _, _ => rfl
  | e :: es, i, s, h => by
    simp only [bR]
    rw [h i (Nat.le_refl _)]
    exact xH es (i + 1) _ fun k hk => h k (by omega)
theorem wK {D : Nat -> Bool} {d : Option Nat} {n : Nat} {v : AV} {ef : Eff} (he : ef.eF) : ∀ (es : List (Option Nat × Qb)) (i : Nat) (s : AS), (∀ e, e ∈ es -> e.2.ef.eF) ->
    (∀ (k : Nat) e, es[k]? = some e -> D (i + k) = true -> (∀ t, d = some t -> e.1 ≠ some t) /\ ∀ j, ef.tgt n = some j -> e.2.ef.tgt (n0 + (i + k)) ≠ some j) ->
    Like (bR n0 D i es (s.ent d n v ef)) ((bR n0 D i es s).ent d n v ef)
  | [], _, _, _, _ => Like.refl _
  | e :: es, i, s, hn, hk => by
    simp only [bR]
    have hne := hn e (by simp)
    have hn' : ∀ x, x ∈ es -> x.2.ef.eF := fun x hx => hn x (by simp [hx])
    have hk' : ∀ (k : Nat) x, es[k]? = some x -> D (i + 1 + k) = true -> (∀ t, d = some t -> x.1 ≠ some t) /\ ∀ j, ef.tgt n = some j -> x.2.ef.tgt (n0 + (i + 1 + k)) ≠ some j := fun k x hx hD => by
      have := hk (k + 1) x (by simpa using hx) (by rw [show i + (k + 1) = i + 1 + k by omega]; exact hD)
      rw [show i + (k + 1) = i + 1 + k by omega] at this
      exact this
    cases hD : D i with
    | true =>
      have h0 := hk 0 e rfl hD
      have hc := Ul (s := s) (v := v) (v' := e.2.v) he hne h0.1 h0.2
      exact (BJ es (i + 1) hn' hc.symm).symm.trans (wK he es (i + 1) _ hn' hk')
    | false => exact wK he es (i + 1) s hn' hk'
theorem wm {D : Nat -> Bool} {i : Nat} : ∀ (es : List (Option Nat × Qb)) (j : Nat) (s : AS) (e : Option Nat × Qb), es[i - j]? = some e -> j <= i -> D i = false -> (∀ e, e ∈ es -> e.2.ef.eF) ->
    (∀ (k : Nat) x, i < k -> es[k - j]? = some x -> D k = true -> (∀ t, e.1 = some t -> x.1 ≠ some t) /\ ∀ q, e.2.ef.tgt (n0 + i) = some q -> x.2.ef.tgt (n0 + k) ≠ some q) ->
    Like (bR n0 (upd D i) j es s) ((bR n0 D j es s).ent e.1 (n0 + i) e.2.v e.2.ef)
  | [], j, s, e, h, _, _, _, _ => by simp at h
  | x :: es, j, s, e, h, hj, hD, hn, hk => by
    simp only [bR]
    by_cases hji : j = i
    · subst hji
      simp at h
      subst h
      rw [upd_same, hD]
      simp only [cond_true, cond_false]
      rw [xH (D := upd D j) (D' := D) es (j + 1) _ fun k hk => upd_ne D (by omega)]
      refine wK (hn x (by simp)) es (j + 1) s (fun y hy => hn y (by simp [hy])) fun k y hy hDk => ?_
      have := hk (j + 1 + k) y (by omega) (by rw [show j + 1 + k - j = k + 1 by omega]; simpa using hy) hDk
      exact this
    · rw [upd_ne D hji]
      refine wm es (j + 1) _ e (by rw [show i - j = (i - (j + 1)) + 1 by omega] at h; simpa using h) (by omega) hD (fun y hy => hn y (by simp [hy])) fun k y hik hy hDk => ?_
      exact hk k y hik (by rw [show k - j = (k - (j + 1)) + 1 by omega]; simpa using hy) hDk
theorem wu {D D' : Nat -> Bool} {t : Nat} : ∀ (es : List (Option Nat × Qb)) (j : Nat) (s s' : AS), (∀ e, e ∈ es -> e.2.ef.eF) -> s'.get t = s.get t -> (∀ (k : Nat) e, es[k]? = some e -> e.1 = some t -> D (j + k) = D' (j + k)) -> (bR n0 D' j es s').get t = (bR n0 D j es s).get t
  | [], _, _, _, _, h, _ => h
  | e :: es, j, s, s', hn, h, hk => by
    simp only [bR]
    refine wu es (j + 1) _ _ (fun y hy => hn y (by simp [hy])) ?_ fun k x hx hd => by
      have := hk (k + 1) x (by simpa using hx) hd
      rw [show j + (k + 1) = j + 1 + k by omega] at this
      exact this
    have hne := hn e (by simp)
    by_cases hd : e.1 = some t
    · have := hk 0 e rfl hd
      rw [Nat.add_zero] at this
      rw [<- this]
      cases D j with
      | true => simp only [cond_true]; rw [kN hne, kN hne, if_pos hd, if_pos hd]
      | false => exact h
    · have h1 : ∀ (b : Bool) (u : AS), (bif b then u.ent e.1 (n0 + j) e.2.v e.2.ef else u).get t = u.get t := fun b u => by
        cases b with
        | true => simp only [cond_true]; rw [kN hne, if_neg hd]
        | false => rfl
      rw [h1, h1]; exact h
theorem nA {D D' : Nat -> Bool} {t : Nat} : ∀ (es : List (Option Nat × Qb)) (j : Nat) (s s' : AS), (∀ e, e ∈ es -> e.2.ef.eF) -> hget s'.heap t = hget s.heap t -> (∀ (k : Nat) e, es[k]? = some e -> e.2.ef.tgt (n0 + (j + k)) = some t -> D (j + k) = D' (j + k)) -> hget (bR n0 D' j es s').heap t = hget (bR n0 D j es s).heap t
  | [], _, _, _, _, h, _ => h
  | e :: es, j, s, s', hn, h, hk => by
    simp only [bR]
    refine nA es (j + 1) _ _ (fun y hy => hn y (by simp [hy])) ?_ fun k x hx hd => by
      have := hk (k + 1) x (by simpa using hx) (by rw [show j + (k + 1) = j + 1 + k by omega]; exact hd)
      rw [show j + (k + 1) = j + 1 + k by omega] at this
      exact this
    have hne := hn e (by simp)
    by_cases hd : e.2.ef.tgt (n0 + j) = some t
    · have := hk 0 e rfl hd
      rw [Nat.add_zero] at this
      rw [<- this]
      cases D j with
      | true => simp only [cond_true]; rw [kH hne, kH hne, if_pos hd, if_pos hd]
      | false => exact h
    · have h1 : ∀ (b : Bool) (u : AS), hget (bif b then u.ent e.1 (n0 + j) e.2.v e.2.ef else u).heap t = hget u.heap t := fun b u => by
        cases b with
        | true => simp only [cond_true]; rw [kH hne, if_neg hd]
        | false => rfl
      rw [h1, h1]; exact h
end
end Go.Sea
namespace Go.Sea
open Go.RowKit
section
variable {P : Program} {ρ ρ' : Operand -> AV} {H H' : Hp} {o : Oper} {nid : Nat}
theorem FC {ag : Bool} {n : Nat} {v : TV} (h : ∀ j, j ∈ v.refs -> H' j = H j) : sH ag n H' v = sH ag n H v := by
  unfold sH
  split
  · rfl
  · rename_i i o
    rw [h i (by simp [TV.refs, CV.refs])]
  · rfl
theorem En {n : Nat} {x v : TV} (h : ∀ j, j ∈ v.refs -> H' j = H j) : pI n H' x v = pI n H x v := by
  unfold pI
  split
  · rename_i i o
    rw [h i (by simp [TV.refs, CV.refs])]
  · rfl
theorem AO {n : Nat} {x : TV} (h' : ∀ j, j ∈ x.refs -> H' j = H j) : Ch n H' x = Ch n H x := by
  unfold Ch
  split
  · rfl
  · rfl
  · rename_i j off m E
    rw [h' j (by simp [TV.refs, CV.refs])]
  · rfl
theorem LA {nid n b : Nat} {x v : TV} (h : ∀ j, j ∈ v.refs -> H' j = H j) (h' : ∀ j, j ∈ x.refs -> H' j = H j) : Gm nid n b H' x v = Gm nid n b H x v := by
  have e := AO (n := n) h'
  unfold Gm
  split
  · rw [e]
  · rename_i i n' E
    rw [h i (by simp [TV.refs, CV.refs]), e]
  · rfl
theorem N7 {v : TV} : ∀ j, j ∈ v.dp.refs -> j ∈ v.refs := by
  intro j hj
  unfold TV.dp at hj
  split at hj
  · simp [TV.refs, CV.refs] at hj
  · exact hj
theorem fq {x : AV} {v : TV} (h : x.tv = some v) : x.refs = v.refs := by cases x <;> simp [AV.tv] at h <;> subst h <;> rfl
theorem oq : ∀ (l : List (Nat × Operand)), (∀ p, p ∈ l -> ρ' p.2 = ρ p.2) -> jA ρ' l = jA ρ l
  | [], _ => rfl
  | (i, x) :: r, h => by
    simp only [jA]
    rw [h (i, x) (by simp), oq r fun p hp => h p (by simp [hp])]
theorem tY : ∀ (l : List Operand), (∀ p, p ∈ l -> ρ' p = ρ p) -> xW ρ' l = xW ρ l
  | [], _ => rfl
  | x :: r, h => by
    simp only [xW]
    rw [h x (by simp), tY r fun p hp => h p (by simp [hp])]
theorem lV (l : Option Operand) (h : ∀ p, p ∈ l.toList -> ρ' p = ρ p) : j5 ρ' l = j5 ρ l := by
  cases l with
  | none => rfl
  | some x => simp only [j5]; rw [h x (by simp)]
theorem Dp {n E : Nat} {hi : Option Int} {v : TV} (h : ∀ j, j ∈ v.refs -> H' j = H j) : sP H' n E hi v = sP H n E hi v := by
  unfold sP
  split
  · rename_i i o
    rw [h i (by simp [TV.refs, CV.refs])]
  · rfl
theorem F6 {y v : TV} (h : ∀ j, j ∈ v.refs -> H' j = H j) (h' : ∀ j, j ∈ y.refs -> H' j = H j) : BF H' y v = BF H y v := by
  have e := AO (n := 1) h'
  unfold BF
  split
  · rename_i i off n E
    rw [h i (by simp [TV.refs, CV.refs]), e]
  · rfl
theorem EF {z : List CV} {v : TV} (h : ∀ j, j ∈ v.refs -> H' j = H j) : ug H' z v = ug H z v := by
  unfold ug
  split
  · rfl
  · rename_i i off n E
    rw [h i (by simp [TV.refs, CV.refs])]
  · rfl
theorem tZ (h1 : ∀ x, x ∈ o.op.operands.toList -> ρ' x = ρ x) (h2 : ∀ x, x ∈ o.op.operands.toList -> ∀ j, j ∈ (ρ x).refs -> H' j = H j) : qy P nid ρ' H' o = qy P nid ρ H o := by
  have lk : ∀ {ok : Bool} {z : PT} {k : Int} {v : TV}, (∀ j, j ∈ v.refs -> H' j = H j) -> Ai ok z H' k v = Ai ok z H k v := fun {ok z k v} h => by
    unfold Ai
    split
    · rfl
    · rename_i i; rw [h i (by simp [TV.refs, CV.refs])]
    · rfl
  have pt : ∀ {k : Int} {y v : TV}, (∀ j, j ∈ v.refs -> H' j = H j) -> Lv H' k y v = Lv H k y v := fun {k y v} h => by
    unfold Lv
    split
    · rename_i i; rw [h i (by simp [TV.refs, CV.refs])]
    · rfl
  have dl : ∀ {k : Int} {v : TV}, (∀ j, j ∈ v.refs -> H' j = H j) -> Kh H' k v = Kh H k v := fun {k v} h => by
    unfold Kh
    split
    · rename_i i; rw [h i (by simp [TV.refs, CV.refs])]
    · rfl
  have ln : ∀ {v : TV}, (∀ j, j ∈ v.refs -> H' j = H j) -> z8 H' v = z8 H v := fun {v} h => by
    unfold z8
    split
    · rename_i i; rw [h i (by simp [TV.refs, CV.refs])]
    · rfl
    · rfl
  obtain ⟨dst, op, type, pos, after, guard⟩ := o
  cases op with
  | makeMap t r => cases r <;> rfl
  | lookup t x ix ok =>
    simp only [qy]
    rw [h1 x (by simp [Op.operands]), h1 ix (by simp [Op.operands])]
    split
    · rename_i e u k e1 e2 e3
      split
      · rw [lk fun j hj => h2 x (by simp [Op.operands]) j (by rw [fq e2]; exact hj)]
      · rfl
    · rfl
  | mapUpdate t m ix x =>
    simp only [qy]
    rw [h1 m (by simp [Op.operands]), h1 ix (by simp [Op.operands]), h1 x (by simp [Op.operands])]
    split
    · rename_i e u k y e1 e2 e3 e4
      rw [pt fun j hj => h2 m (by simp [Op.operands]) j (by rw [fq e2]; exact hj)]
    · rfl
  | insert t m ix x =>
    simp only [qy]
    rw [h1 m (by simp [Op.operands]), h1 ix (by simp [Op.operands]), h1 x (by simp [Op.operands])]
    split
    · rename_i e u k y e1 e2 e3 e4
      rw [pt fun j hj => h2 m (by simp [Op.operands]) j (by rw [fq e2]; exact hj)]
    · rfl
  | call c =>
    obtain ⟨callee, args, tys⟩ := c
    have hm : ∀ x, x ∈ args.toList -> x ∈ (Op.call ⟨callee, args, tys⟩).operands.toList := fun x hx => by
      simp only [Op.operands, Call.operands, Array.toList_append, List.mem_append]; exact Or.inr hx
    simp only [qy]
    split
    · split
      · rename_i m ix t t' ha ht
        rw [h1 m (hm m (by rw [ha]; simp)), h1 ix (hm ix (by rw [ha]; simp))]
        split
        · rename_i e u k e1 e2 e3
          rw [dl fun j hj => h2 m (hm m (by rw [ha]; simp)) j (by rw [fq e2]; exact hj)]
        · rfl
      · rfl
    · split
      · rename_i x t ha ht
        rw [h1 x (hm x (by rw [ha]; simp))]
        split
        · rename_i e u e1 e2
          rw [ln fun j hj => h2 x (hm x (by rw [ha]; simp)) j (by rw [fq e2]; exact hj)]
        · rfl
      · rfl
    · rfl
  | _ => rfl
theorem KM (h1 : ∀ x, x ∈ o.op.operands.toList -> ρ' x = ρ x) (h2 : ∀ x, x ∈ o.op.operands.toList -> ∀ j, j ∈ (ρ x).refs -> H' j = H j) : Dq P nid ρ' H' o = Dq P nid ρ H o := by
  have lk : ∀ {ok : Bool} {z : PT} {k : Int × Int} {v : TV}, (∀ j, j ∈ v.refs -> H' j = H j) -> AA ok z H' k v = AA ok z H k v := fun {ok z k v} h => by
    unfold AA
    split
    · rename_i i; rw [h i (by simp [TV.refs, CV.refs])]
    · rfl
  have pt : ∀ {k : Int × Int} {y v : TV}, (∀ j, j ∈ v.refs -> H' j = H j) -> Kk H' k y v = Kk H k y v := fun {k y v} h => by
    unfold Kk
    split
    · rename_i i; rw [h i (by simp [TV.refs, CV.refs])]
    · rfl
  obtain ⟨dst, op, type, pos, after, guard⟩ := o
  cases op with
  | makeMap t r => cases r <;> rfl
  | lookup t x ix ok =>
    simp only [Dq]
    rw [h1 x (by simp [Op.operands]), h1 ix (by simp [Op.operands])]
    split
    · rename_i e u k e1 e2 e3
      split
      · rw [lk fun j hj => h2 x (by simp [Op.operands]) j (by rw [fq e2]; exact hj)]
      · rfl
    · rfl
  | mapUpdate t m ix x =>
    simp only [Dq]
    rw [h1 m (by simp [Op.operands]), h1 ix (by simp [Op.operands]), h1 x (by simp [Op.operands])]
    split
    · rename_i e u k y e1 e2 e3 e4
      rw [pt fun j hj => h2 m (by simp [Op.operands]) j (by rw [fq e2]; exact hj)]
    · rfl
  | insert t m ix x =>
    simp only [Dq]
    rw [h1 m (by simp [Op.operands]), h1 ix (by simp [Op.operands]), h1 x (by simp [Op.operands])]
    split
    · rename_i e u k y e1 e2 e3 e4
      rw [pt fun j hj => h2 m (by simp [Op.operands]) j (by rw [fq e2]; exact hj)]
    · rfl
  | _ => rfl
theorem KN (h1 : ∀ x, x ∈ o.op.operands.toList -> ρ' x = ρ x) (h2 : ∀ x, x ∈ o.op.operands.toList -> ∀ j, j ∈ (ρ x).refs -> H' j = H j) : TH P nid ρ' H' o (qy P nid ρ' H' o) = TH P nid ρ H o (qy P nid ρ H o) := by
  rw [tZ h1 h2]
  cases qy P nid ρ H o with
  | some r => rfl
  | none => exact KM h1 h2
theorem KJ (h1 : ∀ x, x ∈ o.op.operands.toList -> ρ' x = ρ x) (h2 : ∀ x, x ∈ o.op.operands.toList -> ∀ j, j ∈ (ρ x).refs -> H' j = H j) : wO P nid ρ' H' o = wO P nid ρ H o := by
  have h3 := tZ (P := P) (nid := nid) h1 h2
  have h4 := KN (P := P) (nid := nid) h1 h2
  obtain ⟨dst, op, type, pos, after, guard⟩ := o
  cases op with
  | nilCheck x => simp only [wO]; rw [h1 x (by simp [Op.operands])]
  | makeSlice t l c => simp only [wO]; rw [h1 l (by simp [Op.operands]), h1 c (by simp [Op.operands])]
  | slice t x lo hi mx =>
    simp only [wO]
    rw [h1 x (by simp [Op.operands]), lV lo fun p hp => h1 p (by simp at hp; subst hp; simp [Op.operands]), lV hi fun p hp => h1 p (by simp at hp; subst hp; simp [Op.operands]), lV mx fun p hp => h1 p (by simp at hp; subst hp; simp [Op.operands])]
    split
    · rename_i u n1 l n2 hq n3 m e1 e2 e3 e4
      split
      · rfl
      · split
        · split
          · rw [Dp fun j hj => h2 x (by simp [Op.operands]) j (by rw [fq e1]; exact hj)]
          · rfl
        · rfl
      · rfl
    · rfl
  | sliceToArrayPointer t x => simp only [wO]; rw [h1 x (by simp [Op.operands])]
  | call c =>
    obtain ⟨callee, args, tys⟩ := c
    have hm : ∀ x, x ∈ args.toList -> x ∈ (Op.call ⟨callee, args, tys⟩).operands.toList := fun x hx => by
      simp only [Op.operands, Call.operands, Array.toList_append, List.mem_append]; exact Or.inr hx
    simp only [wO]
    split
    · split
      · rename_i x y t t' ha ht
        rw [h1 x (hm x (by rw [ha]; simp)), h1 y (hm y (by rw [ha]; simp))]
        split
        · rename_i b e u v e1 e2 e3
          rw [F6 (fun j hj => h2 x (hm x (by rw [ha]; simp)) j (by rw [fq e2]; exact hj)) fun j hj => h2 y (hm y (by rw [ha]; simp)) j (by rw [fq e3]; exact hj)]
        · rfl
      · rfl
    · split
      · rename_i x t ha ht
        rw [h1 x (hm x (by rw [ha]; simp))]
        split
        · rename_i b e u e1 e2
          split
          · rw [EF fun j hj => h2 x (hm x (by rw [ha]; simp)) j (by rw [fq e2]; exact hj)]
          · rfl
        · rfl
      · rfl
    · exact h3
  | _ => first | rfl | exact h4
theorem Pf (h1 : ∀ x, x ∈ o.op.operands.toList -> ρ' x = ρ x) (h2 : ∀ x, x ∈ o.op.operands.toList -> ∀ j, j ∈ (ρ x).refs -> H' j = H j) : nP P nid ρ' H' o = nP P nid ρ H o := by
  have h3 := KJ (P := P) (nid := nid) h1 h2
  obtain ⟨dst, op, type, pos, after, guard⟩ := o
  cases op with
  | move x => simp only [nP]; rw [h1 x (by simp [Op.operands])]
  | assign x => simp only [nP]; rw [h1 x (by simp [Op.operands])]
  | pick c x y => simp only [nP]; rw [h1 c (by simp [Op.operands]), h1 x (by simp [Op.operands]), h1 y (by simp [Op.operands])]
  | alloc t => rfl
  | box t x => simp only [nP]; rw [h1 x (by simp [Op.operands])]
  | build t ps =>
    simp only [nP]
    rw [oq ps.toList fun p hp => h1 p.2 (by simp only [Op.operands, List.mem_map]; exact ⟨p, hp, rfl⟩)]
  | buildSlice t n ps =>
    simp only [nP]
    rw [oq ps.toList fun p hp => h1 p.2 (by simp only [Op.operands, List.mem_map]; exact ⟨p, hp, rfl⟩)]
  | slice t x lo hi mx =>
    simp only [nP]
    rw [h3, h1 x (by simp [Op.operands]), lV lo fun p hp => h1 p (by simp at hp; subst hp; simp [Op.operands]), lV hi fun p hp => h1 p (by simp at hp; subst hp; simp [Op.operands])]
  | field t x f => simp only [nP]; rw [h1 x (by simp [Op.operands])]
  | load t x =>
    simp only [nP]
    rw [h1 x (by simp [Op.operands])]
    split
    · rename_i ag n v e1 e2
      rw [FC fun j hj => h2 x (by simp [Op.operands]) j (by rw [fq e2]; exact N7 j hj)]
    · rfl
  | store t p x =>
    simp only [nP]
    rw [h1 p (by simp [Op.operands]), h1 x (by simp [Op.operands])]
    split
    · rename_i n q v e1 e2 e3
      rw [En fun j hj => h2 p (by simp [Op.operands]) j (by rw [fq e2]; exact N7 j hj)]
    · rfl
  | binOp op t x y t' => simp only [nP]; rw [h1 x (by simp [Op.operands]), h1 y (by simp [Op.operands])]
  | unOp op t x => simp only [nP]; rw [h1 x (by simp [Op.operands])]
  | convert s t x => simp only [nP]; rw [h1 x (by simp [Op.operands])]
  | makeFunc f x y => simp only [nP]; rw [tY x.toList fun p hp => h1 p (by simp [Op.operands]; left; simpa using hp), tY y.toList fun p hp => h1 p (by simp [Op.operands]; right; simpa using hp)]
  | fieldAddr t x f => simp only [nP]; rw [h1 x (by simp [Op.operands])]
  | indexAddr t x ix => simp only [nP]; rw [h1 x (by simp [Op.operands]), h1 ix (by simp [Op.operands])]
  | index t x ix => simp only [nP]; rw [h1 x (by simp [Op.operands]), h1 ix (by simp [Op.operands])]
  | extract x k => simp only [nP]; rw [h1 x (by simp [Op.operands])]
  | call c =>
    obtain ⟨callee, args, tys⟩ := c
    have hm : ∀ x, x ∈ args.toList -> x ∈ (Op.call ⟨callee, args, tys⟩).operands.toList := fun x hx => by
      simp only [Op.operands, Call.operands, Array.toList_append, List.mem_append]; exact Or.inr hx
    simp only [nP]
    have h4 := tZ (P := P) (nid := nid) h1 h2
    split
    · split
      · rename_i x t ha ht
        rw [h1 x (hm x (by rw [ha]; simp)), h4]
      · rfl
    · split
      · rename_i x y t t' ha ht
        rw [h1 x (hm x (by rw [ha]; simp)), h1 y (hm y (by rw [ha]; simp))]
        split
        · rename_i n b e u v e1 e2 e3
          rw [LA (fun j hj => h2 x (hm x (by rw [ha]; simp)) j (by rw [fq e2]; exact hj)) fun j hj => h2 y (hm y (by rw [ha]; simp)) j (by rw [fq e3]; exact hj)]
        · rfl
      · rfl
    · split
      · rename_i x y ha
        rw [h1 x (hm x (by rw [ha]; simp)), h1 y (hm y (by rw [ha]; simp))]
      · rfl
    · split
      · rename_i x y ha
        rw [h1 x (hm x (by rw [ha]; simp)), h1 y (hm y (by rw [ha]; simp))]
      · rfl
    · exact h3
  | _ => first | rfl | exact h3
theorem zW {c : CV} (h : ∀ j, j ∈ c.refs -> H' j = H j) : Fz H' c = Fz H c := by
  unfold Fz
  split
  · rfl
  · rfl
  · rename_i i off
    rw [h i (by simp [CV.refs])]
  · rename_i i off n E
    rw [h i (by simp [CV.refs])]
  · rfl
theorem xJ : ∀ {l : List CV}, (∀ c, c ∈ l -> ∀ j, j ∈ c.refs -> H' j = H j) -> uT H' l = uT H l
  | [], _ => rfl
  | c :: l, h => by
    simp only [uT]
    rw [zW (h c (by simp)), xJ fun x hx => h x (by simp [hx])]
theorem JW {c : TV} (h : ∀ j, j ∈ c.refs -> H' j = H j) : xQ H' c = xQ H c := by
  cases c with
  | one c => simp only [xQ]; rw [zW h]
  | agg cs => simp only [xQ]; rw [xJ fun c hc j hj => h j (by simp only [TV.refs, List.mem_flatMap]; exact ⟨c, hc, hj⟩)]
theorem xk : ∀ (l : List Operand), (∀ x, x ∈ l -> ρ' x = ρ x) -> (∀ x, x ∈ l -> ∀ j, j ∈ (ρ x).refs -> H' j = H j) -> gQ ρ' H' l = gQ ρ H l
  | [], _, _ => rfl
  | x :: r, h1, h2 => by
    have ih := xk r (fun y hy => h1 y (by simp [hy])) fun y hy => h2 y (by simp [hy])
    simp only [gQ]
    rw [h1 x (by simp), ih]
    have : (ρ x).tv.bind (xQ H') = (ρ x).tv.bind (xQ H) := by
      cases hx : (ρ x).tv with
      | none => rfl
      | some v => exact JW fun j hj => h2 x (by simp) j (by rw [fq hx]; exact hj)
    rw [this]
end
theorem tC {ρ ρ' : Operand -> AV} : ∀ (l : List Operand), (∀ x, x ∈ l -> ρ' x = ρ x) -> lu ρ' l = lu ρ l
  | [], _ => rfl
  | x :: r, h => by
    simp only [lu]
    rw [h x (by simp), tC r fun y hy => h y (by simp [hy])]
theorem H7 {ρ : Operand -> AV} : ∀ (l : List Operand) {nd : Prop} {ts : List TV}, lu ρ l = some (nd, ts) -> ∀ i, i ∈ ts.flatMap TV.refs -> ∃ x, x ∈ l /\ i ∈ (ρ x).refs
  | [], nd, ts, h, i, hi => by
    simp only [lu, Option.some.injEq, Prod.mk.injEq] at h
    obtain ⟨_, rfl⟩ := h
    simp at hi
  | x :: r, nd, ts, h, i, hi => by
    simp only [lu] at h
    split at h
    · rename_i y n2 l h1 h2
      simp only [Option.some.injEq, Prod.mk.injEq] at h
      obtain ⟨_, rfl⟩ := h
      rw [List.flatMap_cons, List.mem_append] at hi
      rcases hi with hi | hi
      · exact ⟨x, by simp, by rw [fq h1]; exact hi⟩
      · obtain ⟨z, hz, hz'⟩ := H7 r h2 i hi
        exact ⟨z, by simp [hz], hz'⟩
    · cases h
inductive EX (P : Program) (nid : Nat) (o : Oper) (s : AS) : AV -> Eff -> Prop
  | f (nd : Prop) (v : AV) (ef : Eff) (h1 : nP P nid s.ev (hget s.heap) o = some (nd, v, ef)) (h2 : nd) (h3 : ef.eF) : EX P nid o s v ef
  | call (f : Operand) (args : Array Operand) (tys : Array TypeId) (k : FuncId) (nd : Prop) (ps : List PT) (own : Bool) (r : PV) (h1 : o.op = .call ⟨.value f, args, tys⟩) (h2 : dN (s.ev f) = .pure k)
      (h3 : gQ s.ev (hget s.heap) args.toList = some (nd, ps, own)) (h4 : aM P k = true) (h5 : nd) (h6 : au P k ps r) (h7 : own = true -> r.flat = true) : EX P nid o s r.av .nop
  | turn (f : Operand) (args : Array Operand) (tys : Array TypeId) (k : FuncId) (nd : Prop) (ts : List TV) (r : AV) (i : Nat) (cs cs' : List CV) (h1 : o.op = .call ⟨.value f, args, tys⟩) (h2 : dN (s.ev f) = .pure k)
      (h3 : lu s.ev args.toList = some (nd, ts)) (h4 : aM P k = true) (h5 : nd) (h6 : Em P k ts i cs r cs') (h7 : hget s.heap i = some cs) (h8 : i ∈ ts.flatMap TV.refs) : EX P nid o s r (.set i cs')
  | fresh (f : Operand) (args : Array Operand) (tys : Array TypeId) (k : FuncId) (nd : Prop) (ts : List TV) (r : Nat -> AV) (cs : List CV) (h1 : o.op = .call ⟨.value f, args, tys⟩) (h2 : dN (s.ev f) = .pure k)
      (h3 : lu s.ev args.toList = some (nd, ts)) (h4 : aM P k = true) (h5 : nd) (h6 : pY P k ts cs r) : EX P nid o s (r nid) (.new cs)
  | g (u : Value) (h1 : AX o.op = false) (h2 : (o.op.operands.toList.all fun x => (gv (s.ev x)).isSome) = true) (h3 : ∀ w, (execOp (gρ s.ev) o).run P w = .ok (.value u) w) : EX P nid o s (sS u) .nop
theorem EX.eF {P : Program} {nid : Nat} {o : Oper} {s : AS} {v : AV} {ef : Eff} (h : EX P nid o s v ef) : ef.eF := by cases h <;> first | assumption | trivial
def qA (P : Program) (gs : List (Option Nat)) (nid : Nat) (o : Oper) (s : AS) (v : AV) (ef : Eff) : Prop :=
  match o.guard with
  | none => EX P nid o s v ef
  | some (j, want) => ∃ b, gB gs s j want = some b /\ ((b = true /\ ∃ v0, EX P nid o s v0 ef /\ (v = v0 \/ v = v0.l9 true)) \/ (b = false /\ ef = .nop /\ ∃ x, v = .any \/ v = AV.l9 false x))
theorem qA.eF {P : Program} {gs : List (Option Nat)} {nid : Nat} {o : Oper} {s : AS} {v : AV} {ef : Eff} (h : qA P gs nid o s v ef) : ef.eF := by
  unfold qA at h
  split at h
  · exact h.eF
  · obtain ⟨b, _, ⟨_, v0, h, _⟩ | ⟨_, rfl, _⟩⟩ := h
    · exact h.eF
    · trivial
theorem EX.loc {P : Program} {nid : Nat} {o : Oper} {s s' : AS} {v : AV} {ef : Eff} (h : EX P nid o s v ef) (h1 : ∀ x, x ∈ o.op.operands.toList -> s'.ev x = s.ev x) (h2 : ∀ j, j ∈ sI s o -> hget s'.heap j = hget s.heap j) : EX P nid o s' v ef := by
  by_cases hm : ∃ x, o.op = .move x
  · obtain ⟨x, hx⟩ := hm
    cases h with
    | f nd v ef g1 g2 g3 => exact .f nd v ef (Eq.trans (by unfold nP; simp only [hx, h1 x (by rw [hx]; simp [Op.operands])]) g1) g2 g3
    | call f args tys k nd ps own r g1 => rw [hx] at g1; cases g1
    | turn f args tys k nd ts r i cs cs' g1 => rw [hx] at g1; cases g1
    | fresh f args tys k nd ts r cs g1 => rw [hx] at g1; cases g1
    | g u g1 g2 g3 =>
      refine .g u g1 ?_ fun w => ?_
      · rw [List.all_eq_true] at g2 ⊢
        intro x hx
        rw [h1 x hx]; exact g2 x hx
      · have he : execOp (gρ s'.ev) o = execOp (gρ s.ev) o := execOp_congr o (fun cs b e => by rw [e] at g1; cases g1) fun x hx => by
          rw [gρ, gρ, h1 x (by simpa using hx)]
        rw [he]; exact g3 w
  have hF := aaL (s := s) hm
  rw [hF] at h2
  have h2' : ∀ x, x ∈ o.op.operands.toList -> ∀ j, j ∈ (s.ev x).refs -> hget s'.heap j = hget s.heap j := fun x hx j hj => h2 j (List.mem_flatMap.2 ⟨x, hx, hj⟩)
  cases h with
  | f nd v ef g1 g2 g3 => exact .f nd v ef ((Pf h1 h2').trans g1) g2 g3
  | call f args tys k nd ps own r g1 g2 g3 g4 g5 g6 g7 =>
    have hf : f ∈ o.op.operands.toList := by rw [g1]; simp [Op.operands, Call.operands]
    have ha : ∀ x, x ∈ args.toList -> x ∈ o.op.operands.toList := fun x hx => by rw [g1]; simp only [Op.operands, Call.operands, Array.toList_append, List.mem_append]; exact Or.inr hx
    exact .call f args tys k nd ps own r g1 (by rw [h1 f hf]; exact g2) ((xk args.toList (fun x hx => h1 x (ha x hx)) fun x hx => h2' x (ha x hx)).trans g3) g4 g5 g6 g7
  | turn f args tys k nd ts r i cs cs' g1 g2 g3 g4 g5 g6 g7 g8 =>
    have hf : f ∈ o.op.operands.toList := by rw [g1]; simp [Op.operands, Call.operands]
    have ha : ∀ x, x ∈ args.toList -> x ∈ o.op.operands.toList := fun x hx => by rw [g1]; simp only [Op.operands, Call.operands, Array.toList_append, List.mem_append]; exact Or.inr hx
    have hi : i ∈ (o.op.operands.toList.flatMap fun x => (s.ev x).refs) := by
      obtain ⟨x, hx, hi⟩ := H7 args.toList g3 i g8
      exact List.mem_flatMap.2 ⟨x, ha x hx, hi⟩
    exact .turn f args tys k nd ts _ i cs cs' g1 (by rw [h1 f hf]; exact g2) ((tC args.toList fun x hx => h1 x (ha x hx)).trans g3) g4 g5 g6 ((h2 i hi).trans g7) g8
  | fresh f args tys k nd ts r cs g1 g2 g3 g4 g5 g6 =>
    have hf : f ∈ o.op.operands.toList := by rw [g1]; simp [Op.operands, Call.operands]
    have ha : ∀ x, x ∈ args.toList -> x ∈ o.op.operands.toList := fun x hx => by rw [g1]; simp only [Op.operands, Call.operands, Array.toList_append, List.mem_append]; exact Or.inr hx
    exact .fresh f args tys k nd ts r cs g1 (by rw [h1 f hf]; exact g2) ((tC args.toList fun x hx => h1 x (ha x hx)).trans g3) g4 g5 g6
  | g u g1 g2 g3 =>
    refine .g u g1 ?_ fun w => ?_
    · rw [List.all_eq_true] at g2 ⊢
      intro x hx
      rw [h1 x hx]; exact g2 x hx
    · have he : execOp (gρ s'.ev) o = execOp (gρ s.ev) o := execOp_congr o (fun cs b e => by rw [e] at g1; cases g1) fun x hx => by
        rw [gρ, gρ, h1 x (by simpa using hx)]
      rw [he]; exact g3 w
section
variable {w0 : World} {Z0 : Fr} {J J' : Nat -> Option Nat} {Z Z' : Nat -> Prop} {s s' : AS} {a : Act} {w w' : World} {P : Program} {o : Oper} {nid : Nat} {v : AV} {ef : Eff}
theorem EX.wp {K2 : Act -> World -> Prop} {Q : Exit -> Act -> World -> Prop} (h : EX P nid o s v ef) (R : Rel w0 Z0 J Z s a w) (hh : hget s.heap nid = none) (hK : ∀ J' Z' u w', Rel w0 Z0 J' Z' (s.Ce nid ef) a w' -> bD w' J' Z' u v -> K2 (a.put o.dst u) w') : o.wp P a w K2 Q := by
  cases h with
  | f nd v ef g1 g2 g3 => exact rV (kX R hh g1 g2) fun J' w' u R' hr => hK J' Z u w' R' hr
  | call f args tys k nd ps own r g1 g2 g3 g4 g5 g6 g7 =>
    refine jL (jK g1 (jg R g2) g4) ?_
    simp only [Array.empty_append, Array.append_empty]
    exact (Bv R g3 g5 g6 g7).mono fun e w' ⟨v, Z', he, R', hr⟩ => ⟨v, he, hK J Z' v w' R' hr⟩
  | turn f args tys k nd ts r i cs cs' g1 g2 g3 g4 g5 g6 g7 g8 =>
    refine jL (jK g1 (jg R g2) g4) ?_
    simp only [Array.empty_append, Array.append_empty]
    refine (g6 s.heap g7 w0 Z0 J Z s a w _ R rfl (by simp only [Array.toList_map]; exact rE R g3 g5)).mono fun e w' ⟨v, J', Z', he, R', hr⟩ => ⟨v, he, hK J' Z' v w' R' hr⟩
  | fresh f args tys k nd ts r cs g1 g2 g3 g4 g5 g6 =>
    refine jL (jK g1 (jg R g2) g4) ?_
    simp only [Array.empty_append, Array.append_empty]
    refine (g6 s.heap nid hh w0 Z0 J Z s a w _ R rfl (by simp only [Array.toList_map]; exact rE R g3 g5)).mono fun e w' ⟨v, J', Z', he, R', hr⟩ => ⟨v, he, hK J' Z' v w' R' hr⟩
  | g u g1 g2 g3 =>
    have he : execOp a.eval o = execOp (gρ s.ev) o := execOp_congr o (fun cs b e => by rw [e] at g1; cases g1) fun x hx => by
      have := List.all_eq_true.1 g2 x (by simpa using hx)
      obtain ⟨u, hu⟩ := Option.isSome_iff_exists.1 this
      rw [gρ, hu, NA R hu]; rfl
    unfold Oper.wp
    rw [he, g3 w]
    exact hK J Z u w R (tK u)
theorem qA.step {ops : Array Oper} {K2 : Act -> World -> Prop} {Q : Exit -> Act -> World -> Prop} (h : qA P (ops.toList.map (·.dst)) nid o s v ef) (R : Rel w0 Z0 J Z s a w) (hh : hget s.heap nid = none) (hd : fE s o.dst)
    (hK : ∀ a' w', l5 w0 Z0 (s.ent o.dst nid v ef) a' w' -> K2 a' w') : if Region.wanted o (yielded ops a.tmps) = true then o.wp P a w K2 Q else K2 (a.put o.dst undef) w := by
  have hd' : ∀ k, o.dst = some k -> k < (s.Ce nid ef).N := fun k e => by rw [Co]; exact dz hd k e
  unfold qA at h
  split at h
  · rename_i hg
    have hw : Region.wanted o (yielded ops a.tmps) = true := by simp [Region.wanted, hg]
    rw [if_pos hw]
    exact h.wp R hh fun J' Z' u w' R' hr => hK _ _ ⟨J', Z', R'.put hd' hr⟩
  · rename_i j want hg
    obtain ⟨b, hb, h⟩ := h
    have hw : Region.wanted o (yielded ops a.tmps) = b := by simp only [Region.wanted, hg]; exact Ov R hb
    rw [hw]
    rcases h with ⟨rfl, v0, h, hv⟩ | ⟨rfl, rfl, x, hv⟩
    · rw [if_pos rfl]
      refine h.wp R hh fun J' Z' u w' R' hr => hK _ _ ⟨J', Z', R'.put hd' ?_⟩
      rcases hv with rfl | rfl
      · exact hr
      · exact wC hr
    · rw [if_neg (by simp)]
      rcases hv with rfl | rfl
      · exact hK _ _ ⟨J, Z, R.Ad⟩
      · exact hK _ _ ⟨J, Z, R.put (dz hd) (tV x)⟩
end
end Go.Sea
namespace Go.Sea
open Go.RowKit
inductive Fh (ops : Array Oper) : Nat -> Nat -> Prop
  | one (k i : Nat) (o : Oper) (e : Edge) (h : ops[i]? = some o) (he : e ∈ o.after.toList) (hb : Region.binds .any e = true) (hk : e.on = k) : Fh ops k i
  | more (k j i : Nat) (o : Oper) (e : Edge) (h : ops[i]? = some o) (he : e ∈ o.after.toList) (hb : Region.binds .any e = true) (hk : e.on = j) (ha : Fh ops k j) : Fh ops k i
def Bf (acc : List Nat) (o : Oper) : Nat := o.after.toList.foldl (fun s e => if Region.binds .any e then s ||| 2 ^ e.on ||| acc.getD e.on 0 else s) 0
def masks : List Nat -> List Oper -> List Nat
  | acc, [] => acc
  | acc, o :: os => masks (acc ++ [Bf acc o]) os
theorem GZ {ops : Array Oper} {acc : List Nat} {i : Nat} {o : Oper} (hacc : ∀ i k, (acc.getD i 0).testBit k = true -> Fh ops k i) (ho : ops[i]? = some o) : ∀ k, (Bf acc o).testBit k = true -> Fh ops k i := by
  have key : ∀ (l : List Edge), (∀ e, e ∈ l -> e ∈ o.after.toList) -> ∀ s : Nat, (∀ k, s.testBit k = true -> Fh ops k i) -> ∀ k, (l.foldl (fun s e => if Region.binds .any e then s ||| 2 ^ e.on ||| acc.getD e.on 0 else s) s).testBit k = true -> Fh ops k i := by
    intro l
    induction l with
    | nil => intro _ s hs k hk; exact hs k hk
    | cons e l ih =>
      intro hl s hs k hk
      rw [List.foldl_cons] at hk
      refine ih (fun x hx => hl x (by simp [hx])) _ (fun q hq => ?_) k hk
      by_cases hb : Region.binds .any e = true
      · rw [if_pos hb, Nat.testBit_or, Nat.testBit_or, Bool.or_eq_true, Bool.or_eq_true] at hq
        rcases hq with (hq | hq) | hq
        · exact hs q hq
        · rw [Nat.testBit_two_pow] at hq
          exact Fh.one q i o e ho (hl e (by simp)) hb (by simpa using hq)
        · exact Fh.more q e.on i o e ho (hl e (by simp)) hb rfl (hacc _ _ hq)
      · rw [if_neg hb] at hq; exact hs q hq
  exact fun k hk => key o.after.toList (fun _ h => h) 0 (fun k hk => by simp at hk) k hk
theorem tT {ops : Array Oper} : ∀ (os : List Oper) (acc : List Nat), (∀ i k, (acc.getD i 0).testBit k = true -> Fh ops k i) -> ops.toList.drop acc.length = os -> ∀ i k, ((masks acc os).getD i 0).testBit k = true -> Fh ops k i
  | [], _, h, _ => h
  | o :: os, acc, h, hd => by
    have ho : ops[acc.length]? = some o := by
      have : (ops.toList.drop acc.length)[0]? = some o := by rw [hd]; rfl
      rw [List.getElem?_drop] at this
      simpa using this
    refine tT os _ (fun i k hk => ?_) ?_
    · by_cases hi : i < acc.length
      · rw [show (acc ++ [Bf acc o]).getD i 0 = acc.getD i 0 by simp [List.getD, List.getElem?_append_left hi]] at hk; exact h i k hk
      · by_cases he : i = acc.length
        · subst he
          simp [List.getD] at hk
          exact GZ h ho k hk
        · have : (acc ++ [Bf acc o]).getD i 0 = 0 := by simp [List.getD, List.getElem?_eq_none (show (acc ++ [Bf acc o]).length <= i by simp; omega)]
          rw [this] at hk; simp at hk
    · have := congrArg (List.drop 1) hd
      rw [List.drop_drop] at this
      simpa [Nat.add_comm] using this
theorem Fh.done {ops : Array Oper} {D : Nat -> Bool} (hD : Closed .any ops D) {k i : Nat} (h : Fh ops k i) : ∀ o, ops[i]? = some o -> (o.after.toList.all fun e => !Region.binds .any e || D e.on) = true -> D k = true := by
  induction h with
  | one i o e h he hb hk =>
    intro o' ho' hp
    rw [h] at ho'; cases ho'
    have := List.all_eq_true.1 hp e he
    rw [hb] at this
    subst hk
    simpa using this
  | more j i o e h he hb hk ha ih =>
    intro o' ho' hp
    rw [h] at ho'; cases ho'
    have := List.all_eq_true.1 hp e he
    rw [hb, hk] at this
    have hj : D j = true := by simpa using this
    cases ho2 : ops[j]? with
    | none => cases ha <;> simp_all
    | some o2 => exact ih o2 ho2 (hD j o2 ho2 hj)
abbrev Log := List (Option Nat × Qb)
def sD (t : Option Nat) (l : List Nat) : Bool := match t with
  | some i => l.contains i
  | none => false
def indep (ops : Array Oper) (n0 k i : Nat) (ok oi : Oper) (ek ei : Qb) : Bool :=
  ok.apart ops oi && !(sD (ek.ef.tgt (n0 + k)) ei.ft) && !(sD (ei.ef.tgt (n0 + i)) ek.ft) && !(ek.ef.tgt (n0 + k) == some (n0 + i)) && !(ei.ef.tgt (n0 + i) == some (n0 + k)) &&
  (match ek.ef.tgt (n0 + k) with | some q => !(ei.ef.tgt (n0 + i) == some q) | none => true)
def Xc (ops : Array Oper) (n0 : Nat) (log : Log) : Bool :=
  let T := masks [] ops.toList
  (List.range ops.size).all fun i => (List.range i).all fun k => match ops[k]?, ops[i]?, log[k]?, log[i]? with
    | some ok, some oi, some ek, some ei => !(ek.2.ef.tgt (n0 + k) == some (n0 + i)) && ((T.getD i 0).testBit k || indep ops n0 k i ok oi ek.2 ei.2)
    | _, _, _, _ => false
theorem wE {ops : Array Oper} {n0 : Nat} {log : Log} (h : Xc ops n0 log = true) {k i : Nat} (hki : k < i) {ok oi : Oper} {ek ei : Option Nat × Qb} (h1 : ops[k]? = some ok) (h2 : ops[i]? = some oi) (h3 : log[k]? = some ek) (h4 : log[i]? = some ei) :
    ek.2.ef.tgt (n0 + k) ≠ some (n0 + i) /\ (Fh ops k i \/ indep ops n0 k i ok oi ek.2 ei.2 = true) := by
  have hi : i < ops.size := (Array.getElem?_eq_some_iff.1 h2).1
  have := List.all_eq_true.1 (List.all_eq_true.1 h i (List.mem_range.2 hi)) k (List.mem_range.2 hki)
  simp only [h1, h2, h3, h4, Bool.and_eq_true, Bool.or_eq_true, Bool.not_eq_true', beq_eq_false_iff_ne] at this
  refine ⟨this.1, ?_⟩
  rcases this.2 with h | h
  · exact Or.inl (tT (ops := ops) ops.toList [] (fun i k hk => by simp at hk) (by simp) i k h)
  · exact Or.inr h
inductive Trace (P : Program) (gs : List (Option Nat)) (n0 : Nat) : Nat -> List Oper -> AS -> Log -> AS -> Prop
  | nil (i : Nat) (s : AS) : Trace P gs n0 i [] s [] s
  | cons (i : Nat) (o : Oper) (os : List Oper) (s s' : AS) (v : AV) (ef : Eff) (log : Log) (hd : fE s o.dst) (h : qA P gs (n0 + i) o s v ef) (ht : Trace P gs n0 (i + 1) os (s.ent o.dst (n0 + i) v ef) log s') :
      Trace P gs n0 i (o :: os) s ((o.dst, ⟨v, ef, sI s o⟩) :: log) s'
section
variable {P : Program} {gs : List (Option Nat)} {n0 : Nat}
theorem Trace.eF {i : Nat} {os : List Oper} {s s' : AS} {log : Log} (h : Trace P gs n0 i os s log s') : ∀ e, e ∈ log -> e.2.ef.eF := by
  induction h with
  | nil => intro e he; cases he
  | cons i o os s s' v ef log hd h _ ih =>
    intro e he
    rcases List.mem_cons.1 he with rfl | he
    · exact h.eF
    · exact ih e he
theorem Trace.fold {i : Nat} {os : List Oper} {s s' : AS} {log : Log} (h : Trace P gs n0 i os s log s') (D : Nat -> Bool) (hD : ∀ k, i <= k -> k < i + os.length -> D k = true) : bR n0 D i log s = s' := by
  induction h with
  | nil => rfl
  | cons i o os s s' v ef log hd h _ ih =>
    simp only [bR]
    rw [hD i (Nat.le_refl _) (by simp)]
    exact ih fun k h1 h2 => hD k (by omega) (by simp at h2 ⊢; omega)
theorem Trace.at {i : Nat} {os : List Oper} {s s' : AS} {log : Log} (h : Trace P gs n0 i os s log s') : ∀ (k : Nat) o, os[k]? = some o -> ∃ v ef, log[k]? = some (o.dst, ⟨v, ef, sI (bR n0 (fun q => decide (q < i + k)) i log s) o⟩) ∧
    fE (bR n0 (fun q => decide (q < i + k)) i log s) o.dst /\ qA P gs (n0 + (i + k)) o (bR n0 (fun q => decide (q < i + k)) i log s) v ef := by
  have none_ : ∀ (log : Log) (j : Nat) (b : Nat) (s : AS), b <= j -> bR n0 (fun q => decide (q < b)) j log s = s := by
    intro log
    induction log with
    | nil => intros; rfl
    | cons e es ih =>
      intro j b s hb
      simp only [bR]
      rw [show decide (j < b) = false by simp; omega]
      exact ih (j + 1) b s (by omega)
  induction h with
  | nil => intro k o hk; simp at hk
  | cons i o os s s' v ef log hd h _ ih =>
    intro k o' hk
    cases k with
    | zero =>
      simp at hk
      subst hk
      rw [Nat.add_zero, none_ _ i i s (Nat.le_refl _)]
      exact ⟨v, ef, rfl, hd, h⟩
    | succ k =>
      obtain ⟨v', ef', h1, h2, h3⟩ := ih k o' (by simpa using hk)
      have e : bR n0 (fun q => decide (q < i + (k + 1))) i ((o.dst, ⟨v, ef, sI s o⟩) :: log) s = bR n0 (fun q => decide (q < i + 1 + k)) (i + 1) log (s.ent o.dst (n0 + i) v ef) := by
        simp only [bR]
        rw [show decide (i < i + (k + 1)) = true by simp]
        rw [show i + (k + 1) = i + 1 + k by omega]
        rfl
      rw [e, show n0 + (i + (k + 1)) = n0 + (i + 1 + k) by omega]
      exact ⟨v', ef', by simpa using h1, h2, h3⟩
end
theorem Steps.of {P : Program} {md : Region.Mode} {ops : Array Oper} {Q : Exit -> Act -> World -> Prop} {Inv : (Nat -> Bool) -> Act -> World -> Prop} : ∀ (os : List Oper) (i : Nat),
    (∀ (k : Nat) o, os[k]? = some o -> ∀ L a w, Inv L a w -> L (i + k) = false -> (o.after.toList.all fun e => !Region.binds md e || L e.on) = true -> Closed md ops L ->
      ∀ K : Act -> World -> Prop, (∀ a' w', Inv (upd L (i + k)) a' w' -> K a' w') -> if Region.wanted o (yielded ops a.tmps) = true then Oper.wp P o a w K Q else K (a.put o.dst undef) w) -> Steps P md ops Q Inv i os
  | [], _, _ => trivial
  | o :: os, i, h => ⟨h 0 o rfl, Steps.of os (i + 1) fun k o' hk => by
      have := h (k + 1) o' (by simpa using hk)
      rw [show i + (k + 1) = i + 1 + k by omega] at this
      exact this⟩
theorem lq.of {F : Fence} {n : Nat} {P : Program} {md : Region.Mode} {ops : Array Oper} {Q : Exit -> Act -> World -> Prop} {Inv : (Nat -> Bool) -> Act -> World -> Prop} : ∀ (os : List Oper) (i : Nat),
    (∀ (k : Nat) o, os[k]? = some o -> ∀ L a w, Inv L a w -> L (i + k) = false -> (o.after.toList.all fun e => !Region.binds md e || L e.on) = true -> Closed md ops L ->
      ∀ K : Act -> World -> Prop, (∀ a' w', Inv (upd L (i + k)) a' w' -> K a' w') -> if Region.wanted o (yielded ops a.tmps) = true then o.wpIn F n P a w K Q else K (a.put o.dst undef) w) -> lq F n P md ops Q Inv i os
  | [], _, _ => trivial
  | o :: os, i, h => ⟨h 0 o rfl, lq.of os (i + 1) fun k o' hk => by
      have := h (k + 1) o' (by simpa using hk)
      rw [show i + (k + 1) = i + 1 + k by omega] at this
      exact this⟩
theorem kY {ops : Array Oper} {x y : Oper} (h : x.apart ops y = true) : (∀ d, x.dst = some d -> d ∉ y.looksAt ops /\ y.dst ≠ some d) /\ (∀ d, y.dst = some d -> d ∉ x.looksAt ops /\ x.dst ≠ some d) := by
  obtain ⟨h1, h2, h3⟩ := Oper.apart_spec h
  exact ⟨fun d hd => ⟨h1 d hd, h2 d hd⟩, fun d hd => ⟨h3 d hd, fun hx => h2 d hx hd⟩⟩
theorem Trace.ops {P : Program} {gs : List (Option Nat)} {n0 i : Nat} {os : List Oper} {s s' : AS} {log : Log} (h : Trace P gs n0 i os s log s') : ∀ (k : Nat) e, log[k]? = some e -> ∃ ok, os[k]? = some ok /\ e.1 = ok.dst := by
  induction h with
  | nil => intro k e he; simp at he
  | cons i o os s s' v ef log hd h _ ih =>
    intro k e he
    cases k with
    | zero => simp at he; subst he; exact ⟨o, rfl, rfl⟩
    | succ k => simpa using ih k e (by simpa using he)
theorem uj {n0 : Nat} {D : Nat -> Bool} : ∀ (es : Log) (i : Nat) (s : AS), (bR n0 D i es s).N = s.N
  | [], _, _ => rfl
  | e :: es, i, s => by
    simp only [bR]
    rw [uj es (i + 1)]
    cases D i <;> simp [NS]
theorem jN {n0 : Nat} : ∀ (log : Log) (j : Nat) (s : AS), bR n0 (fun _ => false) j log s = s
  | [], _, _ => rfl
  | e :: es, j, s => jN es (j + 1) s
theorem qA.loc {P : Program} {ops : Array Oper} {nid : Nat} {o : Oper} {s s' : AS} {v : AV} {ef : Eff} (h : qA P (ops.toList.map (·.dst)) nid o s v ef) (h1 : ∀ t, t ∈ o.looksAt ops -> s'.get t = s.get t) (h2 : ∀ j, j ∈ sI s o -> hget s'.heap j = hget s.heap j) : qA P (ops.toList.map (·.dst)) nid o s' v ef := by
  have hev : ∀ x, x ∈ o.op.operands.toList -> s'.ev x = s.ev x := fun x hx => by
    cases x with
    | tmp t => exact h1 t (by simp only [Oper.looksAt, List.mem_append, List.mem_filterMap]; exact Or.inl ⟨_, hx, rfl⟩)
    | _ => rfl
  unfold qA at h ⊢
  split
  · rename_i hg
    simp only [hg] at h
    exact h.loc hev h2
  · rename_i j want hg
    simp only [hg] at h
    obtain ⟨b, hb, h⟩ := h
    refine ⟨b, ?_, ?_⟩
    · rw [<- hb]
      unfold gB
      rw [List.getElem?_map, Array.getElem?_toList]
      cases hj : (ops[j]?).bind (·.dst) with
      | none =>
        have : (Option.map (fun x => x.dst) ops[j]?).getD none = none := by
          cases ho : ops[j]? with
          | none => rfl
          | some y => rw [ho] at hj; simpa using hj
        rw [this]
      | some t =>
        have : (Option.map (fun x => x.dst) ops[j]?).getD none = some t := by
          cases ho : ops[j]? with
          | none => rw [ho] at hj; cases hj
          | some y => rw [ho] at hj; simpa using hj
        rw [this]
        simp only
        rw [h1 t (by simp only [Oper.looksAt, hg, List.mem_append]; exact Or.inr (by rw [hj]; simp))]
    · rcases h with ⟨hb, v0, h, hv⟩ | h
      · exact Or.inl ⟨hb, v0, h.loc hev h2, hv⟩
      · exact Or.inr h
theorem DN {P : Program} {id : Nat} {ops : Array Oper} {s s' : AS} {log : Log} {w0 : World} {Z0 : Fr} {a : Act} {w : World} {Q : Exit -> Act -> World -> Prop} (n0 : Nat) (hn0 : ∀ i, i < ops.size -> hget s.heap (n0 + i) = none) (hm : P.follows .mixedOrders = true) (hback : qz .any ops = true)
    (ht : Trace P (ops.toList.map (·.dst)) n0 0 ops.toList s log s') (hc : Xc ops n0 log = true) (R : l5 w0 Z0 s a w) (hQ : ∀ a' w', l5 w0 Z0 s' a' w' -> Q .normal a' w') (hd : iE ops = true) {n : Nat} : (Code.region id ops true).wpIn (fo Z0.ro) n P Q a w := by
  have hna := ht.eF
  refine oZ (dM _) (fun _ D a w => l5 w0 Z0 (bR n0 D 0 log s) a w) hm hd hback ?_ ?_ fun D a w hD R' => ?_
  · rw [jN]
    obtain ⟨J, Z, R⟩ := R
    exact ⟨J, Z, R.drew⟩
  · refine Steps.of ops.toList 0 fun i o ho D a w ⟨J, Z, R'⟩ hDi hpre hcl K hK => ?_
    rw [Nat.zero_add] at hDi
    have hoi : ops[i]? = some o := by rw [<- Array.getElem?_toList]; exact ho
    obtain ⟨v, ef, hl, hd, hrun⟩ := ht.at i o ho
    simp only [Nat.zero_add] at hl hd hrun
    have hop : ∀ (k : Nat) e, log[k]? = some e -> ∃ ok, ops[k]? = some ok /\ e.1 = ok.dst := fun k e he => by
      obtain ⟨ok, h1, h2⟩ := ht.ops k e he
      exact ⟨ok, by rw [<- Array.getElem?_toList]; exact h1, h2⟩
    have fore : ∀ (k : Nat) e ok, k < i -> log[k]? = some e -> ops[k]? = some ok -> D k = true \/ indep ops n0 k i ok o e.2 ⟨v, ef, sI (bR n0 (fun q => decide (q < i)) 0 log s) o⟩ = true := fun k e ok hk he hok => by
      rcases (wE hc hk hok hoi he hl).2 with h | h
      · exact Or.inl (h.done hcl o hoi hpre)
      · exact Or.inr h
    have back : ∀ (k : Nat) e ok, i < k -> D k = true -> log[k]? = some e -> ops[k]? = some ok -> indep ops n0 i k o ok ⟨v, ef, sI (bR n0 (fun q => decide (q < i)) 0 log s) o⟩ e.2 = true := fun k e ok hk hDk he hok => by
      rcases (wE hc hk hoi hok hl he).2 with h | h
      · have := h.done hcl ok hok (hcl k ok hok hDk)
        rw [hDi] at this; cases this
      · exact h
    have hget' : ∀ t, t ∈ o.looksAt ops -> (bR n0 D 0 log s).get t = (bR n0 (fun q => decide (q < i)) 0 log s).get t := fun t ht' => by
      refine wu log 0 s s hna rfl fun k e he hde => ?_
      rw [Nat.zero_add]
      obtain ⟨ok, hok, hdk⟩ := hop k e he
      rcases Nat.lt_trichotomy k i with hk | hk | hk
      · rw [decide_eq_true hk]
        rcases fore k e ok hk he hok with h | h
        · exact h.symm
        · exfalso
          simp only [indep, Bool.and_eq_true] at h
          exact ((kY h.1.1.1.1.1).1 t (hdk ▸ hde)).1 ht'
      · subst hk; rw [hDi]; simp
      · rw [decide_eq_false (by omega)]
        cases hDk : D k with
        | false => rfl
        | true =>
          exfalso
          have h := back k e ok hk hDk he hok
          simp only [indep, Bool.and_eq_true] at h
          exact ((kY h.1.1.1.1.1).2 t (hdk ▸ hde)).1 ht'
    have hblk' : ∀ j, j ∈ sI (bR n0 (fun q => decide (q < i)) 0 log s) o -> hget (bR n0 D 0 log s).heap j = hget (bR n0 (fun q => decide (q < i)) 0 log s).heap j := fun j hj => by
      refine nA log 0 s s hna rfl fun k e he hde => ?_
      rw [Nat.zero_add] at hde ⊢
      obtain ⟨ok, hok, hdk⟩ := hop k e he
      rcases Nat.lt_trichotomy k i with hk | hk | hk
      · rw [decide_eq_true hk]
        rcases fore k e ok hk he hok with h | h
        · exact h.symm
        · exfalso
          simp only [indep, Bool.and_eq_true, hde, sD, Bool.not_eq_true', List.contains_eq_mem, decide_eq_false_iff_not] at h
          exact h.1.1.1.1.2 hj
      · subst hk; rw [hDi]; simp
      · rw [decide_eq_false (by omega)]
        cases hDk : D k with
        | false => rfl
        | true =>
          exfalso
          have h := back k e ok hk hDk he hok
          simp only [indep, Bool.and_eq_true, hde, sD, Bool.not_eq_true', List.contains_eq_mem, decide_eq_false_iff_not] at h
          exact h.1.1.1.2 hj
    have hhole : hget (bR n0 D 0 log s).heap (n0 + i) = none := by
      have : hget (bR n0 D 0 log s).heap (n0 + i) = hget (bR n0 (fun _ => false) 0 log s).heap (n0 + i) := by
        refine nA log 0 s s hna rfl fun k e he hde => ?_
        rw [Nat.zero_add] at hde ⊢
        obtain ⟨ok, hok, hdk⟩ := hop k e he
        rcases Nat.lt_trichotomy k i with hk | hk | hk
        · exact absurd hde (wE hc hk hok hoi he hl).1
        · subst hk; exact hDi.symm
        · cases hDk : D k with
          | false => rfl
          | true =>
            exfalso
            have h := back k e ok hk hDk he hok
            simp only [indep, Bool.and_eq_true, hde, beq_self_eq_true, Bool.not_true] at h
            exact absurd h.1.2 (by simp)
      rw [this, jN]
      exact hn0 i (Array.getElem?_eq_some_iff.1 hoi).1
    have hrun' := hrun.loc hget' hblk'
    have hd' : fE (bR n0 D 0 log s) o.dst := by
      have e1 : (bR n0 D 0 log s).N = s.N := uj log 0 s
      have e2 : (bR n0 (fun q => decide (q < i)) 0 log s).N = s.N := uj log 0 s
      cases hod : o.dst with
      | none => trivial
      | some d =>
        rw [hod] at hd
        simp only [fE] at hd ⊢
        omega
    refine hrun'.step R' hhole hd' fun a' w' R'' => hK a' w' ?_
    rw [Nat.zero_add]
    obtain ⟨J1, Z1, R1⟩ := R''
    refine ⟨J1, Z1, R1.like (wm log 0 s (o.dst, ⟨v, ef, _⟩) (by simpa using hl) (Nat.zero_le _) hDi hna fun k x hk hx hDk => ?_).symm⟩
    rw [Nat.sub_zero] at hx
    obtain ⟨ok, hok, hdk⟩ := hop k x hx
    have h := back k x ok hk hDk hx hok
    simp only [indep, Bool.and_eq_true] at h
    refine ⟨fun t ht' => ?_, fun q hq hq' => ?_⟩
    · rw [hdk]; exact ((kY h.1.1.1.1.1).1 t ht').2
    · simp only at hq
      rw [hq, hq'] at h
      simp at h
  · exact hQ a w (by rw [<- ht.fold D fun k _ hk => hD k (by simpa using hk)]; exact R')
end Go.Sea
namespace Go.Sea
open Go.RowKit
abbrev Lg := List (Option Nat × List Nat)
def fB (ops : Array Oper) (n0 : Nat) (log : Lg) : Bool :=
  let T := masks [] ops.toList
  (List.range ops.size).all fun i => (List.range i).all fun k => match ops[k]?, ops[i]?, log[k]?, log[i]? with
    | some ok, some oi, some ek, some ei => !(ek.1 == some (n0 + i)) && ((T.getD i 0).testBit k ||
        (ok.apart ops oi && !(sD ek.1 ei.2) && !(sD ei.1 ek.2) && !(ek.1 == some (n0 + i)) && !(ei.1 == some (n0 + k)) && (match ek.1 with | some q => !(ei.1 == some q) | none => true)))
    | _, _, _, _ => false
def jf (n0 : Nat) : Nat -> Log -> Lg
  | _, [] => []
  | i, e :: es => (e.2.ef.tgt (n0 + i), e.2.ft) :: jf n0 (i + 1) es
theorem mY (n0 : Nat) : ∀ (log : Log) (j k : Nat), (jf n0 j log)[k]? = (log[k]?).map fun e => (e.2.ef.tgt (n0 + (j + k)), e.2.ft)
  | [], _, _ => by simp [jf]
  | e :: es, j, 0 => by simp [jf]
  | e :: es, j, k + 1 => by
    simp only [jf, List.getElem?_cons_succ]
    rw [mY n0 es (j + 1) k, show j + 1 + k = j + (k + 1) by omega]
theorem Wm {ops : Array Oper} {n0 : Nat} {log : Log} (h : fB ops n0 (jf n0 0 log) = true) : Xc ops n0 log = true := by
  rw [<- h]
  unfold Xc fB
  simp only
  congr 1
  funext i
  congr 1
  funext k
  rw [mY, mY, Nat.zero_add, Nat.zero_add]
  cases ops[k]? <;> cases ops[i]? <;> cases log[k]? <;> cases log[i]? <;> rfl
def Ug (P : Program) (o : Oper) (s : AS) (K : AV -> Prop) : Prop := AX o.op = false /\ (o.op.operands.toList.all fun x => (gv (s.ev x)).isSome) = true /\ ∃ u, (∀ w, (execOp (gρ s.ev) o).run P w = .ok (.value u) w) /\ K (sS u)
def CK (P : Program) (nid : Nat) (o : Oper) (s : AS) (K : AV -> Eff -> Prop) : Prop :=
  match o.op with
  | .call ⟨.value f, args, _⟩ => match dN (s.ev f) with
    | .pure k => (match gQ s.ev (hget s.heap) args.toList with
      | some (nd, ps, own) => aM P k = true /\ nd /\ ∃ r, au P k ps r /\ (own = true -> r.flat = true) /\ K r.av .nop
      | none => False) \/ (match lu s.ev args.toList with
      | some (nd, ts) => aM P k = true /\ nd /\ ((∃ r j cs cs', hget s.heap j = some cs /\ j ∈ ts.flatMap TV.refs /\ Em P k ts j cs r cs' /\ K r (.set j cs')) \/ ∃ r cs, pY P k ts cs r /\ K (r nid) (.new cs))
      | none => False)
    | _ => False
  | _ => Ug P o s fun v => K v .nop
def zJ (P : Program) (b : Bool) (o : Oper) (s : AS) (K : AV -> Prop) : Prop :=
  match o.op with
  | .call ⟨.value f, args, _⟩ => match dN (s.ev f) with
    | .pure k => match gQ s.ev (hget s.heap) args.toList with
      | some (nd, ps, own) => aM P k = true /\ (b = true -> nd) /\ ∃ r, (b = true -> au P k ps r) /\ (own = true -> r.flat = true) /\ K (r.av.l9 b)
      | none => False
    | _ => False
  | _ => (b = true -> Ug P o s K) /\ (b = false -> K .any)
def dX (P : Program) (gs : List (Option Nat)) (n0 : Nat) : Nat -> List Oper -> AS -> Lg -> (Lg -> AS -> Prop) -> Prop
  | _, [], s, lg, K => K lg.reverse s
  | i, o :: os, s, lg, K => fE s o.dst /\ match o.guard with
    | none => match nP P (n0 + i) s.ev (hget s.heap) o with
      | some (nd, v, ef) => nd /\ ef.eF /\ dX P gs n0 (i + 1) os (s.ent o.dst (n0 + i) v ef) ((ef.tgt (n0 + i), sI s o) :: lg) K
      | none => CK P (n0 + i) o s fun v ef => dX P gs n0 (i + 1) os (s.ent o.dst (n0 + i) v ef) ((ef.tgt (n0 + i), sI s o) :: lg) K
    | some (j, want) => match gB gs s j want with
      | some b => match nP P (n0 + i) s.ev (hget s.heap) o with
        | some (nd, v, .nop) => (b = true -> nd) /\ dX P gs n0 (i + 1) os (s.put o.dst (v.l9 b)) ((none, sI s o) :: lg) K
        | some (nd, v, ef) => (b = true -> nd /\ ef.eF /\ dX P gs n0 (i + 1) os (s.ent o.dst (n0 + i) v ef) ((ef.tgt (n0 + i), sI s o) :: lg) K) /\ (b = false -> dX P gs n0 (i + 1) os (s.put o.dst .any) ((none, sI s o) :: lg) K)
        | none => zJ P b o s fun v => dX P gs n0 (i + 1) os (s.put o.dst v) ((none, sI s o) :: lg) K
      | none => False
theorem Ki {P : Program} {o : Oper} {s : AS} {K : AV -> Eff -> Prop} {nid : Nat} (h : CK P nid o s K) : ∃ v ef, EX P nid o s v ef /\ K v ef := by
  unfold CK at h
  split at h
  · rename_i f args tys ho
    split at h
    · rename_i k hk
      rcases h with h | h <;> split at h
      · rename_i nd ps own ha
        obtain ⟨h1, h2, r, h3, h4, h5⟩ := h
        exact ⟨_, _, .call f args tys k nd ps own r ho hk ha h1 h2 h3 h4, h5⟩
      · exact h.elim
      · rename_i nd ts ha
        obtain ⟨h1, h2, ⟨r, j, cs, cs', h3, h4, h5, h6⟩ | ⟨r, cs, h5, h6⟩⟩ := h
        rotate_left
        · exact ⟨_, _, .fresh f args tys k nd ts r cs ho hk ha h1 h2 h5, h6⟩
        exact ⟨_, _, .turn f args tys k nd ts r j cs cs' ho hk ha h1 h2 h5 h3 h4, h6⟩
      · exact h.elim
    · exact h.elim
  · obtain ⟨h1, h2, u, h3, h4⟩ := h
    exact ⟨_, _, .g u h1 h2 h3, h4⟩
theorem Lp {P : Program} {o : Oper} {s : AS} {K : AV -> Prop} (h : Ug P o s K) (nid : Nat) : ∃ v, EX P nid o s v .nop /\ K v := by
  obtain ⟨h1, h2, u, h3, h4⟩ := h
  exact ⟨_, .g u h1 h2 h3, h4⟩
theorem Gi {P : Program} {b : Bool} {o : Oper} {s : AS} {K : AV -> Prop} (h : zJ P b o s K) (nid : Nat) : ∃ v, ((b = true /\ ∃ v0, EX P nid o s v0 .nop /\ (v = v0 \/ v = v0.l9 true)) \/ (b = false /\ ∃ x, v = .any \/ v = AV.l9 false x)) /\ K v := by
  unfold zJ at h
  split at h
  · rename_i f args tys ho
    split at h
    · rename_i k hk
      split at h
      · rename_i nd ps own ha
        obtain ⟨h1, h2, r, h3, h4, h5⟩ := h
        refine ⟨_, ?_, h5⟩
        cases b with
        | true => exact Or.inl ⟨rfl, _, .call f args tys k nd ps own r ho hk ha h1 (h2 rfl) (h3 rfl) h4, Or.inr rfl⟩
        | false => exact Or.inr ⟨rfl, r.av, Or.inr rfl⟩
      · exact h.elim
    · exact h.elim
  · cases b with
    | true =>
      obtain ⟨v, h1, h2⟩ := Lp (h.1 rfl) nid
      exact ⟨v, Or.inl ⟨rfl, v, h1, Or.inl rfl⟩, h2⟩
    | false => exact ⟨.any, Or.inr ⟨rfl, .any, Or.inl rfl⟩, h.2 rfl⟩
theorem ji {P : Program} {gs : List (Option Nat)} {n0 : Nat} : ∀ (os : List Oper) (i : Nat) (s : AS) (lg : Lg) (K : Lg -> AS -> Prop), dX P gs n0 i os s lg K -> ∃ log s', Trace P gs n0 i os s log s' /\ K (lg.reverse ++ jf n0 i log) s'
  | [], i, s, lg, K, h => ⟨[], s, .nil i s, by simp only [jf, List.append_nil]; exact h⟩
  | o :: os, i, s, lg, K, h => by
    obtain ⟨hd, h⟩ := h
    have go : ∀ v ef, qA P gs (n0 + i) o s v ef -> dX P gs n0 (i + 1) os (s.ent o.dst (n0 + i) v ef) ((ef.tgt (n0 + i), sI s o) :: lg) K -> ∃ log s', Trace P gs n0 i (o :: os) s log s' /\ K (lg.reverse ++ jf n0 i log) s' := fun v ef hr hk => by
      obtain ⟨log, s', ht, hk'⟩ := ji os (i + 1) _ _ K hk
      refine ⟨_, s', .cons i o os s s' v ef log hd hr ht, ?_⟩
      simpa [jf] using hk'
    split at h
    · rename_i hg
      have hR : ∀ v ef, EX P (n0 + i) o s v ef -> qA P gs (n0 + i) o s v ef := fun v ef h => by unfold qA; rw [hg]; exact h
      split at h
      · rename_i nd v ef hop
        exact go v ef (hR v ef (.f nd v ef hop h.1 h.2.1)) h.2.2
      · obtain ⟨v, ef, h1, h2⟩ := Ki h
        exact go v ef (hR _ _ h1) h2
    · rename_i j want hg
      split at h
      · rename_i b hb
        have hR : ∀ v ef, ((b = true /\ ∃ v0, EX P (n0 + i) o s v0 ef /\ (v = v0 \/ v = v0.l9 true)) \/ (b = false /\ ef = .nop /\ ∃ x, v = .any \/ v = AV.l9 false x)) -> qA P gs (n0 + i) o s v ef := fun v ef h => by
          unfold qA; rw [hg]; exact ⟨b, hb, h⟩
        split at h
        · rename_i nd v hop
          refine go (v.l9 b) .nop (hR _ _ ?_) h.2
          cases b with
          | true => exact Or.inl ⟨rfl, v, .f nd v .nop hop (h.1 rfl) trivial, Or.inr rfl⟩
          | false => exact Or.inr ⟨rfl, rfl, v, Or.inr rfl⟩
        · rename_i nd v ef _ hop
          cases b with
          | true =>
            obtain ⟨h1, h2, h3⟩ := h.1 rfl
            exact go v ef (hR _ _ (Or.inl ⟨rfl, v, .f nd v ef hop h1 h2, Or.inl rfl⟩)) h3
          | false => exact go .any .nop (hR _ _ (Or.inr ⟨rfl, rfl, .any, Or.inl rfl⟩)) (h.2 rfl)
        · obtain ⟨v, h1, h2⟩ := Gi h (n0 + i)
          refine go v .nop (hR _ _ ?_) h2
          rcases h1 with h1 | ⟨hb', x, hx⟩
          · exact Or.inl h1
          · exact Or.inr ⟨hb', rfl, x, hx⟩
      · exact h.elim
theorem H9 {P : Program} {s : AS} {Q : Exit -> AS -> Prop} {id : Nat} {ops : Array Oper} (n0 : Nat) (hn0 : ∀ i, i < ops.size -> hget s.heap (n0 + i) = none) (hm : P.follows .mixedOrders = true) (hback : qz .any ops = true) (hd : iE ops = true)
    (h : dX P (ops.toList.map (·.dst)) n0 0 ops.toList s [] fun lg s' => fB ops n0 lg = true /\ Q .normal s') : AW P (.region id ops true) s Q := fun w0 Z0 a w n R => by
  obtain ⟨log, s', ht, hc, hq⟩ := ji _ _ _ _ _ h
  exact DN n0 hn0 hm hback ht (Wm (by simpa using hc)) R (fun a' w' R' => ⟨s', R', hq⟩) hd
theorem aD {P : Program} {s : AS} {Q : Exit -> AS -> Prop} {id : Nat} {ops : Array Oper} (hm : P.follows .mixedOrders = true) (hback : qz .any ops = true) (hd : iE ops = true)
    (h : dX P (ops.toList.map (·.dst)) s.heap.length 0 ops.toList s [] fun lg s' => fB ops s.heap.length lg = true /\ Q .normal s') : AW P (.region id ops true) s Q :=
  H9 s.heap.length (fun _ _ => mF _ _ (by omega)) hm hback hd h
def mh (P : Program) (gs : List (Option Nat)) (o : Oper) (os : List Oper) (s : AS) (K : AS -> Prop) : Prop := zP P o s fun s' => eD P gs os s' K
def iT (P : Program) (gs : List (Option Nat)) (b : Bool) (o : Oper) (os : List Oper) (s : AS) (K : AS -> Prop) : Prop := Nr P b o s fun s' => eD P gs os s' K
def sW (P : Program) (gs : List (Option Nat)) (n0 i : Nat) (o : Oper) (os : List Oper) (s : AS) (lg : Lg) (K : Lg -> AS -> Prop) : Prop := CK P (n0 + i) o s fun v ef => dX P gs n0 (i + 1) os (s.ent o.dst (n0 + i) v ef) ((ef.tgt (n0 + i), sI s o) :: lg) K
def Dt (P : Program) (gs : List (Option Nat)) (n0 i : Nat) (b : Bool) (o : Oper) (os : List Oper) (s : AS) (lg : Lg) (K : Lg -> AS -> Prop) : Prop := zJ P b o s fun v => dX P gs n0 (i + 1) os (s.put o.dst v) ((none, sI s o) :: lg) K
section
variable {P : Program} {gs : List (Option Nat)} {n0 i : Nat} {d : Option Tmp} {op : Op} {ty : TypeId} {pos : String} {aft : Array Edge} {os : List Oper} {s : AS} {lg : Lg} {K : AS -> Prop} {K' : Lg -> AS -> Prop} {b : Bool}
def Ql (P : Program) (gs : List (Option Nat)) (o : Oper) (os : List Oper) (s : AS) (K : AS -> Prop) : Option (Prop × AV × Eff) -> Prop
  | some (nd, v, ef) => nd /\ eD P gs os ((s.Ce (oO s.heap) ef).put o.dst v) K
  | none => mh P gs o os s K
def Um (P : Program) (gs : List (Option Nat)) (b : Bool) (o : Oper) (os : List Oper) (s : AS) (K : AS -> Prop) : Option (Prop × AV × Eff) -> Prop
  | some (nd, v, .nop) => (b = true -> nd) /\ eD P gs os (s.put o.dst (v.l9 b)) K
  | some (nd, v, ef) => (b = true -> nd /\ eD P gs os ((s.Ce (oO s.heap) ef).put o.dst v) K) /\ (b = false -> eD P gs os (s.put o.dst .any) K)
  | none => iT P gs b o os s K
def Qu (P : Program) (gs : List (Option Nat)) (o : Oper) (os : List Oper) (s : AS) (K : AS -> Prop) : Option Bool -> Prop
  | some b => Um P gs b o os s K (nP P (oO s.heap) s.ev (hget s.heap) o)
  | none => False
theorem Tw : eD P gs [] s K = K s := rfl
theorem JN : eD P gs (⟨d, op, ty, pos, aft, none⟩ :: os) s K = (fE s d /\ Ql P gs ⟨d, op, ty, pos, aft, none⟩ os s K (nP P (oO s.heap) s.ev (hget s.heap) ⟨d, op, ty, pos, aft, none⟩)) := by
  simp only [eD]
  congr 1
theorem JV {j : Nat} {want : Bool} : eD P gs (⟨d, op, ty, pos, aft, some (j, want)⟩ :: os) s K = (fE s d /\ Qu P gs ⟨d, op, ty, pos, aft, some (j, want)⟩ os s K (gB gs s j want)) := by
  simp only [eD]
  congr 1
def MN (P : Program) (gs : List (Option Nat)) (n0 i : Nat) (o : Oper) (os : List Oper) (s : AS) (lg : Lg) (K : Lg -> AS -> Prop) : Option (Prop × AV × Eff) -> Prop
  | some (nd, v, ef) => nd /\ ef.eF /\ dX P gs n0 (i + 1) os (s.ent o.dst (n0 + i) v ef) ((ef.tgt (n0 + i), sI s o) :: lg) K
  | none => sW P gs n0 i o os s lg K
def NW (P : Program) (gs : List (Option Nat)) (n0 i : Nat) (b : Bool) (o : Oper) (os : List Oper) (s : AS) (lg : Lg) (K : Lg -> AS -> Prop) : Option (Prop × AV × Eff) -> Prop
  | some (nd, v, .nop) => (b = true -> nd) /\ dX P gs n0 (i + 1) os (s.put o.dst (v.l9 b)) ((none, sI s o) :: lg) K
  | some (nd, v, ef) => (b = true -> nd /\ ef.eF /\ dX P gs n0 (i + 1) os (s.ent o.dst (n0 + i) v ef) ((ef.tgt (n0 + i), sI s o) :: lg) K) /\ (b = false -> dX P gs n0 (i + 1) os (s.put o.dst .any) ((none, sI s o) :: lg) K)
  | none => Dt P gs n0 i b o os s lg K
def Nu (P : Program) (gs : List (Option Nat)) (n0 i : Nat) (o : Oper) (os : List Oper) (s : AS) (lg : Lg) (K : Lg -> AS -> Prop) : Option Bool -> Prop
  | some b => NW P gs n0 i b o os s lg K (nP P (n0 + i) s.ev (hget s.heap) o)
  | none => False
theorem Pq : dX P gs n0 i [] s lg K' = K' lg.reverse s := rfl
theorem FH : dX P gs n0 i (⟨d, op, ty, pos, aft, none⟩ :: os) s lg K' = (fE s d /\ MN P gs n0 i ⟨d, op, ty, pos, aft, none⟩ os s lg K' (nP P (n0 + i) s.ev (hget s.heap) ⟨d, op, ty, pos, aft, none⟩)) := by
  simp only [dX]
  congr 1
theorem Ia {j : Nat} {want : Bool} : dX P gs n0 i (⟨d, op, ty, pos, aft, some (j, want)⟩ :: os) s lg K' = (fE s d /\ Nu P gs n0 i ⟨d, op, ty, pos, aft, some (j, want)⟩ os s lg K' (gB gs s j want)) := by
  simp only [dX]
  congr 1
end
theorem aJ {n : Int} (h1 : -9223372036854775808 <= n) (h2 : n <= 9223372036854775807) : IntKind.i64.wrap n = n := by
  unfold IntKind.wrap IntKind.signed IntKind.bits
  simp only
  split <;> simp_all <;> omega
theorem dG {a b : Int} (h : 0 <= a) : a.tdiv b = a / b := Int.tdiv_eq_ediv_of_nonneg h
theorem dH {a b : Int} (h : 0 <= a) : a.tmod b = a % b := Int.tmod_eq_emod_of_nonneg h
end Go.Sea
