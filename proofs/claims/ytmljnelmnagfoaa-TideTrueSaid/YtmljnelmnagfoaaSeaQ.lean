/- Closures that touch own blocks; contracts over given values. -/
import Derived.Test.YtmljnelmnagfoaaSeaP
set_option linter.unusedVariables false
set_option linter.unusedSimpArgs false
namespace Go.Sea
open Go.RowKit

def shiftE (n : Nat) (e : List (Nat × AV)) : List (Nat × AV) := e.map fun p => (p.1 + n, p.2)
theorem lk_append : ∀ (a b : List (Nat × AV)) (t : Nat), (∀ p, p ∈ a → p.1 ≠ t) → lk (a ++ b) t = lk b t
  | [], _, _, _ => rfl
  | (k, v) :: a, b, t, h => by
    simp only [List.cons_append, lk]
    rw [if_neg (fun e => h (k, v) (by simp) e.symm)]
    exact lk_append a b t fun p hp => h p (by simp [hp])
theorem lk_filter (n : Nat) (b : List (Nat × AV)) (t : Nat) (ht : t < n) (hb : ∀ p, p ∈ b → p.1 ≠ t) : ∀ a : List (Nat × AV), lk (a.filter (fun p => decide (p.1 < n)) ++ b) t = lk a t
  | [] => by
    simp only [List.filter_nil, List.nil_append, lk]
    have := lk_append b [] t hb
    rw [List.append_nil] at this
    exact this
  | (k, v) :: a => by
    simp only [List.filter_cons]
    by_cases hk : k < n
    · simp only [hk, decide_true, if_true, List.cons_append, lk]
      rw [lk_filter n b t ht hb a]
    · simp only [hk, decide_false, Bool.false_eq_true, if_false, lk]
      rw [if_neg (by omega)]
      exact lk_filter n b t ht hb a
theorem lk_shift (n t : Nat) (ht : n ≤ t) : ∀ e : List (Nat × AV), lk (shiftE n e) t = lk e (t - n)
  | [] => rfl
  | (k, v) :: e => by
    simp only [shiftE, List.map_cons, lk]
    by_cases h : t = k + n
    · rw [if_pos h, if_pos (by omega)]
    · rw [if_neg h, if_neg (by omega)]
      exact lk_shift n t ht e
theorem tupA_rel {w : World} {J : Nat → Option Nat} {Z : Nat → Prop} {vs : List Value} {l : List TV} (hr : All2 (TRel w J Z) vs l) : ARel w J Z (if h : vs.toArray.size = 1 then vs.toArray[0] else .tuple vs.toArray) (tupA l) := by
  rcases l with _ | ⟨v1, _ | ⟨v2, l⟩⟩ <;> rcases vs with _ | ⟨u1, _ | ⟨u2, vs⟩⟩ <;> first | exact hr.elim | exact hr.2.elim | skip
  · exact ⟨_, rfl, hr⟩
  · exact hr.1
  · exact ⟨_, rfl, hr⟩
/-- A closure's end: its result, and the own blocks. -/
def retH (P : Program) (fn : Func) (r : AV) (H' : List (Option (List CV))) (g : List (Nat × AV)) (e : Exit) (s : AS) : Prop :=
  (match e with | .normal | .ret => True | _ => False) ∧ s.heap = H' ∧ s.gh = g ∧ match resF P s fn.results.toList with
    | some (nd, l) => nd ∧ tupA l = r
    | none => False
theorem CallsH_of {P : Program} {k : FuncId} {fn : Func} {c : Code} {args : List TV} {H H' : List (Option (List CV))} {r : AV} (hf : P.funcs[k]? = some fn) (hb : fn.body = some c) (hl : args.length ≤ fn.ntmps)
    (h : ∀ g, AW P c ⟨argEnv args 0, H, fn.ntmps, g⟩ (retH P fn r H' g)) : CallsH P k args H r H' := by
  intro w0 Z0 J Z s a w vs R hH ha
  subst hH
  refine calls_of_wp hf hb ?_
  have hlen := ha.length
  simp only [Array.length_toList] at hlen
  let g : List (Nat × AV) := s.env.filter (fun p => decide (p.1 < s.N)) ++ shiftE s.N s.gh
  let Z1 : Fr := ⟨Z0.z, fun t => if t < s.N then a.tmps.getD t undef else Z0.g (t - s.N)⟩
  have hsh : ∀ t, t < s.N → ∀ p, p ∈ shiftE s.N s.gh → p.1 ≠ t := fun t ht p hp => by
    obtain ⟨q, _, rfl⟩ := List.mem_map.1 hp
    simp only; omega
  have hg1 : ∀ t, t < s.N → lk g t = s.get t := fun t ht => lk_filter s.N _ t ht (hsh t ht) s.env
  have hg2 : ∀ t, s.N ≤ t → lk g t = lk s.gh (t - s.N) := fun t ht => by
    show lk (_ ++ _) t = _
    rw [lk_append _ _ t fun p hp => by have := (List.mem_filter.1 hp).2; simp at this; omega]
    exact lk_shift s.N t ht s.gh
  have R1 : Rel w0 Z1 J Z ⟨argEnv args 0, s.heap, fn.ntmps, g⟩ { tmps := vs ++ Array.replicate (fn.ntmps - vs.size) undef, defers := [] } w := by
    refine ⟨rfl, ?_, R.below, R.zfrom, R.zlt, R.jlt, R.inj, R.hole, R.cells, fun t => ?_, fun t => ?_⟩
    · simp; omega
    · simp only [AS.get, argEnv_lk, Nat.zero_le, if_true, Nat.sub_zero]
      cases hx : args[t]? with
      | none => simp; trivial
      | some x =>
        obtain ⟨u, hu, hr⟩ := ha.get hx
        have : (vs ++ Array.replicate (fn.ntmps - vs.size) undef).getD t undef = u := by
          rw [Array.getElem?_toList] at hu
          have hlt : t < vs.size := (Array.getElem?_eq_some_iff.1 hu).1
          simp only [Array.getD_eq_getD_getElem?, Array.getElem?_append_left hlt, hu, Option.getD_some]
        rw [this]
        exact hr
    · by_cases ht : t < s.N
      · simp only [Z1, if_pos ht]
        rw [hg1 t ht]; exact R.slots t
      · simp only [Z1, if_neg ht]
        rw [hg2 t (by omega)]; exact R.ghost _
  refine wp_mono (h g w0 Z1 _ w ⟨_, _, R1⟩) fun e a' w' ⟨s', ⟨J', Z', R'⟩, he, hh, hgg, q⟩ => ?_
  split at q
  · rename_i nd l h1
    obtain ⟨hn, rfl⟩ := q
    obtain ⟨vs', hvs, hr⟩ := run_results R' h1 hn
    have hres : (results fn a'.tmps).run P w' = .ok (if h : vs'.toArray.size = 1 then vs'.toArray[0] else .tuple vs'.toArray) w' := by
      rw [results_eq, ← Array.toArray_toList (xs := fn.results), List.mapM_toArray]
      simp only [Sem.run_bind, Sem.run_map, hvs, Result.andThen_ok, Sem.run_pure]
    have R2 : Rel w0 Z0 J' Z' { s with heap := H' } a w' := by
      subst hh
      refine ⟨R.nodef, R.size, R'.below, R'.zfrom, R'.zlt, R'.jlt, R'.inj, R'.hole, R'.cells, fun t => ?_, fun t => ?_⟩
      · by_cases ht : t < s.N
        · have := R'.ghost t
          simp only [Z1, if_pos ht] at this
          rw [hgg, hg1 t ht] at this
          exact this
        · have hu : a.tmps.getD t undef = undef := by
            have : a.tmps.size ≤ t := by rw [R.size]; omega
            simp [Array.getElem?_eq_none this]
          have h0 := R.slots t
          rw [hu] at h0 ⊢
          show ARel w' J' Z' undef (s.get t)
          cases hx : s.get t with
          | any => trivial
          | t x =>
            rw [hx] at h0
            exfalso
            cases x with
            | one c => have := CRel.one h0; simp [undef, Value.oneCell'] at this
            | agg cs => obtain ⟨A, e, _⟩ := h0; simp [undef] at e
          | tup xs =>
            rw [hx] at h0
            obtain ⟨A, e, h0⟩ := h0
            simp [undef] at e
            subst e
            cases xs with
            | nil => exact ⟨#[], by simp [undef], trivial⟩
            | cons y ys => exact h0.elim
          | mb b x =>
            rw [hx] at h0
            cases b with
            | false => exact ⟨fun h => (by cases h), fun _ => rfl⟩
            | true =>
              exfalso
              have h0 := h0.1 rfl
              cases x with
              | one c => have := CRel.one h0; simp [undef, Value.oneCell'] at this
              | agg cs => obtain ⟨A, e, _⟩ := h0; simp [undef] at e
      · have := R'.ghost (t + s.N)
        simp only [Z1, if_neg (show ¬ t + s.N < s.N by omega), Nat.add_sub_cancel] at this
        rw [hgg, hg2 _ (by omega), Nat.add_sub_cancel] at this
        exact this
    have hpost : a'.defers = [] ∧ ∃ v, (results fn a'.tmps).run P w' = .ok v w' ∧ ∃ v' J' Z', (Ending.returned v) = .returned v' ∧ Rel w0 Z0 J' Z' { s with heap := H' } a w' ∧ ARel w' J' Z' v' (tupA l) :=
      ⟨R'.nodef, _, hres, _, J', Z', rfl, R2, tupA_rel hr⟩
    cases e <;> simp at he <;> exact hpost
  · exact q.elim

section
variable {P : Program} {gs : List (Option Nat)} {d : Option Tmp} {f : Operand} {args : Array Operand} {tys : Array TypeId} {ty : TypeId} {pos : String} {aft : Array Edge} {g : Option (Nat × Bool)} {os : List Oper} {s : AS} {K : AS → Prop} {k : FuncId} {l m : List LV} {nd : Prop} {ps : List TV} {r : AV} {H' : List (Option (List CV))}
theorem callK_h (h1 : calleeF (s.ev f) = .clo k l m) (h2 : tvsF s.ev args.toList = some (nd, ps)) (h3 : fnOk P k = true) (h4 : nd) (h5 : CallsH P k (l.map LV.tv ++ ps ++ m.map LV.tv) s.heap r H') (h7 : arun P gs os ({ s with heap := H' }.put d r) K) : callK P gs ⟨d, .call ⟨.value f, args, tys⟩, ty, pos, aft, g⟩ os s K := by
  unfold callK callF
  simp only [h1, h2]
  exact ⟨h3, h4, r, H', h5, h7⟩
end

/-- Plain values. -/
def IV.val : IV → Option Value
  | .g v => if v.oneCell' then some v else none
  | _ => none
def IVs.val : List IV → Option (List Value)
  | [] => some []
  | c :: l => match c.val, IVs.val l with
    | some v, some vs => some (v :: vs)
    | _, _ => none
def PT.val : PT → Option Value
  | .one c => c.val
  | .agg cs => (IVs.val cs).map fun vs => .agg vs.toArray
def PTs.val : List PT → Option (List Value)
  | [] => some []
  | c :: l => match c.val, PTs.val l with
    | some v, some vs => some (v :: vs)
    | _, _ => none
def PV.val : PV → Option Value
  | .t x => x.val
  | .tup xs => (PTs.val xs).map fun vs => .tuple vs.toArray
theorem IV.val_rel {w : World} {Z : Nat → Prop} {c : IV} {v : Value} (h : c.val = some v) : ∀ u, Rd w Z u c ↔ u = v := by
  intro u
  unfold IV.val at h
  split at h
  · split at h
    · rename_i h1
      cases h
      exact ⟨fun h => (by cases h; rfl), fun h => (by subst h; exact Rd.g _ h1)⟩
    · cases h
  · cases h
theorem IVs.val_rel {w : World} {Z : Nat → Prop} : ∀ {cs : List IV} {vs : List Value}, IVs.val cs = some vs → ∀ us, All2 (Rd w Z) us cs ↔ us = vs
  | [], _, h, us => by simp only [IVs.val, Option.some.injEq] at h; subst h; cases us <;> simp [All2]
  | c :: cs, _, h, us => by
    unfold IVs.val at h
    split at h
    · rename_i v vs h1 h2
      cases h
      cases us with
      | nil => simp [All2]
      | cons u us => simp only [All2, IV.val_rel h1 u, IVs.val_rel h2 us, List.cons.injEq]
    · cases h
theorem PT.val_rel {w : World} {Z : Nat → Prop} {x : PT} {v : Value} (h : x.val = some v) : ∀ u, PTRel w Z u x ↔ u = v := by
  intro u
  cases x with
  | one c => exact IV.val_rel h u
  | agg cs =>
    simp only [PT.val, Option.map_eq_some_iff] at h
    obtain ⟨vs, h1, rfl⟩ := h
    simp only [PTRel]
    constructor
    · rintro ⟨A, rfl, h⟩
      rw [IVs.val_rel h1] at h
      rw [← h]
    · rintro rfl
      exact ⟨_, rfl, (IVs.val_rel h1 _).2 rfl⟩
theorem PTs.val_rel {w : World} {Z : Nat → Prop} : ∀ {cs : List PT} {vs : List Value}, PTs.val cs = some vs → ∀ us, All2 (PTRel w Z) us cs ↔ us = vs
  | [], _, h, us => by simp only [PTs.val, Option.some.injEq] at h; subst h; cases us <;> simp [All2]
  | c :: cs, _, h, us => by
    unfold PTs.val at h
    split at h
    · rename_i v vs h1 h2
      cases h
      cases us with
      | nil => simp [All2]
      | cons u us => simp only [All2, PT.val_rel h1 u, PTs.val_rel h2 us, List.cons.injEq]
    · cases h
theorem PV.val_rel {w : World} {Z : Nat → Prop} {x : PV} {v : Value} (h : x.val = some v) : PRel w Z v x := by
  cases x with
  | t x => exact (PT.val_rel h v).2 rfl
  | tup xs =>
    simp only [PV.val, Option.map_eq_some_iff] at h
    obtain ⟨vs, h1, rfl⟩ := h
    exact ⟨_, rfl, (PTs.val_rel h1 _).2 rfl⟩
/-- From a contract over given values. -/
theorem CallsP_vals {P : Program} {k : FuncId} {args : List PT} {r : PV} {vs : List Value} {V : Value} (ha : PTs.val args = some vs) (hr : r.val = some V)
    (h : ∀ w, Calls P k vs.toArray w fun e w' => e = .returned V ∧ Below w.heap.size w w') : CallsP P k args r := by
  intro w Z us hZ hu
  have := (PTs.val_rel ha us.toList).1 hu
  obtain rfl : us = vs.toArray := by rw [← this]
  exact (h w).mono fun e w' ⟨he, hb⟩ => ⟨V, he, hb, PV.val_rel hr⟩
end Go.Sea
