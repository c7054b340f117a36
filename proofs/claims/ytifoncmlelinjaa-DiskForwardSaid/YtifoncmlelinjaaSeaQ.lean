/- Closures that touch own blocks; contracts over given values. -/
import Derived.Test.YtifoncmlelinjaaSeaP
set_option linter.unusedVariables false
set_option linter.unusedSimpArgs false
namespace Go.Sea
open Go.RowKit

theorem fresh_gf : ∀ g : List (Nat × List (Nat × AV)), ∃ n, ∀ f, n ≤ f → gf g f = []
  | [] => ⟨0, fun _ _ => rfl⟩
  | (k, e) :: r => by
    obtain ⟨n, h⟩ := fresh_gf r
    refine ⟨n + k + 1, fun f hf => ?_⟩
    simp only [gf]
    rw [if_neg (by omega)]
    exact h f (by omega)
theorem fresh_ls : ∀ ls : List LS, ∃ n, ∀ f, n ≤ f → lsF ls f
  | [] => ⟨0, fun _ _ => trivial⟩
  | x :: r => by
    obtain ⟨n, h⟩ := fresh_ls r
    exact ⟨n + x.fid + 1, fun f hf => ⟨by omega, h f (by omega)⟩⟩
theorem undef_any {w : World} {J : Nat → Option Nat} {Z : Nat → Prop} {w' : World} {J' : Nat → Option Nat} {Z' : Nat → Prop} {x : AV} (h : ARel w J Z undef x) : ARel w' J' Z' undef x := by
  cases x with
  | any => trivial
  | t x =>
    exfalso
    cases x with
    | one c => have := CRel.one h; simp [undef, Value.oneCell'] at this
    | agg cs => obtain ⟨A, e, _⟩ := h; simp [undef] at e
  | tup xs =>
    obtain ⟨A, e, h⟩ := h
    simp [undef] at e
    subst e
    cases xs with
    | nil => exact ⟨#[], by simp [undef], trivial⟩
    | cons y ys => exact h.elim
  | mb b x =>
    cases b with
    | false => exact ⟨fun h => (by cases h), fun _ => rfl⟩
    | true =>
      exfalso
      have h := h.1 rfl
      cases x with
      | one c => have := CRel.one h; simp [undef, Value.oneCell'] at this
      | agg cs => obtain ⟨A, e, _⟩ := h; simp [undef] at e
/-- A closure's end: its result, and the own blocks. -/
def retH (P : Program) (fn : Func) (r : AV) (H' : List (Option (List CV))) (g : List (Nat × List (Nat × AV))) (lp : LP) (e : Exit) (s : AS) : Prop :=
  (match e with | .normal | .ret => True | _ => False) ∧ s.heap = H' ∧ s.gh = g ∧ s.lp = lp ∧ match resF P s fn.results.toList with
    | some (nd, l) => nd ∧ tupA l = r
    | none => False
theorem CallsH_of {P : Program} {k : FuncId} {fn : Func} {c : Code} {args : List TV} {H H' : List (Option (List CV))} {r : AV} (hf : P.funcs[k]? = some fn) (hb : fn.body = some c) (hl : args.length ≤ fn.ntmps)
    (h : ∀ g ls fr, AW P c ⟨argEnv args 0, H, fn.ntmps, g, ⟨ls, fr, none⟩⟩ (retH P fn r H' g ⟨ls, fr, none⟩)) : CallsH P k args H r H' := by
  intro w0 Z0 J Z s a w vs R hH ha
  subst hH
  refine callsIn_wide.1 (callsIn_of_wp_marks (F := Fence.wide) (n := 0) hf hb trivial ?_)
  have hlen := ha.length
  simp only [Array.length_toList] at hlen
  obtain ⟨n1, f1⟩ := fresh_gf s.gh
  obtain ⟨n2, f2⟩ := fresh_ls s.lp.ls
  obtain ⟨fid, hfid⟩ : ∃ fid, fid = n1 + n2 := ⟨_, rfl⟩
  have e1 : gf s.gh fid = [] := f1 _ (by omega)
  have e2 := lsF_mem (f2 fid (by omega))
  obtain ⟨M, m1, m2, m3⟩ := R.nodef
  let Z1 : Fr := ⟨Z0.z, fun f t => if f = fid then a.tmps.getD t undef else Z0.g f t, none, M ++ Z0.pin⟩
  have R1 : Rel w0 Z1 J Z ⟨argEnv args 0, s.heap, fn.ntmps, (fid, s.env) :: s.gh, ⟨s.lp.ls, s.lp.fr, none⟩⟩ { tmps := vs ++ Array.replicate (fn.ntmps - vs.size) undef, defers := [] } w := by
    refine ⟨⟨[], rfl, by simpa [Z1] using m2, fun b hb => m3 b (by simpa [Z1] using hb)⟩, ?_, R.below, R.zfrom, R.zlt, R.jlt, R.inj, R.hole, R.cells, fun t => ?_, fun f t => ?_, fun y hy => ?_, R.lnd, rfl⟩
    · simp; omega
    · simp only [AS.get, argEnv_lk, Nat.zero_le, if_true, Nat.sub_zero]
      cases hx : args[t]? with
      | none => simp; trivial
      | some x =>
        obtain ⟨u, hu, hr⟩ := ha.get hx
        have : (vs ++ Array.replicate (fn.ntmps - vs.size) undef).getD t undef = u := by
          rw [Array.getElem?_toList] at hu
          have hlt : t < vs.size := (Array.getElem?_eq_some_iff.1 hu).1
          simp only [Array.getD_eq_getD_getElem?, Array.getElem?_append_left hlt, hu, Option.getD_some]
        rw [this]
        exact hr
    · rw [gk_push]
      by_cases hf : f = fid
      · simp only [Z1, if_pos hf]; exact R.slots t
      · simp only [Z1, if_neg hf]; exact R.ghost f t
    · obtain ⟨fn', tmps', dd', k0, k1, k2, k3⟩ := R.loops y hy
      refine ⟨fn', tmps', dd', k0, k1, k2, fun t => ?_⟩
      simp only [Z1, if_neg (e2 y hy)]; exact k3 t
  refine wpIn_mono (h _ _ _ w0 Z1 _ w 0 ⟨_, _, R1⟩) fun e a' w' ⟨s', ⟨J', Z', R'⟩, he, hh, hgg, hlp, q⟩ => ?_
  have fin : LeavesInM Fence.wide 0 P fn a'.tmps (fun e w' => ∃ v J' Z', e = .returned v ∧ Rel w0 Z0 J' Z' { s with heap := H' } a w' ∧ ARel w' J' Z' v r) a'.defers .returning w' := by
    obtain ⟨M', m1', _⟩ := R'.nodef
    refine R'.leaves M' m1' fun a2 w2 R2 h2 h3 => ?_
    split at q
    · rename_i nd l h1
      obtain ⟨hn, rfl⟩ := q
      obtain ⟨vs', hvs, hr⟩ := run_results R2 h1 hn
      rw [h2] at hvs
      have hres : (results fn a'.tmps).run P w2 = .ok (if h : vs'.toArray.size = 1 then vs'.toArray[0] else .tuple vs'.toArray) w2 := by
        rw [results_eq, ← Array.toArray_toList (xs := fn.results), List.mapM_toArray]
        simp only [Sem.run_bind, Sem.run_map, hvs, Result.andThen_ok, Sem.run_pure]
      refine ⟨_, hres, _, J', Z', rfl, ?_, tupA_rel hr⟩
      subst hh
      refine ⟨⟨M, m1, m2, fun b hb => ?_⟩, R.size, R2.below, R2.zfrom, R2.zlt, R2.jlt, R2.inj, R2.hole, R2.cells, fun t => ?_, fun f t => ?_, fun y hy => ?_, R.lnd, R.ro⟩
      · obtain ⟨M4, _, _, n3⟩ := R2.nodef
        exact n3 b (List.mem_append_right _ hb)
      · have := R2.ghost fid t
        rw [hgg, gk_push] at this
        simpa only [Z1, if_true] using this
      · have := R2.ghost f t
        rw [hgg, gk_push] at this
        by_cases hf : f = fid
        · subst hf
          show ARel _ _ _ _ (lk (gf s.gh f) t)
          rw [e1]; trivial
        · simpa only [Z1, if_neg hf] using this
      · obtain ⟨fn', tmps', dd', k0, k1, k2, k3⟩ := R2.loops y (by rw [hlp]; exact hy)
        refine ⟨fn', tmps', dd', k0, k1, k2, fun t => ?_⟩
        have := k3 t
        simpa only [Z1, if_neg (e2 y hy)] using this
    · exact q.elim
  cases e <;> simp at he <;> exact fin

section
variable {P : Program} {gs : List (Option Nat)} {d : Option Tmp} {f : Operand} {args : Array Operand} {tys : Array TypeId} {ty : TypeId} {pos : String} {aft : Array Edge} {g : Option (Nat × Bool)} {os : List Oper} {s : AS} {K : AS → Prop} {k : FuncId} {l m : List LV} {nd : Prop} {ps : List TV} {r : AV} {H' : List (Option (List CV))}
theorem callK_h (h1 : calleeF (s.ev f) = .clo k l m) (h2 : tvsF s.ev args.toList = some (nd, ps)) (h3 : fnOk P k = true) (h4 : nd) (h5 : CallsH P k (l.map LV.tv ++ ps ++ m.map LV.tv) s.heap r H') (h7 : arun P gs os ({ s with heap := H' }.put d r) K) : callK P gs ⟨d, .call ⟨.value f, args, tys⟩, ty, pos, aft, g⟩ os s K := by
  refine Or.inl ?_
  unfold callF0
  simp only [h1, h2]
  exact ⟨h3, h4, Or.inl ⟨r, H', h5, h7⟩⟩
end

/-- Plain values. -/
def IV.val : IV → Option Value
  | .g v => if v.oneCell' then some v else none
  | _ => none
def IVs.val : List IV → Option (List Value)
  | [] => some []
  | c :: l => match c.val, IVs.val l with
    | some v, some vs => some (v :: vs)
    | _, _ => none
def PT.val : PT → Option Value
  | .one c => c.val
  | .agg cs => (IVs.val cs).map fun vs => .agg vs.toArray
def PTs.val : List PT → Option (List Value)
  | [] => some []
  | c :: l => match c.val, PTs.val l with
    | some v, some vs => some (v :: vs)
    | _, _ => none
def PV.val : PV → Option Value
  | .t x => x.val
  | .tup xs => (PTs.val xs).map fun vs => .tuple vs.toArray
theorem IV.val_rel {w : World} {Z : Nat → Prop} {c : IV} {v : Value} (h : c.val = some v) : ∀ u, Rd w Z u c ↔ u = v := by
  intro u
  unfold IV.val at h
  split at h
  · split at h
    · rename_i h1
      cases h
      exact ⟨fun h => (by cases h; rfl), fun h => (by subst h; exact Rd.g _ h1)⟩
    · cases h
  · cases h
theorem IVs.val_rel {w : World} {Z : Nat → Prop} : ∀ {cs : List IV} {vs : List Value}, IVs.val cs = some vs → ∀ us, All2 (Rd w Z) us cs ↔ us = vs
  | [], _, h, us => by simp only [IVs.val, Option.some.injEq] at h; subst h; cases us <;> simp [All2]
  | c :: cs, _, h, us => by
    unfold IVs.val at h
    split at h
    · rename_i v vs h1 h2
      cases h
      cases us with
      | nil => simp [All2]
      | cons u us => simp only [All2, IV.val_rel h1 u, IVs.val_rel h2 us, List.cons.injEq]
    · cases h
theorem PT.val_rel {w : World} {Z : Nat → Prop} {x : PT} {v : Value} (h : x.val = some v) : ∀ u, PTRel w Z u x ↔ u = v := by
  intro u
  cases x with
  | one c => exact IV.val_rel h u
  | agg cs =>
    simp only [PT.val, Option.map_eq_some_iff] at h
    obtain ⟨vs, h1, rfl⟩ := h
    simp only [PTRel]
    constructor
    · rintro ⟨A, rfl, h⟩
      rw [IVs.val_rel h1] at h
      rw [← h]
    · rintro rfl
      exact ⟨_, rfl, (IVs.val_rel h1 _).2 rfl⟩
theorem PTs.val_rel {w : World} {Z : Nat → Prop} : ∀ {cs : List PT} {vs : List Value}, PTs.val cs = some vs → ∀ us, All2 (PTRel w Z) us cs ↔ us = vs
  | [], _, h, us => by simp only [PTs.val, Option.some.injEq] at h; subst h; cases us <;> simp [All2]
  | c :: cs, _, h, us => by
    unfold PTs.val at h
    split at h
    · rename_i v vs h1 h2
      cases h
      cases us with
      | nil => simp [All2]
      | cons u us => simp only [All2, PT.val_rel h1 u, PTs.val_rel h2 us, List.cons.injEq]
    · cases h
theorem PV.val_rel {w : World} {Z : Nat → Prop} {x : PV} {v : Value} (h : x.val = some v) : PRel w Z v x := by
  cases x with
  | t x => exact (PT.val_rel h v).2 rfl
  | tup xs =>
    simp only [PV.val, Option.map_eq_some_iff] at h
    obtain ⟨vs, h1, rfl⟩ := h
    exact ⟨_, rfl, (PTs.val_rel h1 _).2 rfl⟩
/-- From a contract over given values. -/
theorem CallsP_vals {P : Program} {k : FuncId} {args : List PT} {r : PV} {vs : List Value} {V : Value} (ha : PTs.val args = some vs) (hr : r.val = some V)
    (h : ∀ w, Calls P k vs.toArray w fun e w' => e = .returned V ∧ Below w.heap.size w w') : CallsP P k args r := by
  intro w Z us hZ hu
  have := (PTs.val_rel ha us.toList).1 hu
  obtain rfl : us = vs.toArray := by rw [← this]
  exact (h w).mono fun e w' ⟨he, hb⟩ => ⟨V, he, hb, PV.val_rel hr⟩
end Go.Sea
