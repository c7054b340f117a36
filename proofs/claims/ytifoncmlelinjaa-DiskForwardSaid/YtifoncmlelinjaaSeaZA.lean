/- Calls with arguments that read own blocks: the result is told as far as it names no block, or a new block. -/
import Derived.Test.YtifoncmlelinjaaSeaU
set_option linter.unusedVariables false
set_option linter.unusedSimpArgs false
namespace Go.Sea
open Go.RowKit
def IV.fl (c : IV) : CV := bif flatI c then .iv c else .any
def PT.fl : PT → TV
  | .one c => .one c.fl
  | .agg cs => .agg (cs.map IV.fl)
def PV.fl : PV → AV
  | .t x => .t x.fl
  | .tup xs => .tup (xs.map PT.fl)
section
variable {w0 : World} {Z0 : Fr} {J : Nat → Option Nat} {Z Z' : Nat → Prop} {s : AS} {a : Act} {w w' : World}
theorem Rd.fl {v : Value} {c : IV} (h : Rd w Z' v c) : CRel w J Z v c.fl := by
  unfold IV.fl
  cases hf : flatI c with
  | true => exact Rd.flat h hf
  | false => exact Rd.one h
theorem PTRel.fl {v : Value} {x : PT} (h : PTRel w Z' v x) : TRel w J Z v x.fl := by
  cases x with
  | one c => exact Rd.fl h
  | agg cs => obtain ⟨A, e, h⟩ := h; exact ⟨A, e, All2.map_right.2 (h.mono fun _ _ => Rd.fl)⟩
theorem PRel.fl {v : Value} {x : PV} (h : PRel w Z' v x) : ARel w J Z v x.fl := by
  cases x with
  | t x => exact PTRel.fl h
  | tup xs => obtain ⟨A, e, h⟩ := h; exact ⟨A, e, All2.map_right.2 (h.mono fun _ _ => PTRel.fl)⟩
theorem ownZ_lt (R : Rel w0 Z0 J Z s a w) (own : Bool) : ∀ b, (if own then OwnZ J Z else Z) b → b < w.heap.size := fun b hb => by
  cases own with
  | false => exact R.zlt b hb
  | true =>
    rcases hb with hb | ⟨i, hi⟩
    · exact R.zlt b hb
    · exact (R.jlt i b hi).2.1
end
/-- A call by value with arguments that read own blocks. -/
theorem CallsP.own {P : Program} {k : FuncId} {ps ps' : List PT} {r : PV} (hc : CallsP P k ps r) {H : List (Option (List CV))} {ts : List TV} {nd : Prop} {own : Bool} (ht : toPTs (hget H) ts = some (nd, ps', own)) (he : All2 PT.eqv ps' ps) (hn : nd) : CallsH P k ts H r.fl H := by
  intro w0 Z0 J Z s a w vs R hs hv
  subst hs
  have ha := toPTs_rel R hv ht hn
  have ha' := All2.trans2 (S := PT.eqv) (T := PTRel w _) (fun _ _ _ h he => PTRel.eqv h he) ha he
  exact (hc w _ vs (ownZ_lt R own) ha').mono fun e w' ⟨v, h1, h2, h3⟩ => ⟨v, _, _, h1, R.callX h2 (fun _ => True), PRel.fl h3⟩
/-- A call by value that lays one new block of cells that name no block; its arguments may read own blocks. -/
def CallsO (P : Program) (k : FuncId) (args : List PT) (cs : List CV) (off n E : Nat) : Prop :=
  ∀ (w : World) (Z : Nat → Prop) (vs : Array Value), (∀ b, Z b → b < w.heap.size) → All2 (PTRel w Z) vs.toList args →
    Calls P k vs w fun e w' => ∃ v b0 c e0, e = .returned v ∧ Below w.heap.size w w' ∧ w.heap.size ≤ b0 ∧ b0 < w'.heap.size ∧ w'.heap[b0]? = some (.cells c e0 (0, 0)) ∧ All2 (CRel w' (fun _ => none) (fun _ => False)) (c.toList.take cs.length) cs ∧
      ∀ (J : Nat → Option Nat) (i : Nat) (Z : Nat → Prop), J i = some b0 → ARel w' J Z v (.t (.one (.slc i off n E)))
theorem CallsO_of {P : Program} {k : FuncId} {fn : Func} {c : Code} {args : List PT} {cs : List CV} {off m E : Nat} (j : Nat) (hf : P.funcs[k]? = some fn) (hb : fn.body = some c) (hl : args.length ≤ fn.ntmps) (hiv : ∀ c, c ∈ cs → ∃ v, c = .iv (.g v)) (hne : cs ≠ [])
    (h : AW P c ⟨argEnv (args.map PT.tv) 0, [], fn.ntmps, [], .top⟩ (retO P fn j cs fun i => .t (.one (.slc i off m E)))) : CallsO P k args cs off m E := by
  intro w Z vs hZ ha
  refine callsIn_wide.1 (callsIn_of_wp_marks (F := Fence.wide) (n := 0) hf hb trivial ?_)
  have hlen := ha.length
  simp only [Array.length_toList] at hlen
  have R0 : Rel w ⟨Z, fun _ _ => undef, none, []⟩ (fun _ => none) Z ⟨argEnv (args.map PT.tv) 0, [], fn.ntmps, [], .top⟩ { tmps := vs ++ Array.replicate (fn.ntmps - vs.size) undef, defers := [] } w := by
    refine ⟨⟨[], rfl, by simp, fun b hb => by cases hb⟩, ?_, Below.refl _ _, fun b h => Or.inl h, hZ, (fun i b h => by cases h), (fun i j b h => by cases h), fun _ _ => rfl, (fun i cs h => by simp [hget] at h), fun t => ?_, fun f t => trivial, (fun x hx => by cases hx), by simp, rfl⟩
    · simp; omega
    · simp only [AS.get, argEnv_lk, Nat.zero_le, if_true, Nat.sub_zero]
      rw [List.getElem?_map]
      cases hx : args[t]? with
      | none => simp; trivial
      | some x =>
        obtain ⟨u, hu, hr⟩ := ha.get hx
        have : (vs ++ Array.replicate (fn.ntmps - vs.size) undef).getD t undef = u := by
          rw [Array.getElem?_toList] at hu
          have hlt : t < vs.size := (Array.getElem?_eq_some_iff.1 hu).1
          simp only [Array.getD_eq_getD_getElem?, Array.getElem?_append_left hlt, hu, Option.getD_some]
        rw [this]
        exact PTRel.tv hr
  refine wpIn_mono (h w ⟨Z, fun _ _ => undef, none, []⟩ _ w 0 ⟨_, _, R0⟩) fun e a' w' ⟨s', ⟨J', Z', R'⟩, he, hj, q⟩ => ?_
  have fin : LeavesInM Fence.wide 0 P fn a'.tmps (fun e w' => ∃ v b0 c e0, e = .returned v ∧ Below w.heap.size w w' ∧ w.heap.size ≤ b0 ∧ b0 < w'.heap.size ∧ w'.heap[b0]? = some (.cells c e0 (0, 0)) ∧ All2 (CRel w' (fun _ => none) (fun _ => False)) (c.toList.take cs.length) cs ∧
      ∀ (J : Nat → Option Nat) (i : Nat) (Z : Nat → Prop), J i = some b0 → ARel w' J Z v (.t (.one (.slc i off m E)))) a'.defers .returning w' := by
    obtain ⟨M, m1, _⟩ := R'.nodef
    refine R'.leaves M m1 fun a2 w2 R2 h2 h3 => ?_
    split at q
    · rename_i nd l h1
      obtain ⟨hn, hto⟩ := q
      obtain ⟨vs', hvs, hr⟩ := run_results R2 h1 hn
      rw [h2] at hvs
      have hres : (results fn a'.tmps).run P w2 = .ok (if h : vs'.toArray.size = 1 then vs'.toArray[0] else .tuple vs'.toArray) w2 := by
        rw [results_eq, ← Array.toArray_toList (xs := fn.results), List.mapM_toArray]
        simp only [Sem.run_bind, Sem.run_map, hvs, Result.andThen_ok, Sem.run_pure]
      have hA := tupA_rel hr
      obtain ⟨b0, c0, e0, g1, g2, g3⟩ := R2.cells j cs hj hne
      have hjl := R2.jlt j b0 g1
      refine ⟨_, hres, _, b0, c0, e0, rfl, R2.below, hjl.1, hjl.2.1, g2, g3.mono' fun x y hy hxy => ?_, fun J i Z1 hJ => ?_⟩
      · obtain ⟨v, rfl⟩ := hiv y hy
        exact Rd.flat hxy rfl
      · have h0 := hto i
        generalize (if h : vs'.toArray.size = 1 then vs'.toArray[0] else Value.tuple vs'.toArray) = vv at hA ⊢
        generalize tupA l = t at hA h0
        cases t with
        | t x =>
          cases x with
          | one cv =>
            cases cv with
            | slc k off' n' E' =>
              simp only [AV.to, TV.to, CV.to] at h0
              by_cases hk : k = j
              · subst hk
                simp at h0
                obtain ⟨rfl, rfl, rfl⟩ := h0
                rcases hA with hA | ⟨bb, cap, c1, e1, k1, k2, k3⟩
                · exact Or.inl hA
                · rw [g1] at k2; cases k2
                  exact Or.inr ⟨b0, cap, c1, e1, k1, hJ, k3⟩
              · simp [hk] at h0
            | _ => simp [AV.to, TV.to, CV.to] at h0 <;> (try split at h0) <;> simp at h0
          | agg cs => simp [AV.to, TV.to] at h0
        | tup xs => simp [AV.to] at h0
        | mb b x => simp [AV.to] at h0
        | any => simp [AV.to] at h0
    · exact q.elim
  cases e <;> simp at he <;> exact fin
theorem CallsO.h {P : Program} {k : FuncId} {ps ps' : List PT} {cs : List CV} {off n E : Nat} (hc : CallsO P k ps cs off n E) {H : List (Option (List CV))} {ts : List TV} {nd : Prop} {own : Bool} (i : Nat) (hi : hget H i = none) (ht : toPTs (hget H) ts = some (nd, ps', own)) (he : All2 PT.eqv ps' ps) (hn : nd) (hiv : ∀ c, c ∈ cs → ∃ v, c = .iv (.g v)) : CallsH P k ts H (.t (.one (.slc i off n E))) (hset H i cs) := by
  intro w0 Z0 J Z s a w vs R hs hv
  subst hs
  have ha := toPTs_rel R hv ht hn
  have ha' := All2.trans2 (S := PT.eqv) (T := PTRel w _) (fun _ _ _ h he => PTRel.eqv h he) ha he
  refine (hc w _ vs (ownZ_lt R own) ha').mono fun e w' ⟨v, b0, c0, e0, h1, h2, h3, h4, h5, h6, h7⟩ => ?_
  have R3 := R.callX h2 (fun b => b ≠ b0)
  have R4 := R3.own (i := i) (b0 := b0) (cs := cs) hi (by have := R.below.size; omega) h4 (fun hz => by
    rcases hz with hz | hz
    · have := R.zlt b0 hz; omega
    · exact hz.2.2 rfl) (fun q hq => by have := (R.jlt q b0 hq).2.1; omega) h5 (h6.mono' fun x y hy hxy => by
      obtain ⟨u, rfl⟩ := hiv y hy
      exact Rd.flat hxy rfl)
  exact ⟨v, _, _, h1, R4, h7 _ i _ (by simp [jset])⟩
end Go.Sea
