/- Drawn regions for the walk; calls kept whole for the walk. -/
import Derived.Test.YtifoncmlelinjaaSeaN
set_option linter.unusedVariables false
set_option linter.unusedSimpArgs false
namespace Go.Sea
open Go.RowKit

abbrev Lg := List (Option Nat × List Nat)
def chkR (ops : Array Oper) (n0 : Nat) (log : Lg) : Bool :=
  let T := masks [] ops.toList
  (List.range ops.size).all fun i => (List.range i).all fun k => match ops[k]?, ops[i]?, log[k]?, log[i]? with
    | some ok, some oi, some ek, some ei => !(ek.1 == some (n0 + i)) && ((T.getD i 0).testBit k ||
        (ok.apart ops oi && !(tgtIn ek.1 ei.2) && !(tgtIn ei.1 ek.2) && !(ek.1 == some (n0 + i)) && !(ei.1 == some (n0 + k)) && (match ek.1 with | some q => !(ei.1 == some q) | none => true)))
    | _, _, _, _ => false
def projL (n0 : Nat) : Nat → Log → Lg
  | _, [] => []
  | i, e :: es => (e.2.ef.tgt (n0 + i), e.2.ft) :: projL n0 (i + 1) es
theorem projL_get (n0 : Nat) : ∀ (log : Log) (j k : Nat), (projL n0 j log)[k]? = (log[k]?).map fun e => (e.2.ef.tgt (n0 + (j + k)), e.2.ft)
  | [], _, _ => by simp [projL]
  | e :: es, j, 0 => by simp [projL]
  | e :: es, j, k + 1 => by
    simp only [projL, List.getElem?_cons_succ]
    rw [projL_get n0 es (j + 1) k, show j + 1 + k = j + (k + 1) by omega]
theorem chkD_of {ops : Array Oper} {n0 : Nat} {log : Log} (h : chkR ops n0 (projL n0 0 log) = true) : chkD ops n0 log = true := by
  rw [← h]
  unfold chkD chkR
  simp only
  congr 1
  funext i
  congr 1
  funext k
  rw [projL_get, projL_get, Nat.zero_add, Nat.zero_add]
  cases ops[k]? <;> cases ops[i]? <;> cases log[k]? <;> cases log[i]? <;> rfl

/-- An operation on plain values alone. -/
def grndD (P : Program) (o : Oper) (s : AS) (K : AV → Prop) : Prop := isSelect o.op = false ∧ (o.op.operands.toList.all fun x => (gv (s.ev x)).isSome) = true ∧ ∃ u, (∀ w, (execOp (gρ s.ev) o).run P w = .ok (.value u) w) ∧ K (constA u)
def callD (P : Program) (nid : Nat) (o : Oper) (s : AS) (K : AV → Eff → Prop) : Prop :=
  match o.op with
  | .call ⟨.value f, args, _⟩ => match calleeF (s.ev f) with
    | .pure k => (match argsF s.ev (hget s.heap) args.toList with
      | some (nd, ps, own) => fnOk P k = true ∧ nd ∧ ∃ r, CallsP P k ps r ∧ (own = true → r.flat = true) ∧ K r.av .nop
      | none => False) ∨ (match tvsF s.ev args.toList with
      | some (nd, ts) => fnOk P k = true ∧ nd ∧ ((∃ r j cs cs', hget s.heap j = some cs ∧ j ∈ ts.flatMap TV.refs ∧ CallsT P k ts j cs r cs' ∧ K r (.set j cs')) ∨ ∃ r cs, CallsN P k ts cs r ∧ K (r nid) (.new cs))
      | none => False)
    | _ => False
  | _ => grndD P o s fun v => K v .nop
def callDG (P : Program) (b : Bool) (o : Oper) (s : AS) (K : AV → Prop) : Prop :=
  match o.op with
  | .call ⟨.value f, args, _⟩ => match calleeF (s.ev f) with
    | .pure k => match argsF s.ev (hget s.heap) args.toList with
      | some (nd, ps, own) => fnOk P k = true ∧ (b = true → nd) ∧ ∃ r, (b = true → CallsP P k ps r) ∧ (own = true → r.flat = true) ∧ K (r.av.mbOf b)
      | none => False
    | _ => False
  | _ => (b = true → grndD P o s K) ∧ (b = false → K .any)
/-- A drawn region, in the text's order, with what each operation touches. -/
def arunD (P : Program) (gs : List (Option Nat)) (n0 : Nat) : Nat → List Oper → AS → Lg → (Lg → AS → Prop) → Prop
  | _, [], s, lg, K => K lg.reverse s
  | i, o :: os, s, lg, K => dstOk s o.dst ∧ match o.guard with
    | none => match opF P (n0 + i) s.ev (hget s.heap) o with
      | some (nd, v, ef) => nd ∧ ef.noApp ∧ arunD P gs n0 (i + 1) os (s.ent o.dst (n0 + i) v ef) ((ef.tgt (n0 + i), ftF s o) :: lg) K
      | none => callD P (n0 + i) o s fun v ef => arunD P gs n0 (i + 1) os (s.ent o.dst (n0 + i) v ef) ((ef.tgt (n0 + i), ftF s o) :: lg) K
    | some (j, want) => match gB gs s j want with
      | some b => match opF P (n0 + i) s.ev (hget s.heap) o with
        | some (nd, v, .nop) => (b = true → nd) ∧ arunD P gs n0 (i + 1) os (s.put o.dst (v.mbOf b)) ((none, ftF s o) :: lg) K
        | some (nd, v, ef) => (b = true → nd ∧ ef.noApp ∧ arunD P gs n0 (i + 1) os (s.ent o.dst (n0 + i) v ef) ((ef.tgt (n0 + i), ftF s o) :: lg) K) ∧ (b = false → arunD P gs n0 (i + 1) os (s.put o.dst .any) ((none, ftF s o) :: lg) K)
        | none => callDG P b o s fun v => arunD P gs n0 (i + 1) os (s.put o.dst v) ((none, ftF s o) :: lg) K
      | none => False
theorem callD_spec {P : Program} {o : Oper} {s : AS} {K : AV → Eff → Prop} {nid : Nat} (h : callD P nid o s K) : ∃ v ef, OpD P nid o s v ef ∧ K v ef := by
  unfold callD at h
  split at h
  · rename_i f args tys ho
    split at h
    · rename_i k hk
      rcases h with h | h <;> split at h
      · rename_i nd ps own ha
        obtain ⟨h1, h2, r, h3, h4, h5⟩ := h
        exact ⟨_, _, .call f args tys k nd ps own r ho hk ha h1 h2 h3 h4, h5⟩
      · exact h.elim
      · rename_i nd ts ha
        obtain ⟨h1, h2, ⟨r, j, cs, cs', h3, h4, h5, h6⟩ | ⟨r, cs, h5, h6⟩⟩ := h
        rotate_left
        · exact ⟨_, _, .fresh f args tys k nd ts r cs ho hk ha h1 h2 h5, h6⟩
        exact ⟨_, _, .turn f args tys k nd ts r j cs cs' ho hk ha h1 h2 h5 h3 h4, h6⟩
      · exact h.elim
    · exact h.elim
  · obtain ⟨h1, h2, u, h3, h4⟩ := h
    exact ⟨_, _, .g u h1 h2 h3, h4⟩
theorem grndD_spec {P : Program} {o : Oper} {s : AS} {K : AV → Prop} (h : grndD P o s K) (nid : Nat) : ∃ v, OpD P nid o s v .nop ∧ K v := by
  obtain ⟨h1, h2, u, h3, h4⟩ := h
  exact ⟨_, .g u h1 h2 h3, h4⟩
theorem callDG_spec {P : Program} {b : Bool} {o : Oper} {s : AS} {K : AV → Prop} (h : callDG P b o s K) (nid : Nat) : ∃ v, ((b = true ∧ ∃ v0, OpD P nid o s v0 .nop ∧ (v = v0 ∨ v = v0.mbOf true)) ∨ (b = false ∧ ∃ x, v = .any ∨ v = AV.mbOf false x)) ∧ K v := by
  unfold callDG at h
  split at h
  · rename_i f args tys ho
    split at h
    · rename_i k hk
      split at h
      · rename_i nd ps own ha
        obtain ⟨h1, h2, r, h3, h4, h5⟩ := h
        refine ⟨_, ?_, h5⟩
        cases b with
        | true => exact Or.inl ⟨rfl, _, .call f args tys k nd ps own r ho hk ha h1 (h2 rfl) (h3 rfl) h4, Or.inr rfl⟩
        | false => exact Or.inr ⟨rfl, r.av, Or.inr rfl⟩
      · exact h.elim
    · exact h.elim
  · cases b with
    | true =>
      obtain ⟨v, h1, h2⟩ := grndD_spec (h.1 rfl) nid
      exact ⟨v, Or.inl ⟨rfl, v, h1, Or.inl rfl⟩, h2⟩
    | false => exact ⟨.any, Or.inr ⟨rfl, .any, Or.inl rfl⟩, h.2 rfl⟩
theorem ent_nop (s : AS) (d : Option Nat) (n : Nat) (v : AV) : s.ent d n v .nop = s.put d v := rfl
theorem arunD_trace {P : Program} {gs : List (Option Nat)} {n0 : Nat} : ∀ (os : List Oper) (i : Nat) (s : AS) (lg : Lg) (K : Lg → AS → Prop), arunD P gs n0 i os s lg K → ∃ log s', Trace P gs n0 i os s log s' ∧ K (lg.reverse ++ projL n0 i log) s'
  | [], i, s, lg, K, h => ⟨[], s, .nil i s, by simp only [projL, List.append_nil]; exact h⟩
  | o :: os, i, s, lg, K, h => by
    obtain ⟨hd, h⟩ := h
    have go : ∀ v ef, RunD P gs (n0 + i) o s v ef → arunD P gs n0 (i + 1) os (s.ent o.dst (n0 + i) v ef) ((ef.tgt (n0 + i), ftF s o) :: lg) K → ∃ log s', Trace P gs n0 i (o :: os) s log s' ∧ K (lg.reverse ++ projL n0 i log) s' := fun v ef hr hk => by
      obtain ⟨log, s', ht, hk'⟩ := arunD_trace os (i + 1) _ _ K hk
      refine ⟨_, s', .cons i o os s s' v ef log hd hr ht, ?_⟩
      simpa [projL] using hk'
    split at h
    · rename_i hg
      have hR : ∀ v ef, OpD P (n0 + i) o s v ef → RunD P gs (n0 + i) o s v ef := fun v ef h => by unfold RunD; rw [hg]; exact h
      split at h
      · rename_i nd v ef hop
        exact go v ef (hR v ef (.f nd v ef hop h.1 h.2.1)) h.2.2
      · obtain ⟨v, ef, h1, h2⟩ := callD_spec h
        exact go v ef (hR _ _ h1) h2
    · rename_i j want hg
      split at h
      · rename_i b hb
        have hR : ∀ v ef, ((b = true ∧ ∃ v0, OpD P (n0 + i) o s v0 ef ∧ (v = v0 ∨ v = v0.mbOf true)) ∨ (b = false ∧ ef = .nop ∧ ∃ x, v = .any ∨ v = AV.mbOf false x)) → RunD P gs (n0 + i) o s v ef := fun v ef h => by
          unfold RunD; rw [hg]; exact ⟨b, hb, h⟩
        split at h
        · rename_i nd v hop
          refine go (v.mbOf b) .nop (hR _ _ ?_) h.2
          cases b with
          | true => exact Or.inl ⟨rfl, v, .f nd v .nop hop (h.1 rfl) trivial, Or.inr rfl⟩
          | false => exact Or.inr ⟨rfl, rfl, v, Or.inr rfl⟩
        · rename_i nd v ef _ hop
          cases b with
          | true =>
            obtain ⟨h1, h2, h3⟩ := h.1 rfl
            exact go v ef (hR _ _ (Or.inl ⟨rfl, v, .f nd v ef hop h1 h2, Or.inl rfl⟩)) h3
          | false => exact go .any .nop (hR _ _ (Or.inr ⟨rfl, rfl, .any, Or.inl rfl⟩)) (h.2 rfl)
        · obtain ⟨v, h1, h2⟩ := callDG_spec h (n0 + i)
          refine go v .nop (hR _ _ ?_) h2
          rcases h1 with h1 | ⟨hb', x, hx⟩
          · exact Or.inl h1
          · exact Or.inr ⟨hb', rfl, x, hx⟩
      · exact h.elim
theorem AW_regionDn {P : Program} {s : AS} {Q : Exit → AS → Prop} {id : Nat} {ops : Array Oper} (n0 : Nat) (hn0 : ∀ i, i < ops.size → hget s.heap (n0 + i) = none) (hm : P.follows .mixedOrders = true) (hback : backB .any ops = true) (hd : noDefer ops = true)
    (h : arunD P (ops.toList.map (·.dst)) n0 0 ops.toList s [] fun lg s' => chkR ops n0 lg = true ∧ Q .normal s') : AW P (.region id ops true) s Q := fun w0 Z0 a w n R => by
  obtain ⟨log, s', ht, hc, hq⟩ := arunD_trace _ _ _ _ _ h
  exact trace_region n0 hn0 hm hback ht (chkD_of (by simpa using hc)) R (fun a' w' R' => ⟨s', R', hq⟩) hd
theorem AW_regionD {P : Program} {s : AS} {Q : Exit → AS → Prop} {id : Nat} {ops : Array Oper} (hm : P.follows .mixedOrders = true) (hback : backB .any ops = true) (hd : noDefer ops = true)
    (h : arunD P (ops.toList.map (·.dst)) s.heap.length 0 ops.toList s [] fun lg s' => chkR ops s.heap.length lg = true ∧ Q .normal s') : AW P (.region id ops true) s Q :=
  AW_regionDn s.heap.length (fun _ _ => hget_ge _ _ (by omega)) hm hback hd h

/-- A call, with what follows it as data. -/
def callK (P : Program) (gs : List (Option Nat)) (o : Oper) (os : List Oper) (s : AS) (K : AS → Prop) : Prop := callF P o s fun s' => arun P gs os s' K
def callGK (P : Program) (gs : List (Option Nat)) (b : Bool) (o : Oper) (os : List Oper) (s : AS) (K : AS → Prop) : Prop := callG P b o s fun s' => arun P gs os s' K
def callDK (P : Program) (gs : List (Option Nat)) (n0 i : Nat) (o : Oper) (os : List Oper) (s : AS) (lg : Lg) (K : Lg → AS → Prop) : Prop := callD P (n0 + i) o s fun v ef => arunD P gs n0 (i + 1) os (s.ent o.dst (n0 + i) v ef) ((ef.tgt (n0 + i), ftF s o) :: lg) K
def callDGK (P : Program) (gs : List (Option Nat)) (n0 i : Nat) (b : Bool) (o : Oper) (os : List Oper) (s : AS) (lg : Lg) (K : Lg → AS → Prop) : Prop := callDG P b o s fun v => arunD P gs n0 (i + 1) os (s.put o.dst v) ((none, ftF s o) :: lg) K
section
variable {P : Program} {gs : List (Option Nat)} {n0 i : Nat} {d : Option Tmp} {op : Op} {ty : TypeId} {pos : String} {aft : Array Edge} {os : List Oper} {s : AS} {lg : Lg} {K : AS → Prop} {K' : Lg → AS → Prop} {b : Bool}
def plainF (P : Program) (gs : List (Option Nat)) (o : Oper) (os : List Oper) (s : AS) (K : AS → Prop) : Option (Prop × AV × Eff) → Prop
  | some (nd, v, ef) => nd ∧ arun P gs os ((s.eff (nidF s.heap) ef).put o.dst v) K
  | none => callK P gs o os s K
def guardF (P : Program) (gs : List (Option Nat)) (b : Bool) (o : Oper) (os : List Oper) (s : AS) (K : AS → Prop) : Option (Prop × AV × Eff) → Prop
  | some (nd, v, .nop) => (b = true → nd) ∧ arun P gs os (s.put o.dst (v.mbOf b)) K
  | some (nd, v, ef) => (b = true → nd ∧ arun P gs os ((s.eff (nidF s.heap) ef).put o.dst v) K) ∧ (b = false → arun P gs os (s.put o.dst .any) K)
  | none => callGK P gs b o os s K
def guardB (P : Program) (gs : List (Option Nat)) (o : Oper) (os : List Oper) (s : AS) (K : AS → Prop) : Option Bool → Prop
  | some b => guardF P gs b o os s K (opF P (nidF s.heap) s.ev (hget s.heap) o)
  | none => False
theorem arun_nil : arun P gs [] s K = K s := rfl
theorem arun_plain : arun P gs (⟨d, op, ty, pos, aft, none⟩ :: os) s K = (dstOk s d ∧ plainF P gs ⟨d, op, ty, pos, aft, none⟩ os s K (opF P (nidF s.heap) s.ev (hget s.heap) ⟨d, op, ty, pos, aft, none⟩)) := by
  simp only [arun]
  congr 1
theorem arun_guard {j : Nat} {want : Bool} : arun P gs (⟨d, op, ty, pos, aft, some (j, want)⟩ :: os) s K = (dstOk s d ∧ guardB P gs ⟨d, op, ty, pos, aft, some (j, want)⟩ os s K (gB gs s j want)) := by
  simp only [arun]
  congr 1
def plainDF (P : Program) (gs : List (Option Nat)) (n0 i : Nat) (o : Oper) (os : List Oper) (s : AS) (lg : Lg) (K : Lg → AS → Prop) : Option (Prop × AV × Eff) → Prop
  | some (nd, v, ef) => nd ∧ ef.noApp ∧ arunD P gs n0 (i + 1) os (s.ent o.dst (n0 + i) v ef) ((ef.tgt (n0 + i), ftF s o) :: lg) K
  | none => callDK P gs n0 i o os s lg K
def guardDF (P : Program) (gs : List (Option Nat)) (n0 i : Nat) (b : Bool) (o : Oper) (os : List Oper) (s : AS) (lg : Lg) (K : Lg → AS → Prop) : Option (Prop × AV × Eff) → Prop
  | some (nd, v, .nop) => (b = true → nd) ∧ arunD P gs n0 (i + 1) os (s.put o.dst (v.mbOf b)) ((none, ftF s o) :: lg) K
  | some (nd, v, ef) => (b = true → nd ∧ ef.noApp ∧ arunD P gs n0 (i + 1) os (s.ent o.dst (n0 + i) v ef) ((ef.tgt (n0 + i), ftF s o) :: lg) K) ∧ (b = false → arunD P gs n0 (i + 1) os (s.put o.dst .any) ((none, ftF s o) :: lg) K)
  | none => callDGK P gs n0 i b o os s lg K
def guardDB (P : Program) (gs : List (Option Nat)) (n0 i : Nat) (o : Oper) (os : List Oper) (s : AS) (lg : Lg) (K : Lg → AS → Prop) : Option Bool → Prop
  | some b => guardDF P gs n0 i b o os s lg K (opF P (n0 + i) s.ev (hget s.heap) o)
  | none => False
theorem arunD_nil : arunD P gs n0 i [] s lg K' = K' lg.reverse s := rfl
theorem arunD_plain : arunD P gs n0 i (⟨d, op, ty, pos, aft, none⟩ :: os) s lg K' = (dstOk s d ∧ plainDF P gs n0 i ⟨d, op, ty, pos, aft, none⟩ os s lg K' (opF P (n0 + i) s.ev (hget s.heap) ⟨d, op, ty, pos, aft, none⟩)) := by
  simp only [arunD]
  congr 1
theorem arunD_guard {j : Nat} {want : Bool} : arunD P gs n0 i (⟨d, op, ty, pos, aft, some (j, want)⟩ :: os) s lg K' = (dstOk s d ∧ guardDB P gs n0 i ⟨d, op, ty, pos, aft, some (j, want)⟩ os s lg K' (gB gs s j want)) := by
  simp only [arunD]
  congr 1
end
section
variable {P : Program} {gs : List (Option Nat)} {n0 i : Nat} {d : Option Tmp} {f : Operand} {args : Array Operand} {tys : Array TypeId} {ty : TypeId} {pos : String} {aft : Array Edge} {g : Option (Nat × Bool)} {os : List Oper} {s : AS} {lg : Lg} {K : AS → Prop} {K' : Lg → AS → Prop} {b : Bool} {k : FuncId} {nd : Prop} {ps : List PT} {own : Bool} {r : PV}
/-- A call by value in the walk. -/
theorem callK_p (h1 : calleeF (s.ev f) = .pure k) (h2 : argsF s.ev (hget s.heap) args.toList = some (nd, ps, own)) (h3 : fnOk P k = true) (h4 : nd) (h5 : CallsP P k ps r) (h6 : own = true → r.flat = true) (h7 : arun P gs os (s.put d r.av) K) : callK P gs ⟨d, .call ⟨.value f, args, tys⟩, ty, pos, aft, g⟩ os s K := by
  refine Or.inl ?_
  unfold callF0
  simp only [h1, h2]
  exact Or.inl ⟨h3, h4, r, h5, h6, h7⟩
theorem callGK_p (h1 : calleeF (s.ev f) = .pure k) (h2 : argsF s.ev (hget s.heap) args.toList = some (nd, ps, own)) (h3 : fnOk P k = true) (h4 : b = true → nd) (h5 : b = true → CallsP P k ps r) (h6 : own = true → r.flat = true) (h7 : arun P gs os (s.put d (r.av.mbOf b)) K) : callGK P gs b ⟨d, .call ⟨.value f, args, tys⟩, ty, pos, aft, g⟩ os s K := by
  refine Or.inl ?_
  unfold callG0
  simp only [h1, h2]
  exact ⟨h3, h4, r, h5, h6, h7⟩
theorem callDK_p (h1 : calleeF (s.ev f) = .pure k) (h2 : argsF s.ev (hget s.heap) args.toList = some (nd, ps, own)) (h3 : fnOk P k = true) (h4 : nd) (h5 : CallsP P k ps r) (h6 : own = true → r.flat = true) (h7 : arunD P gs n0 (i + 1) os (s.put d r.av) ((none, ftF s ⟨d, .call ⟨.value f, args, tys⟩, ty, pos, aft, g⟩) :: lg) K') : callDK P gs n0 i ⟨d, .call ⟨.value f, args, tys⟩, ty, pos, aft, g⟩ os s lg K' := by
  unfold callDK callD
  simp only [h1, h2]
  exact Or.inl ⟨h3, h4, r, h5, h6, h7⟩
theorem callDGK_p (h1 : calleeF (s.ev f) = .pure k) (h2 : argsF s.ev (hget s.heap) args.toList = some (nd, ps, own)) (h3 : fnOk P k = true) (h4 : b = true → nd) (h5 : b = true → CallsP P k ps r) (h6 : own = true → r.flat = true) (h7 : arunD P gs n0 (i + 1) os (s.put d (r.av.mbOf b)) ((none, ftF s ⟨d, .call ⟨.value f, args, tys⟩, ty, pos, aft, g⟩) :: lg) K') : callDGK P gs n0 i b ⟨d, .call ⟨.value f, args, tys⟩, ty, pos, aft, g⟩ os s lg K' := by
  unfold callDGK callDG
  simp only [h1, h2]
  exact ⟨h3, h4, r, h5, h6, h7⟩
end
theorem seaWrap {n : Int} (h1 : -9223372036854775808 ≤ n) (h2 : n ≤ 9223372036854775807) : IntKind.i64.wrap n = n := by
  unfold IntKind.wrap IntKind.signed IntKind.bits
  simp only
  split <;> simp_all <;> omega
theorem seaDiv {a b : Int} (h : 0 ≤ a) : a.tdiv b = a / b := Int.tdiv_eq_ediv_of_nonneg h
theorem seaMod {a b : Int} (h : 0 ≤ a) : a.tmod b = a % b := Int.tmod_eq_emod_of_nonneg h
end Go.Sea
