/- The law of a drawn region. -/
import Derived.Test.YtifoncmlelinjaaSeaM
set_option linter.unusedVariables false
set_option linter.unusedSimpArgs false
namespace Go.Sea
open Go.RowKit

/-- k comes before i in each order. -/
inductive Anc (ops : Array Oper) : Nat → Nat → Prop
  | one (k i : Nat) (o : Oper) (e : Edge) (h : ops[i]? = some o) (he : e ∈ o.after.toList) (hb : Region.binds .any e = true) (hk : e.on = k) : Anc ops k i
  | more (k j i : Nat) (o : Oper) (e : Edge) (h : ops[i]? = some o) (he : e ∈ o.after.toList) (hb : Region.binds .any e = true) (hk : e.on = j) (ha : Anc ops k j) : Anc ops k i
def maskOf (acc : List Nat) (o : Oper) : Nat := o.after.toList.foldl (fun s e => if Region.binds .any e then s ||| 2 ^ e.on ||| acc.getD e.on 0 else s) 0
def masks : List Nat → List Oper → List Nat
  | acc, [] => acc
  | acc, o :: os => masks (acc ++ [maskOf acc o]) os
theorem maskOf_spec {ops : Array Oper} {acc : List Nat} {i : Nat} {o : Oper} (hacc : ∀ i k, (acc.getD i 0).testBit k = true → Anc ops k i) (ho : ops[i]? = some o) : ∀ k, (maskOf acc o).testBit k = true → Anc ops k i := by
  have key : ∀ (l : List Edge), (∀ e, e ∈ l → e ∈ o.after.toList) → ∀ s : Nat, (∀ k, s.testBit k = true → Anc ops k i) → ∀ k, (l.foldl (fun s e => if Region.binds .any e then s ||| 2 ^ e.on ||| acc.getD e.on 0 else s) s).testBit k = true → Anc ops k i := by
    intro l
    induction l with
    | nil => intro _ s hs k hk; exact hs k hk
    | cons e l ih =>
      intro hl s hs k hk
      rw [List.foldl_cons] at hk
      refine ih (fun x hx => hl x (by simp [hx])) _ (fun q hq => ?_) k hk
      by_cases hb : Region.binds .any e = true
      · rw [if_pos hb, Nat.testBit_or, Nat.testBit_or, Bool.or_eq_true, Bool.or_eq_true] at hq
        rcases hq with (hq | hq) | hq
        · exact hs q hq
        · rw [Nat.testBit_two_pow] at hq
          exact Anc.one q i o e ho (hl e (by simp)) hb (by simpa using hq)
        · exact Anc.more q e.on i o e ho (hl e (by simp)) hb rfl (hacc _ _ hq)
      · rw [if_neg hb] at hq; exact hs q hq
  exact fun k hk => key o.after.toList (fun _ h => h) 0 (fun k hk => by simp at hk) k hk
theorem masks_spec {ops : Array Oper} : ∀ (os : List Oper) (acc : List Nat), (∀ i k, (acc.getD i 0).testBit k = true → Anc ops k i) → ops.toList.drop acc.length = os → ∀ i k, ((masks acc os).getD i 0).testBit k = true → Anc ops k i
  | [], _, h, _ => h
  | o :: os, acc, h, hd => by
    have ho : ops[acc.length]? = some o := by
      have : (ops.toList.drop acc.length)[0]? = some o := by rw [hd]; rfl
      rw [List.getElem?_drop] at this
      simpa using this
    refine masks_spec os _ (fun i k hk => ?_) ?_
    · by_cases hi : i < acc.length
      · rw [show (acc ++ [maskOf acc o]).getD i 0 = acc.getD i 0 by simp [List.getD, List.getElem?_append_left hi]] at hk; exact h i k hk
      · by_cases he : i = acc.length
        · subst he
          simp [List.getD] at hk
          exact maskOf_spec h ho k hk
        · have : (acc ++ [maskOf acc o]).getD i 0 = 0 := by simp [List.getD, List.getElem?_eq_none (show (acc ++ [maskOf acc o]).length ≤ i by simp; omega)]
          rw [this] at hk; simp at hk
    · have := congrArg (List.drop 1) hd
      rw [List.drop_drop] at this
      simpa [Nat.add_comm] using this
theorem Anc.done {ops : Array Oper} {D : Nat → Bool} (hD : Closed .any ops D) {k i : Nat} (h : Anc ops k i) : ∀ o, ops[i]? = some o → (o.after.toList.all fun e => !Region.binds .any e || D e.on) = true → D k = true := by
  induction h with
  | one i o e h he hb hk =>
    intro o' ho' hp
    rw [h] at ho'; cases ho'
    have := List.all_eq_true.1 hp e he
    rw [hb] at this
    subst hk
    simpa using this
  | more j i o e h he hb hk ha ih =>
    intro o' ho' hp
    rw [h] at ho'; cases ho'
    have := List.all_eq_true.1 hp e he
    rw [hb, hk] at this
    have hj : D j = true := by simpa using this
    cases ho2 : ops[j]? with
    | none => cases ha <;> simp_all
    | some o2 => exact ih o2 ho2 (hD j o2 ho2 hj)

abbrev Log := List (Option Nat × Ent)
def tgtIn (t : Option Nat) (l : List Nat) : Bool := match t with
  | some i => l.contains i
  | none => false
/-- Two operations that stand in no order do not touch each other. -/
def indep (ops : Array Oper) (n0 k i : Nat) (ok oi : Oper) (ek ei : Ent) : Bool :=
  ok.apart ops oi && !(tgtIn (ek.ef.tgt (n0 + k)) ei.ft) && !(tgtIn (ei.ef.tgt (n0 + i)) ek.ft) && !(ek.ef.tgt (n0 + k) == some (n0 + i)) && !(ei.ef.tgt (n0 + i) == some (n0 + k)) &&
  (match ek.ef.tgt (n0 + k) with | some q => !(ei.ef.tgt (n0 + i) == some q) | none => true)
def chkD (ops : Array Oper) (n0 : Nat) (log : Log) : Bool :=
  let T := masks [] ops.toList
  (List.range ops.size).all fun i => (List.range i).all fun k => match ops[k]?, ops[i]?, log[k]?, log[i]? with
    | some ok, some oi, some ek, some ei => !(ek.2.ef.tgt (n0 + k) == some (n0 + i)) && ((T.getD i 0).testBit k || indep ops n0 k i ok oi ek.2 ei.2)
    | _, _, _, _ => false
theorem chkD_spec {ops : Array Oper} {n0 : Nat} {log : Log} (h : chkD ops n0 log = true) {k i : Nat} (hki : k < i) {ok oi : Oper} {ek ei : Option Nat × Ent} (h1 : ops[k]? = some ok) (h2 : ops[i]? = some oi) (h3 : log[k]? = some ek) (h4 : log[i]? = some ei) :
    ek.2.ef.tgt (n0 + k) ≠ some (n0 + i) ∧ (Anc ops k i ∨ indep ops n0 k i ok oi ek.2 ei.2 = true) := by
  have hi : i < ops.size := (Array.getElem?_eq_some_iff.1 h2).1
  have := List.all_eq_true.1 (List.all_eq_true.1 h i (List.mem_range.2 hi)) k (List.mem_range.2 hki)
  simp only [h1, h2, h3, h4, Bool.and_eq_true, Bool.or_eq_true, Bool.not_eq_true', beq_eq_false_iff_ne] at this
  refine ⟨this.1, ?_⟩
  rcases this.2 with h | h
  · exact Or.inl (masks_spec (ops := ops) ops.toList [] (fun i k hk => by simp at hk) (by simp) i k h)
  · exact Or.inr h

/-- What the text's order has done, step by step. -/
inductive Trace (P : Program) (gs : List (Option Nat)) (n0 : Nat) : Nat → List Oper → AS → Log → AS → Prop
  | nil (i : Nat) (s : AS) : Trace P gs n0 i [] s [] s
  | cons (i : Nat) (o : Oper) (os : List Oper) (s s' : AS) (v : AV) (ef : Eff) (log : Log) (hd : dstOk s o.dst) (h : RunD P gs (n0 + i) o s v ef) (ht : Trace P gs n0 (i + 1) os (s.ent o.dst (n0 + i) v ef) log s') :
      Trace P gs n0 i (o :: os) s ((o.dst, ⟨v, ef, ftF s o⟩) :: log) s'
section
variable {P : Program} {gs : List (Option Nat)} {n0 : Nat}
theorem Trace.noApp {i : Nat} {os : List Oper} {s s' : AS} {log : Log} (h : Trace P gs n0 i os s log s') : ∀ e, e ∈ log → e.2.ef.noApp := by
  induction h with
  | nil => intro e he; cases he
  | cons i o os s s' v ef log hd h _ ih =>
    intro e he
    rcases List.mem_cons.1 he with rfl | he
    · exact h.noApp
    · exact ih e he
theorem Trace.fold {i : Nat} {os : List Oper} {s s' : AS} {log : Log} (h : Trace P gs n0 i os s log s') (D : Nat → Bool) (hD : ∀ k, i ≤ k → k < i + os.length → D k = true) : foldP n0 D i log s = s' := by
  induction h with
  | nil => rfl
  | cons i o os s s' v ef log hd h _ ih =>
    simp only [foldP]
    rw [hD i (Nat.le_refl _) (by simp)]
    exact ih fun k h1 h2 => hD k (by omega) (by simp at h2 ⊢; omega)
theorem Trace.at {i : Nat} {os : List Oper} {s s' : AS} {log : Log} (h : Trace P gs n0 i os s log s') : ∀ (k : Nat) o, os[k]? = some o → ∃ v ef, log[k]? = some (o.dst, ⟨v, ef, ftF (foldP n0 (fun q => decide (q < i + k)) i log s) o⟩) ∧
    dstOk (foldP n0 (fun q => decide (q < i + k)) i log s) o.dst ∧ RunD P gs (n0 + (i + k)) o (foldP n0 (fun q => decide (q < i + k)) i log s) v ef := by
  have none_ : ∀ (log : Log) (j : Nat) (b : Nat) (s : AS), b ≤ j → foldP n0 (fun q => decide (q < b)) j log s = s := by
    intro log
    induction log with
    | nil => intros; rfl
    | cons e es ih =>
      intro j b s hb
      simp only [foldP]
      rw [show decide (j < b) = false by simp; omega]
      exact ih (j + 1) b s (by omega)
  induction h with
  | nil => intro k o hk; simp at hk
  | cons i o os s s' v ef log hd h _ ih =>
    intro k o' hk
    cases k with
    | zero =>
      simp at hk
      subst hk
      rw [Nat.add_zero, none_ _ i i s (Nat.le_refl _)]
      exact ⟨v, ef, rfl, hd, h⟩
    | succ k =>
      obtain ⟨v', ef', h1, h2, h3⟩ := ih k o' (by simpa using hk)
      have e : foldP n0 (fun q => decide (q < i + (k + 1))) i ((o.dst, ⟨v, ef, ftF s o⟩) :: log) s = foldP n0 (fun q => decide (q < i + 1 + k)) (i + 1) log (s.ent o.dst (n0 + i) v ef) := by
        simp only [foldP]
        rw [show decide (i < i + (k + 1)) = true by simp]
        rw [show i + (k + 1) = i + 1 + k by omega]
        rfl
      rw [e, show n0 + (i + (k + 1)) = n0 + (i + 1 + k) by omega]
      exact ⟨v', ef', by simpa using h1, h2, h3⟩
end

theorem Steps.of {P : Program} {md : Region.Mode} {ops : Array Oper} {Q : Exit → Act → World → Prop} {Inv : (Nat → Bool) → Act → World → Prop} : ∀ (os : List Oper) (i : Nat),
    (∀ (k : Nat) o, os[k]? = some o → ∀ L a w, Inv L a w → L (i + k) = false → (o.after.toList.all fun e => !Region.binds md e || L e.on) = true → Closed md ops L →
      ∀ K : Act → World → Prop, (∀ a' w', Inv (upd L (i + k)) a' w' → K a' w') → if Region.wanted o (yielded ops a.tmps) = true then Oper.wp P o a w K Q else K (a.put o.dst undef) w) → Steps P md ops Q Inv i os
  | [], _, _ => trivial
  | o :: os, i, h => ⟨h 0 o rfl, Steps.of os (i + 1) fun k o' hk => by
      have := h (k + 1) o' (by simpa using hk)
      rw [show i + (k + 1) = i + 1 + k by omega] at this
      exact this⟩

theorem apart_dst {ops : Array Oper} {x y : Oper} (h : x.apart ops y = true) : (∀ d, x.dst = some d → d ∉ y.looksAt ops ∧ y.dst ≠ some d) ∧ (∀ d, y.dst = some d → d ∉ x.looksAt ops ∧ x.dst ≠ some d) := by
  obtain ⟨h1, h2, h3⟩ := Oper.apart_spec h
  exact ⟨fun d hd => ⟨h1 d hd, h2 d hd⟩, fun d hd => ⟨h3 d hd, fun hx => h2 d hx hd⟩⟩

theorem Trace.ops {P : Program} {gs : List (Option Nat)} {n0 i : Nat} {os : List Oper} {s s' : AS} {log : Log} (h : Trace P gs n0 i os s log s') : ∀ (k : Nat) e, log[k]? = some e → ∃ ok, os[k]? = some ok ∧ e.1 = ok.dst := by
  induction h with
  | nil => intro k e he; simp at he
  | cons i o os s s' v ef log hd h _ ih =>
    intro k e he
    cases k with
    | zero => simp at he; subst he; exact ⟨o, rfl, rfl⟩
    | succ k => simpa using ih k e (by simpa using he)
theorem foldP_N {n0 : Nat} {D : Nat → Bool} : ∀ (es : Log) (i : Nat) (s : AS), (foldP n0 D i es s).N = s.N
  | [], _, _ => rfl
  | e :: es, i, s => by
    simp only [foldP]
    rw [foldP_N es (i + 1)]
    cases D i <;> simp [ent_N]
theorem foldP_none {n0 : Nat} : ∀ (log : Log) (j : Nat) (s : AS), foldP n0 (fun _ => false) j log s = s
  | [], _, _ => rfl
  | e :: es, j, s => foldP_none es (j + 1) s
theorem RunD.loc {P : Program} {ops : Array Oper} {nid : Nat} {o : Oper} {s s' : AS} {v : AV} {ef : Eff} (h : RunD P (ops.toList.map (·.dst)) nid o s v ef) (h1 : ∀ t, t ∈ o.looksAt ops → s'.get t = s.get t) (h2 : ∀ j, j ∈ ftF s o → hget s'.heap j = hget s.heap j) : RunD P (ops.toList.map (·.dst)) nid o s' v ef := by
  have hev : ∀ x, x ∈ o.op.operands.toList → s'.ev x = s.ev x := fun x hx => by
    cases x with
    | tmp t => exact h1 t (by simp only [Oper.looksAt, List.mem_append, List.mem_filterMap]; exact Or.inl ⟨_, hx, rfl⟩)
    | _ => rfl
  unfold RunD at h ⊢
  split
  · rename_i hg
    simp only [hg] at h
    exact h.loc hev h2
  · rename_i j want hg
    simp only [hg] at h
    obtain ⟨b, hb, h⟩ := h
    refine ⟨b, ?_, ?_⟩
    · rw [← hb]
      unfold gB
      rw [List.getElem?_map, Array.getElem?_toList]
      cases hj : (ops[j]?).bind (·.dst) with
      | none =>
        have : (Option.map (fun x => x.dst) ops[j]?).getD none = none := by
          cases ho : ops[j]? with
          | none => rfl
          | some y => rw [ho] at hj; simpa using hj
        rw [this]
      | some t =>
        have : (Option.map (fun x => x.dst) ops[j]?).getD none = some t := by
          cases ho : ops[j]? with
          | none => rw [ho] at hj; cases hj
          | some y => rw [ho] at hj; simpa using hj
        rw [this]
        simp only
        rw [h1 t (by simp only [Oper.looksAt, hg, List.mem_append]; exact Or.inr (by rw [hj]; simp))]
    · rcases h with ⟨hb, v0, h, hv⟩ | h
      · exact Or.inl ⟨hb, v0, h.loc hev h2, hv⟩
      · exact Or.inr h

theorem trace_region {P : Program} {id : Nat} {ops : Array Oper} {s s' : AS} {log : Log} {w0 : World} {Z0 : Fr} {a : Act} {w : World} {Q : Exit → Act → World → Prop} (n0 : Nat) (hn0 : ∀ i, i < ops.size → hget s.heap (n0 + i) = none) (hm : P.follows .mixedOrders = true) (hback : backB .any ops = true)
    (ht : Trace P (ops.toList.map (·.dst)) n0 0 ops.toList s log s') (hc : chkD ops n0 log = true) (R : Rep w0 Z0 s a w) (hQ : ∀ a' w', Rep w0 Z0 s' a' w' → Q .normal a' w') (hd : noDefer ops = true) {n : Nat} : (Code.region id ops true).wpIn (fo Z0.ro) n P Q a w := by
  have hna := ht.noApp
  refine regionIn_by (free_fo _) (fun _ D a w => Rep w0 Z0 (foldP n0 D 0 log s) a w) hm hd hback ?_ ?_ fun D a w hD R' => ?_
  · rw [foldP_none]
    obtain ⟨J, Z, R⟩ := R
    exact ⟨J, Z, R.drew⟩
  · refine Steps.of ops.toList 0 fun i o ho D a w ⟨J, Z, R'⟩ hDi hpre hcl K hK => ?_
    rw [Nat.zero_add] at hDi
    have hoi : ops[i]? = some o := by rw [← Array.getElem?_toList]; exact ho
    obtain ⟨v, ef, hl, hd, hrun⟩ := ht.at i o ho
    simp only [Nat.zero_add] at hl hd hrun
    have hop : ∀ (k : Nat) e, log[k]? = some e → ∃ ok, ops[k]? = some ok ∧ e.1 = ok.dst := fun k e he => by
      obtain ⟨ok, h1, h2⟩ := ht.ops k e he
      exact ⟨ok, by rw [← Array.getElem?_toList]; exact h1, h2⟩
    have fore : ∀ (k : Nat) e ok, k < i → log[k]? = some e → ops[k]? = some ok → D k = true ∨ indep ops n0 k i ok o e.2 ⟨v, ef, ftF (foldP n0 (fun q => decide (q < i)) 0 log s) o⟩ = true := fun k e ok hk he hok => by
      rcases (chkD_spec hc hk hok hoi he hl).2 with h | h
      · exact Or.inl (h.done hcl o hoi hpre)
      · exact Or.inr h
    have back : ∀ (k : Nat) e ok, i < k → D k = true → log[k]? = some e → ops[k]? = some ok → indep ops n0 i k o ok ⟨v, ef, ftF (foldP n0 (fun q => decide (q < i)) 0 log s) o⟩ e.2 = true := fun k e ok hk hDk he hok => by
      rcases (chkD_spec hc hk hoi hok hl he).2 with h | h
      · have := h.done hcl ok hok (hcl k ok hok hDk)
        rw [hDi] at this; cases this
      · exact h
    have hget' : ∀ t, t ∈ o.looksAt ops → (foldP n0 D 0 log s).get t = (foldP n0 (fun q => decide (q < i)) 0 log s).get t := fun t ht' => by
      refine foldP_get log 0 s s hna rfl fun k e he hde => ?_
      rw [Nat.zero_add]
      obtain ⟨ok, hok, hdk⟩ := hop k e he
      rcases Nat.lt_trichotomy k i with hk | hk | hk
      · rw [decide_eq_true hk]
        rcases fore k e ok hk he hok with h | h
        · exact h.symm
        · exfalso
          simp only [indep, Bool.and_eq_true] at h
          exact ((apart_dst h.1.1.1.1.1).1 t (hdk ▸ hde)).1 ht'
      · subst hk; rw [hDi]; simp
      · rw [decide_eq_false (by omega)]
        cases hDk : D k with
        | false => rfl
        | true =>
          exfalso
          have h := back k e ok hk hDk he hok
          simp only [indep, Bool.and_eq_true] at h
          exact ((apart_dst h.1.1.1.1.1).2 t (hdk ▸ hde)).1 ht'
    have hblk' : ∀ j, j ∈ ftF (foldP n0 (fun q => decide (q < i)) 0 log s) o → hget (foldP n0 D 0 log s).heap j = hget (foldP n0 (fun q => decide (q < i)) 0 log s).heap j := fun j hj => by
      refine foldP_blk log 0 s s hna rfl fun k e he hde => ?_
      rw [Nat.zero_add] at hde ⊢
      obtain ⟨ok, hok, hdk⟩ := hop k e he
      rcases Nat.lt_trichotomy k i with hk | hk | hk
      · rw [decide_eq_true hk]
        rcases fore k e ok hk he hok with h | h
        · exact h.symm
        · exfalso
          simp only [indep, Bool.and_eq_true, hde, tgtIn, Bool.not_eq_true', List.contains_eq_mem, decide_eq_false_iff_not] at h
          exact h.1.1.1.1.2 hj
      · subst hk; rw [hDi]; simp
      · rw [decide_eq_false (by omega)]
        cases hDk : D k with
        | false => rfl
        | true =>
          exfalso
          have h := back k e ok hk hDk he hok
          simp only [indep, Bool.and_eq_true, hde, tgtIn, Bool.not_eq_true', List.contains_eq_mem, decide_eq_false_iff_not] at h
          exact h.1.1.1.2 hj
    have hhole : hget (foldP n0 D 0 log s).heap (n0 + i) = none := by
      have : hget (foldP n0 D 0 log s).heap (n0 + i) = hget (foldP n0 (fun _ => false) 0 log s).heap (n0 + i) := by
        refine foldP_blk log 0 s s hna rfl fun k e he hde => ?_
        rw [Nat.zero_add] at hde ⊢
        obtain ⟨ok, hok, hdk⟩ := hop k e he
        rcases Nat.lt_trichotomy k i with hk | hk | hk
        · exact absurd hde (chkD_spec hc hk hok hoi he hl).1
        · subst hk; exact hDi.symm
        · cases hDk : D k with
          | false => rfl
          | true =>
            exfalso
            have h := back k e ok hk hDk he hok
            simp only [indep, Bool.and_eq_true, hde, beq_self_eq_true, Bool.not_true] at h
            exact absurd h.1.2 (by simp)
      rw [this, foldP_none]
      exact hn0 i (Array.getElem?_eq_some_iff.1 hoi).1
    have hrun' := hrun.loc hget' hblk'
    have hd' : dstOk (foldP n0 D 0 log s) o.dst := by
      have e1 : (foldP n0 D 0 log s).N = s.N := foldP_N log 0 s
      have e2 : (foldP n0 (fun q => decide (q < i)) 0 log s).N = s.N := foldP_N log 0 s
      cases hod : o.dst with
      | none => trivial
      | some d =>
        rw [hod] at hd
        simp only [dstOk] at hd ⊢
        omega
    refine hrun'.step R' hhole hd' fun a' w' R'' => hK a' w' ?_
    rw [Nat.zero_add]
    obtain ⟨J1, Z1, R1⟩ := R''
    refine ⟨J1, Z1, R1.like (foldP_add log 0 s (o.dst, ⟨v, ef, _⟩) (by simpa using hl) (Nat.zero_le _) hDi hna fun k x hk hx hDk => ?_).symm⟩
    rw [Nat.sub_zero] at hx
    obtain ⟨ok, hok, hdk⟩ := hop k x hx
    have h := back k x ok hk hDk hx hok
    simp only [indep, Bool.and_eq_true] at h
    refine ⟨fun t ht' => ?_, fun q hq hq' => ?_⟩
    · rw [hdk]; exact ((apart_dst h.1.1.1.1.1).1 t ht').2
    · simp only at hq
      rw [hq, hq'] at h
      simp at h
  · exact hQ a w (by rw [← ht.fold D fun k _ hk => hD k (by simpa using hk)]; exact R')
end Go.Sea
