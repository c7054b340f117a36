/- SeaW: a drawn region with one operation behind all that stand before it and ahead of all that stand behind it: this one may extend an own block. -/
import Derived.Test.YtifoncmlelinjaaSeaO
set_option linter.unusedVariables false
set_option linter.unusedSimpArgs false
namespace Go.Sea
open Go.RowKit

def indepL (ops : Array Oper) (n0 k i : Nat) (ok oi : Oper) (ek ei : Option Nat × List Nat) : Bool :=
  ok.apart ops oi && !(tgtIn ek.1 ei.2) && !(tgtIn ei.1 ek.2) && !(ek.1 == some (n0 + i)) && !(ei.1 == some (n0 + k)) && (match ek.1 with | some q => !(ei.1 == some q) | none => true)
/-- The check of a part of a region, from operation j on. -/
def chkS (ops : Array Oper) (n0 j : Nat) (log : Lg) : Bool :=
  let T := masks [] ops.toList
  (List.range log.length).all fun i => (List.range i).all fun k => match ops[j + k]?, ops[j + i]?, log[k]?, log[i]? with
    | some ok, some oi, some ek, some ei => !(ek.1 == some (n0 + (j + i))) && ((T.getD (j + i) 0).testBit (j + k) || indepL ops n0 (j + k) (j + i) ok oi ek ei)
    | _, _, _, _ => false
/-- Operation b stands behind all before it and ahead of all behind it. -/
def barB (ops : Array Oper) (b : Nat) : Bool :=
  let T := masks [] ops.toList
  (List.range ops.size).all fun i => if i < b then (T.getD b 0).testBit i else if b < i then (T.getD i 0).testBit b else true
theorem masks_anc {ops : Array Oper} {k i : Nat} (h : ((masks [] ops.toList).getD i 0).testBit k = true) : Anc ops k i :=
  masks_spec (ops := ops) ops.toList [] (fun i k hk => by simp at hk) (by simp) i k h
theorem barB_spec {ops : Array Oper} {b : Nat} (h : barB ops b = true) : (∀ k, k < b → k < ops.size → Anc ops k b) ∧ ∀ i, b < i → i < ops.size → Anc ops b i := by
  have h' : ∀ i, i < ops.size → (if i < b then ((masks [] ops.toList).getD b 0).testBit i else if b < i then ((masks [] ops.toList).getD i 0).testBit b else true) = true := fun i hi => List.all_eq_true.1 h i (List.mem_range.2 hi)
  refine ⟨fun k hk hs => ?_, fun i hi hs => ?_⟩
  · have := h' k hs
    rw [if_pos hk] at this
    exact masks_anc this
  · have := h' i hs
    rw [if_neg (by omega), if_pos hi] at this
    exact masks_anc this
theorem projL_length (n0 : Nat) : ∀ (log : Log) (j : Nat), (projL n0 j log).length = log.length
  | [], _ => rfl
  | e :: es, j => by simp [projL, projL_length n0 es (j + 1)]
theorem chkS_spec {ops : Array Oper} {n0 j : Nat} {log : Log} (h : chkS ops n0 j (projL n0 j log) = true) {k i : Nat} (hki : k < i) {ok oi : Oper} {ek ei : Option Nat × Ent} (h1 : ops[j + k]? = some ok) (h2 : ops[j + i]? = some oi) (h3 : log[k]? = some ek) (h4 : log[i]? = some ei) :
    ek.2.ef.tgt (n0 + (j + k)) ≠ some (n0 + (j + i)) ∧ (Anc ops (j + k) (j + i) ∨ indep ops n0 (j + k) (j + i) ok oi ek.2 ei.2 = true) := by
  have hi : i < (projL n0 j log).length := by rw [projL_length]; exact (List.getElem?_eq_some_iff.1 h4).1
  have := List.all_eq_true.1 (List.all_eq_true.1 h i (List.mem_range.2 hi)) k (List.mem_range.2 hki)
  rw [projL_get, projL_get, h1, h2, h3, h4] at this
  simp only [Option.map_some, Bool.and_eq_true, Bool.or_eq_true, Bool.not_eq_true', beq_eq_false_iff_ne] at this
  refine ⟨this.1, ?_⟩
  rcases this.2 with h | h
  · exact Or.inl (masks_anc h)
  · exact Or.inr h
theorem foldP_false {n0 : Nat} {D : Nat → Bool} : ∀ (log : Log) (j : Nat) (s : AS), (∀ k, j ≤ k → k < j + log.length → D k = false) → foldP n0 D j log s = s
  | [], _, _, _ => rfl
  | e :: es, j, s, h => by
    simp only [foldP]
    rw [h j (Nat.le_refl _) (by simp)]
    exact foldP_false es (j + 1) s fun k h1 h2 => h k (by omega) (by simp; omega)
section
variable {P : Program} {ops : Array Oper} {n0 j : Nat} {os : List Oper} {s0 s1 : AS} {log : Log} {w0 : World} {Z0 : Fr}
theorem seg_step (hos : ∀ (k : Nat) o, os[k]? = some o → ops[j + k]? = some o) (ht : Trace P (ops.toList.map (·.dst)) n0 j os s0 log s1) (hc : chkS ops n0 j (projL n0 j log) = true)
    (hn : ∀ i, j ≤ i → i < ops.size → hget s0.heap (n0 + i) = none) {D : Nat → Bool} (hcl : Closed .any ops D) {i : Nat} {o : Oper} (ho : os[i]? = some o) (hDi : D (j + i) = false)
    (hpre : (o.after.toList.all fun e => !Region.binds .any e || D e.on) = true) {a : Act} {w : World} (R : Rep w0 Z0 (foldP n0 D j log s0) a w) {K : Act → World → Prop}
    (hK : ∀ a' w', Rep w0 Z0 (foldP n0 (upd D (j + i)) j log s0) a' w' → K a' w') {Q : Exit → Act → World → Prop} : if Region.wanted o (yielded ops a.tmps) = true then Oper.wp P o a w K Q else K (a.put o.dst undef) w := by
  have hna := ht.noApp
  obtain ⟨J, Z, R'⟩ := R
  have hoi := hos i o ho
  obtain ⟨v, ef, hl, hd, hrun⟩ := ht.at i o ho
  have hop : ∀ (k : Nat) e, log[k]? = some e → ∃ ok, ops[j + k]? = some ok ∧ e.1 = ok.dst := fun k e he => by
    obtain ⟨ok, h1, h2⟩ := ht.ops k e he
    exact ⟨ok, hos k ok h1, h2⟩
  generalize hB : foldP n0 (fun q => decide (q < j + i)) j log s0 = sB at hl hd hrun
  have fore : ∀ (k : Nat) e ok, k < i → log[k]? = some e → ops[j + k]? = some ok → D (j + k) = true ∨ indep ops n0 (j + k) (j + i) ok o e.2 ⟨v, ef, ftF sB o⟩ = true := fun k e ok hk he hok => by
    rcases (chkS_spec hc hk hok hoi he hl).2 with h | h
    · exact Or.inl (h.done hcl o hoi hpre)
    · exact Or.inr h
  have back : ∀ (k : Nat) e ok, i < k → D (j + k) = true → log[k]? = some e → ops[j + k]? = some ok → indep ops n0 (j + i) (j + k) o ok ⟨v, ef, ftF sB o⟩ e.2 = true := fun k e ok hk hDk he hok => by
    rcases (chkS_spec hc hk hoi hok hl he).2 with h | h
    · have := h.done hcl ok hok (hcl _ ok hok hDk)
      rw [hDi] at this; cases this
    · exact h
  have hget' : ∀ t, t ∈ o.looksAt ops → (foldP n0 D j log s0).get t = sB.get t := fun t ht' => by
    rw [← hB]
    refine foldP_get log j s0 s0 hna rfl fun k e he hde => ?_
    obtain ⟨ok, hok, hdk⟩ := hop k e he
    rcases Nat.lt_trichotomy k i with hk | hk | hk
    · rw [decide_eq_true (by omega)]
      rcases fore k e ok hk he hok with h | h
      · exact h.symm
      · exfalso
        simp only [indep, Bool.and_eq_true] at h
        exact ((apart_dst h.1.1.1.1.1).1 t (hdk ▸ hde)).1 ht'
    · subst hk; rw [hDi]; simp
    · rw [decide_eq_false (by omega)]
      cases hDk : D (j + k) with
      | false => rfl
      | true =>
        exfalso
        have h := back k e ok hk hDk he hok
        simp only [indep, Bool.and_eq_true] at h
        exact ((apart_dst h.1.1.1.1.1).2 t (hdk ▸ hde)).1 ht'
  have hblk' : ∀ q, q ∈ ftF sB o → hget (foldP n0 D j log s0).heap q = hget sB.heap q := fun q hq => by
    rw [← hB]
    refine foldP_blk log j s0 s0 hna rfl fun k e he hde => ?_
    obtain ⟨ok, hok, hdk⟩ := hop k e he
    rcases Nat.lt_trichotomy k i with hk | hk | hk
    · rw [decide_eq_true (by omega)]
      rcases fore k e ok hk he hok with h | h
      · exact h.symm
      · exfalso
        simp only [indep, Bool.and_eq_true, hde, tgtIn, Bool.not_eq_true', List.contains_eq_mem, decide_eq_false_iff_not] at h
        exact h.1.1.1.1.2 hq
    · subst hk; rw [hDi]; simp
    · rw [decide_eq_false (by omega)]
      cases hDk : D (j + k) with
      | false => rfl
      | true =>
        exfalso
        have h := back k e ok hk hDk he hok
        simp only [indep, Bool.and_eq_true, hde, tgtIn, Bool.not_eq_true', List.contains_eq_mem, decide_eq_false_iff_not] at h
        exact h.1.1.1.2 hq
  have hhole : hget (foldP n0 D j log s0).heap (n0 + (j + i)) = none := by
    have : hget (foldP n0 D j log s0).heap (n0 + (j + i)) = hget (foldP n0 (fun _ => false) j log s0).heap (n0 + (j + i)) := by
      refine foldP_blk log j s0 s0 hna rfl fun k e he hde => ?_
      obtain ⟨ok, hok, hdk⟩ := hop k e he
      rcases Nat.lt_trichotomy k i with hk | hk | hk
      · exact absurd hde (chkS_spec hc hk hok hoi he hl).1
      · subst hk; exact hDi.symm
      · cases hDk : D (j + k) with
        | false => rfl
        | true =>
          exfalso
          have h := back k e ok hk hDk he hok
          simp only [indep, Bool.and_eq_true, hde, beq_self_eq_true, Bool.not_true] at h
          exact absurd h.1.2 (by simp)
    rw [this, foldP_none]
    exact hn _ (by omega) (Array.getElem?_eq_some_iff.1 hoi).1
  have hrun' := hrun.loc hget' hblk'
  have hd' : dstOk (foldP n0 D j log s0) o.dst := by
    have e1 : (foldP n0 D j log s0).N = s0.N := foldP_N log j s0
    have e2 : sB.N = s0.N := by rw [← hB]; exact foldP_N log j s0
    cases hod : o.dst with
    | none => trivial
    | some d =>
      rw [hod] at hd
      simp only [dstOk] at hd ⊢
      omega
  refine hrun'.step R' hhole hd' fun a' w' R'' => hK a' w' ?_
  obtain ⟨J1, Z1, R1⟩ := R''
  refine ⟨J1, Z1, R1.like (foldP_add log j s0 (o.dst, ⟨v, ef, _⟩) (by rw [Nat.add_sub_cancel_left]; exact hl) (by omega) hDi hna fun k x hk hx hDk => ?_).symm⟩
  obtain ⟨m, rfl⟩ : ∃ m, k = j + m := ⟨k - j, by omega⟩
  rw [Nat.add_sub_cancel_left] at hx
  obtain ⟨ok, hok, hdk⟩ := hop m x hx
  have h := back m x ok (by omega) hDk hx hok
  simp only [indep, Bool.and_eq_true] at h
  refine ⟨fun t ht' => ?_, fun q hq hq' => ?_⟩
  · rw [hdk]; exact ((apart_dst h.1.1.1.1.1).1 t ht').2
  · simp only at hq
    rw [hq, hq'] at h
    simp at h
end
theorem trace_len {P : Program} {gs : List (Option Nat)} {n0 i : Nat} {os : List Oper} {s s' : AS} {log : Log} (h : Trace P gs n0 i os s log s') : log.length = os.length := by
  induction h with
  | nil => rfl
  | cons i o os s s' v ef log hd h _ ih => simp [ih]
theorem trace_regionB {P : Program} {id b : Nat} {ops : Array Oper} {os1 os2 : List Oper} {ob : Oper} {s s1 s2 : AS} {log1 log2 : Log} {nd : Prop} {v : AV} {ef : Eff} {w0 : World} {Z0 : Fr} {a : Act} {w : World} {Q : Exit → Act → World → Prop} (n0 : Nat) (hn0 : ∀ i, i < ops.size → hget s.heap (n0 + i) = none) (hm : P.follows .mixedOrders = true) (hback : backB .any ops = true) (hd : noDefer ops = true)
    (hsp : ops.toList = os1 ++ ob :: os2) (hlb : os1.length = b) (hbar : barB ops b = true)
    (t1 : Trace P (ops.toList.map (·.dst)) n0 0 os1 s log1 s1) (c1 : chkS ops n0 0 (projL n0 0 log1) = true)
    (hg : ob.guard = none) (hdst : dstOk s1 ob.dst) (hh : hget s1.heap (n0 + b) = none) (hop : opF P (n0 + b) s1.ev (hget s1.heap) ob = some (nd, v, ef)) (hnd : nd)
    (hh2 : ∀ q, b + 1 ≤ q → q < ops.size → hget (s1.ent ob.dst (n0 + b) v ef).heap (n0 + q) = none)
    (t2 : Trace P (ops.toList.map (·.dst)) n0 (b + 1) os2 (s1.ent ob.dst (n0 + b) v ef) log2 s2) (c2 : chkS ops n0 (b + 1) (projL n0 (b + 1) log2) = true)
    (R : Rep w0 Z0 s a w) (hQ : ∀ a' w', Rep w0 Z0 s2 a' w' → Q .normal a' w') {n : Nat} : (Code.region id ops true).wpIn (fo Z0.ro) n P Q a w := by
  have hsz : ops.size = b + 1 + os2.length := by
    have := congrArg List.length hsp
    simp at this; omega
  have at1 : ∀ (k : Nat) o, os1[k]? = some o → ops[0 + k]? = some o := fun k o hk => by
    rw [Nat.zero_add, ← Array.getElem?_toList, hsp, List.getElem?_append_left (List.getElem?_eq_some_iff.1 hk).1]; exact hk
  have at2 : ∀ (k : Nat) o, os2[k]? = some o → ops[b + 1 + k]? = some o := fun k o hk => by
    rw [← Array.getElem?_toList, hsp, List.getElem?_append_right (by omega), show b + 1 + k - os1.length = k + 1 by omega]; simpa using hk
  have atb : ops[b]? = some ob := by
    rw [← Array.getElem?_toList, hsp, List.getElem?_append_right (by omega), show b - os1.length = 0 by omega]; rfl
  obtain ⟨bar1, bar2⟩ := barB_spec hbar
  have l1 := trace_len t1
  have l2 := trace_len t2
  have off : ∀ D, Closed .any ops D → ∀ k, k < ops.size → D b = false → b ≤ k → D k = false := fun D hcl k hk hDb hbk => by
    rcases Nat.eq_or_lt_of_le hbk with e | h
    · subst e; exact hDb
    · cases hDk : D k with
      | false => rfl
      | true =>
        obtain ⟨o, ho⟩ : ∃ o, ops[k]? = some o := ⟨_, Array.getElem?_eq_getElem hk⟩
        have := (bar2 k h hk).done hcl o ho (hcl k o ho hDk)
        rw [hDb] at this; cases this
  refine regionIn_by (free_fo _) (fun _ D a w => bif D b then Rep w0 Z0 (foldP n0 D (b + 1) log2 (s1.ent ob.dst (n0 + b) v ef)) a w else Rep w0 Z0 (foldP n0 D 0 log1 s) a w) hm hd hback ?_ ?_ fun D a w hD R' => ?_
  · show Rep w0 Z0 (foldP n0 (fun _ => false) 0 log1 s) a w.drew
    rw [foldP_none]
    obtain ⟨J, Z, R⟩ := R
    exact ⟨J, Z, R.drew⟩
  · refine Steps.of ops.toList 0 fun i o ho D a w R' hDi hpre hcl K hK => ?_
    rw [Nat.zero_add] at hDi
    simp only [Nat.zero_add] at hK
    have hoi : ops[i]? = some o := by rw [← Array.getElem?_toList]; exact ho
    have hi : i < ops.size := (Array.getElem?_eq_some_iff.1 hoi).1
    rcases Nat.lt_trichotomy i b with hib | hib | hib
    · have hDb : D b = false := by
        cases hDb : D b with
        | false => rfl
        | true =>
          have := (bar1 i hib hi).done hcl ob atb (hcl b ob atb hDb)
          rw [hDi] at this; cases this
      rw [hDb] at R'
      have hu : upd D i b = false := by rw [upd_ne D (by omega)]; exact hDb
      have hoi1 : os1[i]? = some o := by
        have := ho
        rw [hsp, List.getElem?_append_left (by omega)] at this; exact this
      refine seg_step at1 t1 c1 (fun q _ hq => hn0 q hq) hcl hoi1 (by rw [Nat.zero_add]; exact hDi) hpre R' fun a' w' R'' => hK a' w' ?_
      rw [hu]
      rw [Nat.zero_add] at R''
      exact R''
    · subst hib
      obtain rfl : o = ob := by rw [hoi] at atb; exact Option.some.inj atb
      rw [hDi] at R'
      have e1 : foldP n0 D 0 log1 s = s1 := t1.fold D fun k _ hk => (bar1 k (by omega) (by omega)).done hcl o hoi hpre
      simp only [cond_false] at R'
      rw [e1] at R'
      obtain ⟨J, Z, R'⟩ := R'
      have hw : Region.wanted o (yielded ops a.tmps) = true := by simp [Region.wanted, hg]
      rw [if_pos hw]
      refine does_wp (opF_sound R' hh hop hnd) fun J' w' u R'' hr => hK _ _ ?_
      rw [upd_same]
      have e2 : foldP n0 (upd D i) (i + 1) log2 (s1.ent o.dst (n0 + i) v ef) = s1.ent o.dst (n0 + i) v ef := foldP_false log2 (i + 1) _ fun k h1 h2 => by
        rw [upd_ne D (by omega)]
        exact off D hcl k (by omega) hDi (by omega)
      simp only [cond_true]
      rw [e2]
      exact ⟨J', Z, R''.put (fun k e => by rw [eff_N]; exact dstOk_spec hdst k e) hr⟩
    · have hDb : D b = true := (bar2 i hib hi).done hcl o hoi hpre
      rw [hDb] at R'
      have hu : upd D i b = true := by rw [upd_ne D (by omega)]; exact hDb
      obtain ⟨m, rfl⟩ : ∃ m, i = b + 1 + m := ⟨i - (b + 1), by omega⟩
      have hoi2 : os2[m]? = some o := by
        have := ho
        rw [hsp, List.getElem?_append_right (by omega), show b + 1 + m - os1.length = m + 1 by omega] at this
        simpa using this
      refine seg_step at2 t2 c2 (fun q hq hq2 => hh2 q (by omega) hq2) hcl hoi2 hDi hpre R' fun a' w' R'' => hK a' w' ?_
      rw [hu]
      exact R''
  · have hDb : D b = true := hD b (by omega)
    rw [hDb] at R'
    refine hQ a w ?_
    rw [← t2.fold D fun k _ hk => hD k (by omega)]
    exact R'
/-- The one operation in the middle. -/
def barOp (P : Program) (n0 b : Nat) (s : AS) (K : List Oper → AS → Prop) : List Oper → Prop
  | [] => False
  | o :: os => o.guard = none ∧ s.heap.length ≤ n0 + b ∧ dstOk s o.dst ∧ match opF P (n0 + b) s.ev (hget s.heap) o with
    | some (nd, v, ef) => nd ∧ (s.ent o.dst (n0 + b) v ef).heap.length ≤ n0 + b + 1 ∧ K os (s.ent o.dst (n0 + b) v ef)
    | none => False
/-- m holes from n0 on. -/
def holesB (h : List (Option (List CV))) (n0 m : Nat) : Bool := (List.range m).all fun i => (hget h (n0 + i)).isNone
theorem holes_of {h : List (Option (List CV))} {n0 m : Nat} (e : holesB h n0 m = true) : ∀ i, i < m → hget h (n0 + i) = none := fun i hi => by
  have := List.all_eq_true.1 e i (List.mem_range.2 hi)
  simpa using this
/-- The one operation in the middle; the new blocks lie in holes. -/
def barOpN (P : Program) (m n0 b : Nat) (s : AS) (K : List Oper → AS → Prop) : List Oper → Prop
  | [] => False
  | o :: os => o.guard = none ∧ (hget s.heap (n0 + b)).isNone = true ∧ dstOk s o.dst ∧ match opF P (n0 + b) s.ev (hget s.heap) o with
    | some (nd, v, ef) => nd ∧ holesB (s.ent o.dst (n0 + b) v ef).heap (n0 + b + 1) (m - (b + 1)) = true ∧ K os (s.ent o.dst (n0 + b) v ef)
    | none => False
theorem AW_regionBn {P : Program} {s : AS} {Q : Exit → AS → Prop} {id : Nat} {ops : Array Oper} (n0 b : Nat) (hn0 : holesB s.heap n0 ops.size = true) (hm : P.follows .mixedOrders = true) (hback : backB .any ops = true) (hd : noDefer ops = true) (hbar : barB ops b = true)
    (h : arunD P (ops.toList.map (·.dst)) n0 0 (ops.toList.take b) s [] fun lg s1 => chkS ops n0 0 lg = true ∧ barOpN P ops.size n0 b s1 (fun os s' => arunD P (ops.toList.map (·.dst)) n0 (b + 1) os s' [] fun lg s2 => chkS ops n0 (b + 1) lg = true ∧ Q .normal s2) (ops.toList.drop b)) : AW P (.region id ops true) s Q := fun w0 Z0 a w n R => by
  obtain ⟨log1, s1, t1, c1, hb⟩ := arunD_trace _ _ _ _ _ h
  cases hdr : ops.toList.drop b with
  | nil => rw [hdr] at hb; exact hb.elim
  | cons ob os2 =>
    rw [hdr] at hb
    obtain ⟨hg, hh, hdst, hb⟩ := hb
    have hsp : ops.toList = ops.toList.take b ++ ob :: os2 := by rw [← hdr, List.take_append_drop]
    have hlb : (ops.toList.take b).length = b := by
      have : b < ops.toList.length := by
        refine Nat.lt_of_not_le fun hle => ?_
        rw [List.drop_of_length_le hle] at hdr
        cases hdr
      rw [List.length_take]; omega
    split at hb
    · rename_i nd v ef hop
      obtain ⟨hnd, hh2, hb⟩ := hb
      obtain ⟨log2, s2, t2, c2, hq⟩ := arunD_trace _ _ _ _ _ hb
      exact trace_regionB n0 (holes_of hn0) hm hback hd hsp hlb hbar t1 (by simpa using c1) hg hdst (by simpa using hh) hop hnd (fun q h1 h2 => by
        have := holes_of hh2 (q - (b + 1)) (by omega)
        rwa [show n0 + b + 1 + (q - (b + 1)) = n0 + q by omega] at this) t2 (by simpa using c2) R fun a' w' R' => ⟨s2, R', hq⟩
    · exact hb.elim
theorem AW_regionB {P : Program} {s : AS} {Q : Exit → AS → Prop} {id : Nat} {ops : Array Oper} (b : Nat) (hm : P.follows .mixedOrders = true) (hback : backB .any ops = true) (hd : noDefer ops = true) (hbar : barB ops b = true)
    (h : arunD P (ops.toList.map (·.dst)) s.heap.length 0 (ops.toList.take b) s [] fun lg s1 => chkS ops s.heap.length 0 lg = true ∧ barOp P s.heap.length b s1 (fun os s' => arunD P (ops.toList.map (·.dst)) s.heap.length (b + 1) os s' [] fun lg s2 => chkS ops s.heap.length (b + 1) lg = true ∧ Q .normal s2) (ops.toList.drop b)) : AW P (.region id ops true) s Q := fun w0 Z0 a w n R => by
  obtain ⟨log1, s1, t1, c1, hb⟩ := arunD_trace _ _ _ _ _ h
  cases hdr : ops.toList.drop b with
  | nil => rw [hdr] at hb; exact hb.elim
  | cons ob os2 =>
    rw [hdr] at hb
    obtain ⟨hg, hh, hdst, hb⟩ := hb
    have hsp : ops.toList = ops.toList.take b ++ ob :: os2 := by rw [← hdr, List.take_append_drop]
    have hlb : (ops.toList.take b).length = b := by
      have : b < ops.toList.length := by
        refine Nat.lt_of_not_le fun hle => ?_
        rw [List.drop_of_length_le hle] at hdr
        cases hdr
      rw [List.length_take]; omega
    split at hb
    · rename_i nd v ef hop
      obtain ⟨hnd, hh2, hb⟩ := hb
      obtain ⟨log2, s2, t2, c2, hq⟩ := arunD_trace _ _ _ _ _ hb
      exact trace_regionB s.heap.length (fun _ _ => hget_ge _ _ (by omega)) hm hback hd hsp hlb hbar t1 (by simpa using c1) hg hdst (hget_ge _ _ hh) hop hnd (fun q hq _ => hget_ge _ _ (by omega)) t2 (by simpa using c2) R fun a' w' R' => ⟨s2, R', hq⟩
    · exact hb.elim
end Go.Sea
