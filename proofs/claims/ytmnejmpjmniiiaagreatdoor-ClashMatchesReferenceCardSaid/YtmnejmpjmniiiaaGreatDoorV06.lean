/- Part 6 of 18: contracts of functions and plain laws for the root text. No condition. -/
import Derived.Test.YtmnejmpjmniiiaaGreatDoorV01
import Derived.Test.YtmnejmpjmniiiaaGreatDoorV02
import Derived.Test.YtmnejmpjmniiiaaGreatDoorV03
import Derived.Test.YtmnejmpjmniiiaaGreatDoorV04
import Derived.Test.YtmnejmpjmniiiaaGreatDoorV05
import Derived.Test.YtmnejmpjmniiiaaGreatDoorProg
set_option linter.unusedVariables false
set_option linter.unusedSimpArgs false
set_option linter.unusedSectionVars false
set_option linter.deprecated false
namespace Go.Sea
open Go.RowKit
def aaK (ops : Array Oper) (n0 k i : Nat) (ok oi : Oper) (ek ei : Option Nat × List Nat) : Bool :=
  ok.apart ops oi && !(sD ek.1 ei.2) && !(sD ei.1 ek.2) && !(ek.1 == some (n0 + i)) && !(ei.1 == some (n0 + k)) && (match ek.1 with | some q => !(ei.1 == some q) | none => true)
def sN (ops : Array Oper) (n0 j : Nat) (log : Lg) : Bool :=
  let T := masks [] ops.toList
  (List.range log.length).all fun i => (List.range i).all fun k => match ops[j + k]?, ops[j + i]?, log[k]?, log[i]? with
    | some ok, some oi, some ek, some ei => !(ek.1 == some (n0 + (j + i))) && ((T.getD (j + i) 0).testBit (j + k) || aaK ops n0 (j + k) (j + i) ok oi ek ei)
    | _, _, _, _ => false
def Vh (ops : Array Oper) (b : Nat) : Bool :=
  let T := masks [] ops.toList
  (List.range ops.size).all fun i => if i < b then (T.getD b 0).testBit i else if b < i then (T.getD i 0).testBit b else true
theorem nL {ops : Array Oper} {k i : Nat} (h : ((masks [] ops.toList).getD i 0).testBit k = true) : Fh ops k i :=
  tT (ops := ops) ops.toList [] (fun i k hk => by simp at hk) (by simp) i k h
theorem CX {ops : Array Oper} {b : Nat} (h : Vh ops b = true) : (∀ k, k < b -> k < ops.size -> Fh ops k b) /\ ∀ i, b < i -> i < ops.size -> Fh ops b i := by
  have h' : ∀ i, i < ops.size -> (if i < b then ((masks [] ops.toList).getD b 0).testBit i else if b < i then ((masks [] ops.toList).getD i 0).testBit b else true) = true := fun i hi => List.all_eq_true.1 h i (List.mem_range.2 hi)
  refine ⟨fun k hk hs => ?_, fun i hi hs => ?_⟩
  · have := h' k hs
    rw [if_pos hk] at this
    exact nL this
  · have := h' i hs
    rw [if_neg (by omega), if_pos hi] at this
    exact nL this
theorem uH (n0 : Nat) : ∀ (log : Log) (j : Nat), (jf n0 j log).length = log.length
  | [], _ => rfl
  | e :: es, j => by simp [jf, uH n0 es (j + 1)]
theorem wo {ops : Array Oper} {n0 j : Nat} {log : Log} (h : sN ops n0 j (jf n0 j log) = true) {k i : Nat} (hki : k < i) {ok oi : Oper} {ek ei : Option Nat × Qb} (h1 : ops[j + k]? = some ok) (h2 : ops[j + i]? = some oi) (h3 : log[k]? = some ek) (h4 : log[i]? = some ei) :
    ek.2.ef.tgt (n0 + (j + k)) ≠ some (n0 + (j + i)) /\ (Fh ops (j + k) (j + i) \/ indep ops n0 (j + k) (j + i) ok oi ek.2 ei.2 = true) := by
  have hi : i < (jf n0 j log).length := by rw [uH]; exact (List.getElem?_eq_some_iff.1 h4).1
  have := List.all_eq_true.1 (List.all_eq_true.1 h i (List.mem_range.2 hi)) k (List.mem_range.2 hki)
  rw [mY, mY, h1, h2, h3, h4] at this
  simp only [Option.map_some, Bool.and_eq_true, Bool.or_eq_true, Bool.not_eq_true', beq_eq_false_iff_ne] at this
  refine ⟨this.1, ?_⟩
  rcases this.2 with h | h
  · exact Or.inl (nL h)
  · exact Or.inr h
theorem pV {n0 : Nat} {D : Nat -> Bool} : ∀ (log : Log) (j : Nat) (s : AS), (∀ k, j <= k -> k < j + log.length -> D k = false) -> bR n0 D j log s = s
  | [], _, _, _ => rfl
  | e :: es, j, s, h => by
    simp only [bR]
    rw [h j (Nat.le_refl _) (by simp)]
    exact pV es (j + 1) s fun k h1 h2 => h k (by omega) (by simp; omega)
section
variable {P : Program} {ops : Array Oper} {n0 j : Nat} {os : List Oper} {s0 s1 : AS} {log : Log} {w0 : World} {Z0 : Fr}
theorem um (hos : ∀ (k : Nat) o, os[k]? = some o -> ops[j + k]? = some o) (ht : Trace P (ops.toList.map (·.dst)) n0 j os s0 log s1) (hc : sN ops n0 j (jf n0 j log) = true)
    (hn : ∀ i, j <= i -> i < ops.size -> hget s0.heap (n0 + i) = none) {D : Nat -> Bool} (hcl : Closed .any ops D) {i : Nat} {o : Oper} (ho : os[i]? = some o) (hDi : D (j + i) = false)
    (hpre : (o.after.toList.all fun e => !Region.binds .any e || D e.on) = true) {a : Act} {w : World} (R : l5 w0 Z0 (bR n0 D j log s0) a w) {K : Act -> World -> Prop}
    (hK : ∀ a' w', l5 w0 Z0 (bR n0 (upd D (j + i)) j log s0) a' w' -> K a' w') {Q : Exit -> Act -> World -> Prop} : if Region.wanted o (yielded ops a.tmps) = true then Oper.wp P o a w K Q else K (a.put o.dst undef) w := by
  have hna := ht.eF
  obtain ⟨J, Z, R'⟩ := R
  have hoi := hos i o ho
  obtain ⟨v, ef, hl, hd, hrun⟩ := ht.at i o ho
  have hop : ∀ (k : Nat) e, log[k]? = some e -> ∃ ok, ops[j + k]? = some ok /\ e.1 = ok.dst := fun k e he => by
    obtain ⟨ok, h1, h2⟩ := ht.ops k e he
    exact ⟨ok, hos k ok h1, h2⟩
  generalize hB : bR n0 (fun q => decide (q < j + i)) j log s0 = sB at hl hd hrun
  have fore : ∀ (k : Nat) e ok, k < i -> log[k]? = some e -> ops[j + k]? = some ok -> D (j + k) = true \/ indep ops n0 (j + k) (j + i) ok o e.2 ⟨v, ef, sI sB o⟩ = true := fun k e ok hk he hok => by
    rcases (wo hc hk hok hoi he hl).2 with h | h
    · exact Or.inl (h.done hcl o hoi hpre)
    · exact Or.inr h
  have back : ∀ (k : Nat) e ok, i < k -> D (j + k) = true -> log[k]? = some e -> ops[j + k]? = some ok -> indep ops n0 (j + i) (j + k) o ok ⟨v, ef, sI sB o⟩ e.2 = true := fun k e ok hk hDk he hok => by
    rcases (wo hc hk hoi hok hl he).2 with h | h
    · have := h.done hcl ok hok (hcl _ ok hok hDk)
      rw [hDi] at this; cases this
    · exact h
  have hget' : ∀ t, t ∈ o.looksAt ops -> (bR n0 D j log s0).get t = sB.get t := fun t ht' => by
    rw [<- hB]
    refine wu log j s0 s0 hna rfl fun k e he hde => ?_
    obtain ⟨ok, hok, hdk⟩ := hop k e he
    rcases Nat.lt_trichotomy k i with hk | hk | hk
    · rw [decide_eq_true (by omega)]
      rcases fore k e ok hk he hok with h | h
      · exact h.symm
      · exfalso
        simp only [indep, Bool.and_eq_true] at h
        exact ((kY h.1.1.1.1.1).1 t (hdk ▸ hde)).1 ht'
    · subst hk; rw [hDi]; simp
    · rw [decide_eq_false (by omega)]
      cases hDk : D (j + k) with
      | false => rfl
      | true =>
        exfalso
        have h := back k e ok hk hDk he hok
        simp only [indep, Bool.and_eq_true] at h
        exact ((kY h.1.1.1.1.1).2 t (hdk ▸ hde)).1 ht'
  have hblk' : ∀ q, q ∈ sI sB o -> hget (bR n0 D j log s0).heap q = hget sB.heap q := fun q hq => by
    rw [<- hB]
    refine nA log j s0 s0 hna rfl fun k e he hde => ?_
    obtain ⟨ok, hok, hdk⟩ := hop k e he
    rcases Nat.lt_trichotomy k i with hk | hk | hk
    · rw [decide_eq_true (by omega)]
      rcases fore k e ok hk he hok with h | h
      · exact h.symm
      · exfalso
        simp only [indep, Bool.and_eq_true, hde, sD, Bool.not_eq_true', List.contains_eq_mem, decide_eq_false_iff_not] at h
        exact h.1.1.1.1.2 hq
    · subst hk; rw [hDi]; simp
    · rw [decide_eq_false (by omega)]
      cases hDk : D (j + k) with
      | false => rfl
      | true =>
        exfalso
        have h := back k e ok hk hDk he hok
        simp only [indep, Bool.and_eq_true, hde, sD, Bool.not_eq_true', List.contains_eq_mem, decide_eq_false_iff_not] at h
        exact h.1.1.1.2 hq
  have hhole : hget (bR n0 D j log s0).heap (n0 + (j + i)) = none := by
    have : hget (bR n0 D j log s0).heap (n0 + (j + i)) = hget (bR n0 (fun _ => false) j log s0).heap (n0 + (j + i)) := by
      refine nA log j s0 s0 hna rfl fun k e he hde => ?_
      obtain ⟨ok, hok, hdk⟩ := hop k e he
      rcases Nat.lt_trichotomy k i with hk | hk | hk
      · exact absurd hde (wo hc hk hok hoi he hl).1
      · subst hk; exact hDi.symm
      · cases hDk : D (j + k) with
        | false => rfl
        | true =>
          exfalso
          have h := back k e ok hk hDk he hok
          simp only [indep, Bool.and_eq_true, hde, beq_self_eq_true, Bool.not_true] at h
          exact absurd h.1.2 (by simp)
    rw [this, jN]
    exact hn _ (by omega) (Array.getElem?_eq_some_iff.1 hoi).1
  have hrun' := hrun.loc hget' hblk'
  have hd' : fE (bR n0 D j log s0) o.dst := by
    have e1 : (bR n0 D j log s0).N = s0.N := uj log j s0
    have e2 : sB.N = s0.N := by rw [<- hB]; exact uj log j s0
    cases hod : o.dst with
    | none => trivial
    | some d =>
      rw [hod] at hd
      simp only [fE] at hd ⊢
      omega
  refine hrun'.step R' hhole hd' fun a' w' R'' => hK a' w' ?_
  obtain ⟨J1, Z1, R1⟩ := R''
  refine ⟨J1, Z1, R1.like (wm log j s0 (o.dst, ⟨v, ef, _⟩) (by rw [Nat.add_sub_cancel_left]; exact hl) (by omega) hDi hna fun k x hk hx hDk => ?_).symm⟩
  obtain ⟨m, rfl⟩ : ∃ m, k = j + m := ⟨k - j, by omega⟩
  rw [Nat.add_sub_cancel_left] at hx
  obtain ⟨ok, hok, hdk⟩ := hop m x hx
  have h := back m x ok (by omega) hDk hx hok
  simp only [indep, Bool.and_eq_true] at h
  refine ⟨fun t ht' => ?_, fun q hq hq' => ?_⟩
  · rw [hdk]; exact ((kY h.1.1.1.1.1).1 t ht').2
  · simp only at hq
    rw [hq, hq'] at h
    simp at h
end
theorem nH {P : Program} {gs : List (Option Nat)} {n0 i : Nat} {os : List Oper} {s s' : AS} {log : Log} (h : Trace P gs n0 i os s log s') : log.length = os.length := by
  induction h with
  | nil => rfl
  | cons i o os s s' v ef log hd h _ ih => simp [ih]
theorem Ca {P : Program} {id b : Nat} {ops : Array Oper} {os1 os2 : List Oper} {ob : Oper} {s s1 s2 : AS} {log1 log2 : Log} {nd : Prop} {v : AV} {ef : Eff} {w0 : World} {Z0 : Fr} {a : Act} {w : World} {Q : Exit -> Act -> World -> Prop} (n0 : Nat) (hn0 : ∀ i, i < ops.size -> hget s.heap (n0 + i) = none) (hm : P.follows .mixedOrders = true) (hback : qz .any ops = true) (hd : iE ops = true)
    (hsp : ops.toList = os1 ++ ob :: os2) (hlb : os1.length = b) (hbar : Vh ops b = true)
    (t1 : Trace P (ops.toList.map (·.dst)) n0 0 os1 s log1 s1) (c1 : sN ops n0 0 (jf n0 0 log1) = true)
    (hg : ob.guard = none) (hdst : fE s1 ob.dst) (hh : hget s1.heap (n0 + b) = none) (hop : nP P (n0 + b) s1.ev (hget s1.heap) ob = some (nd, v, ef)) (hnd : nd)
    (hh2 : ∀ q, b + 1 <= q -> q < ops.size -> hget (s1.ent ob.dst (n0 + b) v ef).heap (n0 + q) = none)
    (t2 : Trace P (ops.toList.map (·.dst)) n0 (b + 1) os2 (s1.ent ob.dst (n0 + b) v ef) log2 s2) (c2 : sN ops n0 (b + 1) (jf n0 (b + 1) log2) = true)
    (R : l5 w0 Z0 s a w) (hQ : ∀ a' w', l5 w0 Z0 s2 a' w' -> Q .normal a' w') {n : Nat} : (Code.region id ops true).wpIn (fo Z0.ro) n P Q a w := by
  have hsz : ops.size = b + 1 + os2.length := by
    have := congrArg List.length hsp
    simp at this; omega
  have at1 : ∀ (k : Nat) o, os1[k]? = some o -> ops[0 + k]? = some o := fun k o hk => by
    rw [Nat.zero_add, <- Array.getElem?_toList, hsp, List.getElem?_append_left (List.getElem?_eq_some_iff.1 hk).1]; exact hk
  have at2 : ∀ (k : Nat) o, os2[k]? = some o -> ops[b + 1 + k]? = some o := fun k o hk => by
    rw [<- Array.getElem?_toList, hsp, List.getElem?_append_right (by omega), show b + 1 + k - os1.length = k + 1 by omega]; simpa using hk
  have atb : ops[b]? = some ob := by
    rw [<- Array.getElem?_toList, hsp, List.getElem?_append_right (by omega), show b - os1.length = 0 by omega]; rfl
  obtain ⟨bar1, bar2⟩ := CX hbar
  have l1 := nH t1
  have l2 := nH t2
  have off : ∀ D, Closed .any ops D -> ∀ k, k < ops.size -> D b = false -> b <= k -> D k = false := fun D hcl k hk hDb hbk => by
    rcases Nat.eq_or_lt_of_le hbk with e | h
    · subst e; exact hDb
    · cases hDk : D k with
      | false => rfl
      | true =>
        obtain ⟨o, ho⟩ : ∃ o, ops[k]? = some o := ⟨_, Array.getElem?_eq_getElem hk⟩
        have := (bar2 k h hk).done hcl o ho (hcl k o ho hDk)
        rw [hDb] at this; cases this
  refine oZ (dM _) (fun _ D a w => bif D b then l5 w0 Z0 (bR n0 D (b + 1) log2 (s1.ent ob.dst (n0 + b) v ef)) a w else l5 w0 Z0 (bR n0 D 0 log1 s) a w) hm hd hback ?_ ?_ fun D a w hD R' => ?_
  · show l5 w0 Z0 (bR n0 (fun _ => false) 0 log1 s) a w.drew
    rw [jN]
    obtain ⟨J, Z, R⟩ := R
    exact ⟨J, Z, R.drew⟩
  · refine Steps.of ops.toList 0 fun i o ho D a w R' hDi hpre hcl K hK => ?_
    rw [Nat.zero_add] at hDi
    simp only [Nat.zero_add] at hK
    have hoi : ops[i]? = some o := by rw [<- Array.getElem?_toList]; exact ho
    have hi : i < ops.size := (Array.getElem?_eq_some_iff.1 hoi).1
    rcases Nat.lt_trichotomy i b with hib | hib | hib
    · have hDb : D b = false := by
        cases hDb : D b with
        | false => rfl
        | true =>
          have := (bar1 i hib hi).done hcl ob atb (hcl b ob atb hDb)
          rw [hDi] at this; cases this
      rw [hDb] at R'
      have hu : upd D i b = false := by rw [upd_ne D (by omega)]; exact hDb
      have hoi1 : os1[i]? = some o := by
        have := ho
        rw [hsp, List.getElem?_append_left (by omega)] at this; exact this
      refine um at1 t1 c1 (fun q _ hq => hn0 q hq) hcl hoi1 (by rw [Nat.zero_add]; exact hDi) hpre R' fun a' w' R'' => hK a' w' ?_
      rw [hu]
      rw [Nat.zero_add] at R''
      exact R''
    · subst hib
      obtain rfl : o = ob := by rw [hoi] at atb; exact Option.some.inj atb
      rw [hDi] at R'
      have e1 : bR n0 D 0 log1 s = s1 := t1.fold D fun k _ hk => (bar1 k (by omega) (by omega)).done hcl o hoi hpre
      simp only [cond_false] at R'
      rw [e1] at R'
      obtain ⟨J, Z, R'⟩ := R'
      have hw : Region.wanted o (yielded ops a.tmps) = true := by simp [Region.wanted, hg]
      rw [if_pos hw]
      refine rV (kX R' hh hop hnd) fun J' w' u R'' hr => hK _ _ ?_
      rw [upd_same]
      have e2 : bR n0 (upd D i) (i + 1) log2 (s1.ent o.dst (n0 + i) v ef) = s1.ent o.dst (n0 + i) v ef := pV log2 (i + 1) _ fun k h1 h2 => by
        rw [upd_ne D (by omega)]
        exact off D hcl k (by omega) hDi (by omega)
      simp only [cond_true]
      rw [e2]
      exact ⟨J', Z, R''.put (fun k e => by rw [Co]; exact dz hdst k e) hr⟩
    · have hDb : D b = true := (bar2 i hib hi).done hcl o hoi hpre
      rw [hDb] at R'
      have hu : upd D i b = true := by rw [upd_ne D (by omega)]; exact hDb
      obtain ⟨m, rfl⟩ : ∃ m, i = b + 1 + m := ⟨i - (b + 1), by omega⟩
      have hoi2 : os2[m]? = some o := by
        have := ho
        rw [hsp, List.getElem?_append_right (by omega), show b + 1 + m - os1.length = m + 1 by omega] at this
        simpa using this
      refine um at2 t2 c2 (fun q hq hq2 => hh2 q (by omega) hq2) hcl hoi2 hDi hpre R' fun a' w' R'' => hK a' w' ?_
      rw [hu]
      exact R''
  · have hDb : D b = true := hD b (by omega)
    rw [hDb] at R'
    refine hQ a w ?_
    rw [<- t2.fold D fun k _ hk => hD k (by omega)]
    exact R'
theorem Ac {ops : Array Oper} (hd : iE ops = true) {i : Nat} {o : Oper} (ho : ops[i]? = some o) : ∀ c, o.op ≠ .defer c := fun c hc => by
  have := List.all_eq_true.1 hd o (by have := Array.mem_of_getElem? ho; simpa using this)
  rw [hc] at this; cases this
theorem agh {P : Program} {r : Option Nat} {n : Nat} {o : Oper} {a : Act} {w : World} {K : Act -> World -> Prop} {Q : Exit -> Act -> World -> Prop} {c : Prop} [Decidable c] {X : Prop} (hdo : ∀ c, o.op ≠ .defer c) (h : if c then Oper.wp P o a w K Q else X) : if c then o.wpIn (fo r) n P a w K Q else X := by
  split
  · rename_i hc
    rw [if_pos hc] at h
    exact eZ (dM _) hdo h
  · rename_i hc
    rw [if_neg hc] at h
    exact h
theorem Cb {P : Program} {id b : Nat} {ops : Array Oper} {os1 os2 : List Oper} {ob : Oper} {s s1 : AS} {log1 : Log} {w0 : World} {Z0 : Fr} {a : Act} {w : World} {Q : Exit -> AS -> Prop} (n0 : Nat) (hn0 : ∀ i, i < ops.size -> hget s.heap (n0 + i) = none) (hm : P.follows .mixedOrders = true) (hback : qz .any ops = true) (hd : iE ops = true)
    (hsp : ops.toList = os1 ++ ob :: os2) (hlb : os1.length = b) (hbar : Vh ops b = true)
    (t1 : Trace P (ops.toList.map (·.dst)) n0 0 os1 s log1 s1) (c1 : sN ops n0 0 (jf n0 0 log1) = true)
    (hg : ob.guard = none) (hdst : fE s1 ob.dst)
    (hop : zP P ob s1 fun s' => ∃ n1 log2 s2, (∀ q, b + 1 <= q -> q < ops.size -> hget s'.heap (n1 + q) = none) /\ Trace P (ops.toList.map (·.dst)) n1 (b + 1) os2 s' log2 s2 /\ sN ops n1 (b + 1) (jf n1 (b + 1) log2) = true /\ Q .normal s2)
    (R : l5 w0 Z0 s a w) {n : Nat} : (Code.region id ops true).wpIn (fo Z0.ro) n P (fun e a' w' => ∃ s', l5 w0 Z0 s' a' w' /\ Q e s') a w := by
  have hsz : ops.size = b + 1 + os2.length := by
    have := congrArg List.length hsp
    simp at this; omega
  have at1 : ∀ (k : Nat) o, os1[k]? = some o -> ops[0 + k]? = some o := fun k o hk => by
    rw [Nat.zero_add, <- Array.getElem?_toList, hsp, List.getElem?_append_left (List.getElem?_eq_some_iff.1 hk).1]; exact hk
  have at2 : ∀ (k : Nat) o, os2[k]? = some o -> ops[b + 1 + k]? = some o := fun k o hk => by
    rw [<- Array.getElem?_toList, hsp, List.getElem?_append_right (by omega), show b + 1 + k - os1.length = k + 1 by omega]; simpa using hk
  have atb : ops[b]? = some ob := by
    rw [<- Array.getElem?_toList, hsp, List.getElem?_append_right (by omega), show b - os1.length = 0 by omega]; rfl
  obtain ⟨bar1, bar2⟩ := CX hbar
  have l1 := nH t1
  have off : ∀ D, Closed .any ops D -> ∀ k, k < ops.size -> D b = false -> b <= k -> D k = false := fun D hcl k hk hDb hbk => by
    rcases Nat.eq_or_lt_of_le hbk with e | h
    · subst e; exact hDb
    · cases hDk : D k with
      | false => rfl
      | true =>
        obtain ⟨o, ho⟩ : ∃ o, ops[k]? = some o := ⟨_, Array.getElem?_eq_getElem hk⟩
        have := (bar2 k h hk).done hcl o ho (hcl k o ho hDk)
        rw [hDb] at this; cases this
  refine D5 (dM _) (fun _ D a w => bif D b then (∃ s' n1 log2 s2, ((∀ q, b + 1 <= q -> q < ops.size -> hget s'.heap (n1 + q) = none) /\ Trace P (ops.toList.map (·.dst)) n1 (b + 1) os2 s' log2 s2 /\ sN ops n1 (b + 1) (jf n1 (b + 1) log2) = true /\ Q .normal s2) /\ l5 w0 Z0 (bR n1 D (b + 1) log2 s') a w) else l5 w0 Z0 (bR n0 D 0 log1 s) a w) hm hd hback ?_ ?_ fun D a w hD R' => ?_
  · show l5 w0 Z0 (bR n0 (fun _ => false) 0 log1 s) a w.drew
    rw [jN]
    obtain ⟨J, Z, R⟩ := R
    exact ⟨J, Z, R.drew⟩
  · refine lq.of ops.toList 0 fun i o ho D a w R' hDi hpre hcl K hK => ?_
    rw [Nat.zero_add] at hDi
    simp only [Nat.zero_add] at hK
    have hoi : ops[i]? = some o := by rw [<- Array.getElem?_toList]; exact ho
    have hi : i < ops.size := (Array.getElem?_eq_some_iff.1 hoi).1
    rcases Nat.lt_trichotomy i b with hib | hib | hib
    · have hDb : D b = false := by
        cases hDb : D b with
        | false => rfl
        | true =>
          have := (bar1 i hib hi).done hcl ob atb (hcl b ob atb hDb)
          rw [hDi] at this; cases this
      rw [hDb] at R'
      have hu : upd D i b = false := by rw [upd_ne D (by omega)]; exact hDb
      have hoi1 : os1[i]? = some o := by
        have := ho
        rw [hsp, List.getElem?_append_left (by omega)] at this; exact this
      refine agh (Ac hd hoi) (um at1 t1 c1 (fun q _ hq => hn0 q hq) hcl hoi1 (by rw [Nat.zero_add]; exact hDi) hpre R' fun a' w' R'' => hK a' w' ?_)
      rw [hu]
      rw [Nat.zero_add] at R''
      exact R''
    · subst hib
      obtain rfl : o = ob := by rw [hoi] at atb; exact Option.some.inj atb
      rw [hDi] at R'
      have e1 : bR n0 D 0 log1 s = s1 := t1.fold D fun k _ hk => (bar1 k (by omega) (by omega)).done hcl o hoi hpre
      simp only [cond_false] at R'
      rw [e1] at R'
      obtain ⟨J, Z, R'⟩ := R'
      have hw : Region.wanted o (yielded ops a.tmps) = true := by simp [Region.wanted, hg]
      rw [if_pos hw]
      refine jU R' hdst hop fun s' a' w' R'' hk => hK _ _ ?_
      obtain ⟨n1, log2, s2, h1, t2, c2, hq⟩ := hk
      have l2 := nH t2
      rw [upd_same]
      have e2 : bR n1 (upd D i) (i + 1) log2 s' = s' := pV log2 (i + 1) _ fun k h1 h2 => by
        rw [upd_ne D (by omega)]
        exact off D hcl k (by omega) hDi (by omega)
      simp only [cond_true]
      exact ⟨s', n1, log2, s2, ⟨h1, t2, c2, hq⟩, by rw [e2]; exact R''⟩
    · have hDb : D b = true := (bar2 i hib hi).done hcl o hoi hpre
      rw [hDb] at R'
      obtain ⟨s', n1, log2, s2, ⟨h1, t2, c2, hq⟩, R'⟩ := R'
      have hu : upd D i b = true := by rw [upd_ne D (by omega)]; exact hDb
      obtain ⟨m, rfl⟩ : ∃ m, i = b + 1 + m := ⟨i - (b + 1), by omega⟩
      have hoi2 : os2[m]? = some o := by
        have := ho
        rw [hsp, List.getElem?_append_right (by omega), show b + 1 + m - os1.length = m + 1 by omega] at this
        simpa using this
      refine agh (Ac hd hoi) (um at2 t2 c2 (fun q hq hq2 => h1 q (by omega) hq2) hcl hoi2 hDi hpre R' fun a' w' R'' => hK a' w' ?_)
      rw [hu]
      exact ⟨s', n1, log2, s2, ⟨h1, t2, c2, hq⟩, R''⟩
  · have hDb : D b = true := hD b (by omega)
    rw [hDb] at R'
    obtain ⟨s', n1, log2, s2, ⟨h1, t2, c2, hq⟩, R'⟩ := R'
    have l2 := nH t2
    refine ⟨s2, ?_, hq⟩
    rw [<- t2.fold D fun k _ hk => hD k (by omega)]
    exact R'
def Zg (P : Program) (n0 b : Nat) (s : AS) (K : List Oper -> AS -> Prop) : List Oper -> Prop
  | [] => False
  | o :: os => o.guard = none /\ s.heap.length <= n0 + b /\ fE s o.dst /\ match nP P (n0 + b) s.ev (hget s.heap) o with
    | some (nd, v, ef) => nd /\ (s.ent o.dst (n0 + b) v ef).heap.length <= n0 + b + 1 /\ K os (s.ent o.dst (n0 + b) v ef)
    | none => False
theorem zH {P : Program} {s : AS} {Q : Exit -> AS -> Prop} {id : Nat} {ops : Array Oper} (b : Nat) (hm : P.follows .mixedOrders = true) (hback : qz .any ops = true) (hd : iE ops = true) (hbar : Vh ops b = true)
    (h : dX P (ops.toList.map (·.dst)) s.heap.length 0 (ops.toList.take b) s [] fun lg s1 => sN ops s.heap.length 0 lg = true /\ Zg P s.heap.length b s1 (fun os s' => dX P (ops.toList.map (·.dst)) s.heap.length (b + 1) os s' [] fun lg s2 => sN ops s.heap.length (b + 1) lg = true /\ Q .normal s2) (ops.toList.drop b)) : AW P (.region id ops true) s Q := fun w0 Z0 a w n R => by
  obtain ⟨log1, s1, t1, c1, hb⟩ := ji _ _ _ _ _ h
  cases hdr : ops.toList.drop b with
  | nil => rw [hdr] at hb; exact hb.elim
  | cons ob os2 =>
    rw [hdr] at hb
    obtain ⟨hg, hh, hdst, hb⟩ := hb
    have hsp : ops.toList = ops.toList.take b ++ ob :: os2 := by rw [<- hdr, List.take_append_drop]
    have hlb : (ops.toList.take b).length = b := by
      have : b < ops.toList.length := by
        refine Nat.lt_of_not_le fun hle => ?_
        rw [List.drop_of_length_le hle] at hdr
        cases hdr
      rw [List.length_take]; omega
    split at hb
    · rename_i nd v ef hop
      obtain ⟨hnd, hh2, hb⟩ := hb
      obtain ⟨log2, s2, t2, c2, hq⟩ := ji _ _ _ _ _ hb
      exact Ca s.heap.length (fun _ _ => mF _ _ (by omega)) hm hback hd hsp hlb hbar t1 (by simpa using c1) hg hdst (mF _ _ hh) hop hnd (fun q hq _ => mF _ _ (by omega)) t2 (by simpa using c2) R fun a' w' R' => ⟨s2, R', hq⟩
    · exact hb.elim
def yOp (P : Program) (s : AS) (K : List Oper -> AS -> Prop) : List Oper -> Prop
  | [] => False
  | o :: os => o.guard = none /\ fE s o.dst /\ ∀ K' : AS -> Prop, (∀ s', K os s' -> K' s') -> mh P [] o [] s K'
theorem Bp {P : Program} {s : AS} {Q : Exit -> AS -> Prop} {id : Nat} {ops : Array Oper} (b : Nat) (hm : P.follows .mixedOrders = true) (hback : qz .any ops = true) (hd : iE ops = true) (hbar : Vh ops b = true)
    (h : dX P (ops.toList.map (·.dst)) s.heap.length 0 (ops.toList.take b) s [] fun lg s1 => sN ops s.heap.length 0 lg = true /\ yOp P s1 (fun os s' => dX P (ops.toList.map (·.dst)) s'.heap.length (b + 1) os s' [] fun lg s2 => sN ops s'.heap.length (b + 1) lg = true /\ Q .normal s2) (ops.toList.drop b)) : AW P (.region id ops true) s Q := fun w0 Z0 a w n R => by
  obtain ⟨log1, s1, t1, c1, hb⟩ := ji _ _ _ _ _ h
  cases hdr : ops.toList.drop b with
  | nil => rw [hdr] at hb; exact hb.elim
  | cons ob os2 =>
    rw [hdr] at hb
    obtain ⟨hg, hdst, hb⟩ := hb
    have hsp : ops.toList = ops.toList.take b ++ ob :: os2 := by rw [<- hdr, List.take_append_drop]
    have hlb : (ops.toList.take b).length = b := by
      have : b < ops.toList.length := by
        refine Nat.lt_of_not_le fun hle => ?_
        rw [List.drop_of_length_le hle] at hdr
        cases hdr
      rw [List.length_take]; omega
    exact Cb s.heap.length (fun _ _ => mF _ _ (by omega)) hm hback hd hsp hlb hbar t1 (by simpa using c1) hg hdst (hb _ fun s' hk => by
      obtain ⟨log2, s2, t2, c2, hq⟩ := ji _ _ _ _ _ hk
      exact ⟨s'.heap.length, log2, s2, fun q _ _ => mF _ _ (by omega), t2, by simpa using c2, hq⟩) R
end Go.Sea
namespace Go.Sea
open Go.RowKit
def okB (H : List (Option (List CV))) (i : Nat) : Prop := (hget H i).isSome = true
def Vu (H : List (Option (List CV))) (e : List (Nat × AV)) : List (Nat × AV) -> Prop
  | [] => True
  | (k, v) :: r => ((lk e k = v /\ v.ok (okB H)) \/ O1 (lk e k) v) /\ Vu H e r
theorem RN {H : List (Option (List CV))} {e : List (Nat × AV)} : ∀ {r : List (Nat × AV)}, Vu H e r -> okE H e r
  | [], _ => fun p hp => by cases hp
  | (k, v) :: r, ⟨h1, h2⟩ => fun p hp => by
    rcases List.mem_cons.1 hp with rfl | hp
    · exact h1
    · exact RN h2 p hp
def Jf (H : List (Option (List CV))) (g : List (Nat × List (Nat × AV))) : List (Nat × List (Nat × AV)) -> Prop
  | [] => True
  | (f, e) :: r => Vu H (gf g f) e /\ Jf H g r
theorem Sq {H : List (Option (List CV))} {g : List (Nat × List (Nat × AV))} : ∀ {G : List (Nat × List (Nat × AV))}, Jf H g G -> ∀ f, okE H (gf g f) (gf G f)
  | [], _, f => fun p hp => by cases hp
  | (k, e) :: r, ⟨h1, h2⟩, f => by
    simp only [gf]
    split
    · rename_i h; subst h; exact RN h1
    · exact Sq h2 f
theorem Weak.lit {s : AS} {N : Nat} {E : List (Nat × AV)} {H : List (Option (List CV))} {G : List (Nat × List (Nat × AV))} {lp : LP} (hN : N = s.N) (hl : lp = s.lp) (hg : Jf H s.gh G) (h1 : Vu H s.env E) (h2 : KW (okB H) s.heap H) : Weak s ⟨E, H, N, G, lp⟩ :=
  Weak.of hN (Sq hg) hl (RN h1) h2
theorem SH {P : Program} {s : AS} {Q : Exit -> AS -> Prop} {c : Code} {ι : Type} (E : ι -> List (Nat × AV)) (G : ι -> List (Nat × List (Nat × AV))) (H : ι -> List (Option (List CV))) (I : ι -> Prop) (μ : ι -> Nat) (i0 : ι) {N : Nat} {lp : LP} (hN : N = s.N) (hl : lp = s.lp)
    (hg : Jf (H i0) s.gh (G i0)) (h1 : Vu (H i0) s.env (E i0)) (h2 : KW (okB (H i0)) s.heap (H i0)) (hi : I i0)
    (round : ∀ i, I i -> AW P c ⟨E i, H i, N, G i, lp⟩ (vU (fun s' => N = s'.N /\ lp = s'.lp /\ ∃ j, I j /\ μ j < μ i /\ Jf (H j) s'.gh (G j) /\ Vu (H j) s'.env (E j) /\ KW (okB (H j)) s'.heap (H j)) Q)) : AW P (.loop c) s Q := by
  refine VE (fun n s => ∃ i, I i /\ n = μ i /\ s = ⟨E i, H i, N, G i, lp⟩) (μ i0) ⟨_, Weak.lit hN hl hg h1 h2, i0, hi, rfl, rfl⟩ ?_
  rintro n s ⟨i, hI, rfl, rfl⟩
  refine (round i hI).mono fun e s' h => ?_
  cases e with
  | normal =>
    obtain ⟨g1, g2, j, g3, g4, g5, g6, g7⟩ := h
    exact ⟨μ j, _, g4, Weak.lit g1 g2 g5 g6 g7, j, g3, rfl, rfl⟩
  | _ => exact h
def bf (e : List (Nat × AV)) : List Nat -> List (Nat × AV)
  | [] => []
  | t :: U => (t, lk e t) :: bf e U
def bN (h : List (Option (List CV))) : List (Nat × List CV) -> List (Option (List CV))
  | [] => h
  | (i, cs) :: r => hset (bN h r) i cs
def Tn {ι : Type} (N : Nat) (lp : LP) (g : List (Nat × List (Nat × AV))) (C : ι -> List (Nat × AV)) (HC : ι -> List (Nat × List CV)) (I : ι -> Prop) (μ : ι -> Nat) (e : List (Nat × AV)) (h : List (Option (List CV))) (U : List Nat) (i j : ι) (s' : AS) : Prop :=
  N = s'.N /\ lp = s'.lp /\ g = s'.gh /\ I j /\ μ j < μ i /\ Vu (bN h (HC j)) s'.env (C j ++ bf e U) /\ KW (okB (bN h (HC j))) s'.heap (bN h (HC j))
theorem SY {P : Program} {s : AS} {Q : Exit -> AS -> Prop} {c : Code} {ι : Type} (U : List Nat) (C : ι -> List (Nat × AV)) (HC : ι -> List (Nat × List CV)) (I : ι -> Prop) (μ : ι -> Nat) (i0 : ι)
    (hg : ∀ i, I i -> Jf (bN s.heap (HC i)) s.gh s.gh)
    (h1 : Vu (bN s.heap (HC i0)) s.env (C i0 ++ bf s.env U)) (h2 : KW (okB (bN s.heap (HC i0))) s.heap (bN s.heap (HC i0))) (hi : I i0)
    (round : ∀ i, I i -> ∀ K : AS -> Prop, (∀ s' j, Tn s.N s.lp s.gh C HC I μ s.env s.heap U i j s' -> K s') -> AW P c ⟨C i ++ bf s.env U, bN s.heap (HC i), s.N, s.gh, s.lp⟩ (vU K Q)) : AW P (.loop c) s Q := by
  refine SH (fun i => C i ++ bf s.env U) (fun _ => s.gh) (fun i => bN s.heap (HC i)) I μ i0 rfl rfl (hg i0 hi) h1 h2 hi fun i hI => ?_
  refine round i hI _ fun s' j h => ?_
  obtain ⟨g1, g2, g3, g4, g5, g6, g7⟩ := h
  exact ⟨g1, g2, j, g4, g5, g3 ▸ hg j g4, g6, g7⟩
theorem all_succ {p : Nat -> Prop} {k : Nat} (h : ∀ i, i < k -> p i) (h' : p k) : ∀ i, i < k + 1 -> p i := fun i hi => by
  by_cases e : i = k
  · subst e; exact h'
  · exact h i (by omega)
theorem Bz (e : List (Nat × AV)) (t : Nat) : ∀ U : List Nat, lk (bf e U) t = .any \/ lk (bf e U) t = lk e t
  | [] => Or.inl rfl
  | u :: U => by
    simp only [bf, lk]
    split
    · rename_i h; subst h; exact Or.inr rfl
    · exact Bz e t U
theorem aR {P : Program} {s : AS} {Q : Exit -> AS -> Prop} {c : Code} (U : List Nat) (h : AW P c ⟨bf s.env U, s.heap, s.N, s.gh, s.lp⟩ Q) : AW P c s Q := fun w0 Z0 a w n ⟨J, Z, R⟩ =>
  h w0 Z0 a w n ⟨J, Z, R.nodef, R.size, R.below, R.zfrom, R.zlt, R.jlt, R.inj, R.hole, R.blk, fun t => by
    rcases Bz s.env t U with e | e
    · show bD _ _ _ _ (lk (bf s.env U) t); rw [e]; trivial
    · show bD _ _ _ _ (lk (bf s.env U) t); rw [e]; exact R.slots t, R.ghost, R.loops, R.lnd, R.ro, R.tab⟩
theorem aP {P : Program} {s : AS} {Q : Exit -> AS -> Prop} (id : Nat) (U : List Nat) {ops : Array Oper} (h : eD P (ops.toList.map (·.dst)) ops.toList ⟨bf s.env U, s.heap, s.N, s.gh, s.lp⟩ fun s' => Q .normal s') : AW P (.region id ops false) s Q := aR U (PO h)
theorem V9 (k : Nat) : ((k : Int) - 1).toNat = k - 1 := by omega
theorem XI (k : Nat) : ((k : Int) + 1).toNat = k + 1 := by omega
theorem aaE (m n : Int) : (if n < m then n else m) = min m n := by
  rw [Int.min_def]; split <;> split <;> omega
theorem ab3 (m n : Int) : (if n > m then n else m) = max m n := by
  rw [Int.max_def]; split <;> split <;> omega
end Go.Sea
namespace Go.Sea
open Go.RowKit
def IV.val : IV -> Option Value
  | .g v => if v.oneCell' then some v else none
  | _ => none
def IVs.val : List IV -> Option (List Value)
  | [] => some []
  | c :: l => match c.val, IVs.val l with
    | some v, some vs => some (v :: vs)
    | _, _ => none
def PT.val : PT -> Option Value
  | .one c => c.val
  | .agg cs => (IVs.val cs).map fun vs => .agg vs.toArray
def PTs.val : List PT -> Option (List Value)
  | [] => some []
  | c :: l => match c.val, PTs.val l with
    | some v, some vs => some (v :: vs)
    | _, _ => none
def PV.val : PV -> Option Value
  | .t x => x.val
  | .tup xs => (PTs.val xs).map fun vs => .tuple vs.toArray
theorem IV.gF {w : World} {Z : Nat -> Prop} {c : IV} {v : Value} (h : c.val = some v) : ∀ u, Rd w Z u c ↔ u = v := by
  intro u
  unfold IV.val at h
  split at h
  · split at h
    · rename_i h1
      cases h
      exact ⟨fun h => (by cases h; rfl), fun h => (by subst h; exact Rd.g _ h1)⟩
    · cases h
  · cases h
theorem IVs.gF {w : World} {Z : Nat -> Prop} : ∀ {cs : List IV} {vs : List Value}, IVs.val cs = some vs -> ∀ us, aU (Rd w Z) us cs ↔ us = vs
  | [], _, h, us => by simp only [IVs.val, Option.some.injEq] at h; subst h; cases us <;> simp [aU]
  | c :: cs, _, h, us => by
    unfold IVs.val at h
    split at h
    · rename_i v vs h1 h2
      cases h
      cases us with
      | nil => simp [aU]
      | cons u us => simp only [aU, IV.gF h1 u, IVs.gF h2 us, List.cons.injEq]
    · cases h
theorem PT.gF {w : World} {Z : Nat -> Prop} {x : PT} {v : Value} (h : x.val = some v) : ∀ u, bZ w Z u x ↔ u = v := by
  intro u
  cases x with
  | one c => exact IV.gF h u
  | agg cs =>
    simp only [PT.val, Option.map_eq_some_iff] at h
    obtain ⟨vs, h1, rfl⟩ := h
    simp only [bZ]
    constructor
    · rintro ⟨A, rfl, h⟩
      rw [IVs.gF h1] at h
      rw [<- h]
    · rintro rfl
      exact ⟨_, rfl, (IVs.gF h1 _).2 rfl⟩
theorem PTs.gF {w : World} {Z : Nat -> Prop} : ∀ {cs : List PT} {vs : List Value}, PTs.val cs = some vs -> ∀ us, aU (bZ w Z) us cs ↔ us = vs
  | [], _, h, us => by simp only [PTs.val, Option.some.injEq] at h; subst h; cases us <;> simp [aU]
  | c :: cs, _, h, us => by
    unfold PTs.val at h
    split at h
    · rename_i v vs h1 h2
      cases h
      cases us with
      | nil => simp [aU]
      | cons u us => simp only [aU, PT.gF h1 u, PTs.gF h2 us, List.cons.injEq]
    · cases h
theorem PV.gF {w : World} {Z : Nat -> Prop} {x : PV} {v : Value} (h : x.val = some v) : l8 w Z v x := by
  cases x with
  | t x => exact (PT.gF h v).2 rfl
  | tup xs =>
    simp only [PV.val, Option.map_eq_some_iff] at h
    obtain ⟨vs, h1, rfl⟩ := h
    exact ⟨_, rfl, (PTs.gF h1 _).2 rfl⟩
theorem Gd {P : Program} {k : FuncId} {args : List PT} {r : PV} {vs : List Value} {V : Value} (ha : PTs.val args = some vs) (hr : r.val = some V)
    (h : ∀ w, Tab w -> Calls P k vs.toArray w fun e w' => e = .returned V /\ Below w.heap.size w w') : au P k args r := by
  intro w Z us hZ hu hT
  have := (PTs.gF ha us.toList).1 hu
  obtain rfl : us = vs.toArray := by rw [<- this]
  exact (h w hT).mono fun e w' ⟨he, hb⟩ => ⟨V, he, hb, PV.gF hr⟩
end Go.Sea
namespace Go.Sea
open Go.RowKit
abbrev uf := Option (Prop × List PT × Bool)
def Kt (P : Program) (gs : List (Option Nat)) (d : Option Tmp) (os : List Oper) (s : AS) (K : AS -> Prop) (c : Qe) (a : uf) (t : Option (Prop × List TV)) : Prop :=
  match c with
  | .pure k => (match a with
    | some (nd, ps, own) => aM P k = true /\ nd /\ ∃ r, au P k ps r /\ (own = true -> r.flat = true) /\ eD P gs os (s.put d r.av) K
    | none => False) \/ (match t with
    | some (nd, ps) => aM P k = true /\ nd /\ ((Xg P k ps d s fun s' => eD P gs os s' K) \/ ∃ r H', mM P k ps s.heap r H' /\ eD P gs os ({ s with heap := H' }.put d r) K)
    | none => False)
  | .clo k l m => match t with
    | some (nd, ps) => aM P k = true /\ nd /\ ((∃ r H', mM P k (l.map LV.tv ++ ps ++ m.map LV.tv) s.heap r H' /\ eD P gs os ({ s with heap := H' }.put d r) K) \/ Xg P k (l.map LV.tv ++ ps ++ m.map LV.tv) d s fun s' => eD P gs os s' K)
    | none => False
  | .yld l => match t with
    | some (nd, ps) => nd /\ zK P l ps d s fun s' => eD P gs os s' K
    | none => False
  | .no => False
def abt (P : Program) (gs : List (Option Nat)) (o : Oper) (os : List Oper) (s : AS) (K : AS -> Prop) : Prop := agX P o s fun s' => eD P gs os s' K
def aN (P : Program) (gs : List (Option Nat)) (d : Option Tmp) (os : List Oper) (s : AS) (K : AS -> Prop) (c : Qe) (a : uf) (t : Option (Prop × List TV)) (F : Prop) : Prop := Kt P gs d os s K c a t \/ F
def Iz (P : Program) (gs : List (Option Nat)) (o : Oper) (os : List Oper) (s : AS) (K : AS -> Prop) : Prop := qP P o s fun s' => eD P gs os s' K
def Ef (P : Program) (gs : List (Option Nat)) (b : Bool) (d : Option Tmp) (os : List Oper) (s : AS) (K : AS -> Prop) (c : Qe) (a : uf) : Prop :=
  match c with
  | .pure k => match a with
    | some (nd, ps, own) => aM P k = true /\ (b = true -> nd) /\ ∃ r, (b = true -> au P k ps r) /\ (own = true -> r.flat = true) /\ eD P gs os (s.put d (r.av.l9 b)) K
    | none => False
  | _ => False
def splitK (P : Program) (gs : List (Option Nat)) (b : Bool) (o : Oper) (os : List Oper) (s : AS) (K : AS -> Prop) : Prop := TL P b o s fun s' => eD P gs os s' K
def bK (P : Program) (gs : List (Option Nat)) (b : Bool) (d : Option Tmp) (os : List Oper) (s : AS) (K : AS -> Prop) (c : Qe) (a : uf) (F : Prop) : Prop := Ef P gs b d os s K c a \/ F
def dA (P : Program) (gs : List (Option Nat)) (n0 i : Nat) (d : Option Tmp) (os : List Oper) (s : AS) (lg : Lg) (K : Lg -> AS -> Prop) (c : Qe) (a : uf) (t : Option (Prop × List TV)) (ft : List Nat) : Prop :=
  match c with
  | .pure k => (match a with
    | some (nd, ps, own) => aM P k = true /\ nd /\ ∃ r, au P k ps r /\ (own = true -> r.flat = true) /\ dX P gs n0 (i + 1) os (s.put d r.av) ((none, ft) :: lg) K
    | none => False) \/ (match t with
    | some (nd, ts) => aM P k = true /\ nd /\ ((∃ r j cs cs', hget s.heap j = some cs /\ j ∈ ts.flatMap TV.refs /\ Em P k ts j cs r cs' /\ dX P gs n0 (i + 1) os (s.ent d (n0 + i) r (.set j cs')) ((some j, ft) :: lg) K) ∨
      ∃ r cs, pY P k ts cs r /\ dX P gs n0 (i + 1) os (s.ent d (n0 + i) (r (n0 + i)) (.new cs)) ((some (n0 + i), ft) :: lg) K)
    | none => False)
  | _ => False
def jT (P : Program) (gs : List (Option Nat)) (n0 i : Nat) (b : Bool) (d : Option Tmp) (os : List Oper) (s : AS) (lg : Lg) (K : Lg -> AS -> Prop) (c : Qe) (a : uf) (ft : List Nat) : Prop :=
  match c with
  | .pure k => match a with
    | some (nd, ps, own) => aM P k = true /\ (b = true -> nd) /\ ∃ r, (b = true -> au P k ps r) /\ (own = true -> r.flat = true) /\ dX P gs n0 (i + 1) os (s.put d (r.av.l9 b)) ((none, ft) :: lg) K
    | none => False
  | _ => False
section
variable {P : Program} {gs : List (Option Nat)} {n0 i : Nat} {d : Option Tmp} {f : Operand} {args : Array Operand} {tys : Array TypeId} {ty : TypeId} {pos : String} {aft : Array Edge} {g : Option (Nat × Bool)} {os : List Oper} {s : AS} {lg : Lg} {K : AS -> Prop} {K' : Lg -> AS -> Prop} {b : Bool} {k : FuncId} {nd : Prop} {ps : List PT} {own : Bool} {r : PV} {ft : List Nat}
theorem NH : Iz P gs ⟨d, .call ⟨.value f, args, tys⟩, ty, pos, aft, g⟩ os s K = Kt P gs d os s K (dN (s.ev f)) (gQ s.ev (hget s.heap) args.toList) (lu s.ev args.toList) := by
  unfold Iz qP Kt
  simp only
  rfl
theorem Vx : Iz P gs ⟨d, .call ⟨.value f, args, tys⟩, ty, pos, aft, g⟩ os s K = aN P gs d os s K (dN (s.ev f)) (gQ s.ev (hget s.heap) args.toList) (lu s.ev args.toList) False := by
  rw [NH]; unfold aN; simp
theorem Wi : mh P gs ⟨d, .call ⟨.value f, args, tys⟩, ty, pos, aft, g⟩ os s K = aN P gs d os s K (dN (s.ev f)) (gQ s.ev (hget s.heap) args.toList) (lu s.ev args.toList) (abt P gs ⟨d, .call ⟨.value f, args, tys⟩, ty, pos, aft, g⟩ os s K) := by
  unfold aN
  rw [<- NH (ty := ty) (pos := pos) (aft := aft) (g := g) (tys := tys)]
  rfl
theorem Xj {c : Qe} {a : uf} {t : Option (Prop × List TV)} {o : Oper} (L : List Nat) (h1 : tO L s) (h2 : Iz P gs o os (xV L s) K) : aN P gs d os s K c a t (abt P gs o os s K) := Or.inr (Or.inl ⟨L, h1, h2⟩)
theorem Si {c : Qe} (hc : dN (s.ev f) = c) (hp : ∃ k, c = .pure k) : iT P gs b ⟨d, .call ⟨.value f, args, tys⟩, ty, pos, aft, g⟩ os s K = bK P gs b d os s K c (gQ s.ev (hget s.heap) args.toList) (splitK P gs b ⟨d, .call ⟨.value f, args, tys⟩, ty, pos, aft, g⟩ os s K) := by
  obtain ⟨k, rfl⟩ := hp
  have e : Al P b ⟨d, .call ⟨.value f, args, tys⟩, ty, pos, aft, g⟩ s (fun s' => eD P gs os s' K) = Ef P gs b d os s K (.pure k) (gQ s.ev (hget s.heap) args.toList) := by
    unfold Al Ef
    simp only [hc]
    rfl
  unfold bK
  rw [<- e]
  rfl
theorem Qt {k : FuncId} : iT P gs b ⟨d, .call ⟨.value (.func k), args, tys⟩, ty, pos, aft, g⟩ os s K = bK P gs b d os s K (.pure k) (gQ s.ev (hget s.heap) args.toList) (splitK P gs b ⟨d, .call ⟨.value (.func k), args, tys⟩, ty, pos, aft, g⟩ os s K) := Si rfl ⟨k, rfl⟩
theorem Vp {c : Qe} {a : uf} {o : Oper} (h1 : b = true -> mh P gs o os s K) (h2 : b = false -> eD P gs os (s.put o.dst .any) K) : bK P gs b d os s K c a (splitK P gs b o os s K) := Or.inr ⟨h1, h2⟩
theorem FN : sW P gs n0 i ⟨d, .call ⟨.value f, args, tys⟩, ty, pos, aft, g⟩ os s lg K' = dA P gs n0 i d os s lg K' (dN (s.ev f)) (gQ s.ev (hget s.heap) args.toList) (lu s.ev args.toList) (sI s ⟨d, .call ⟨.value f, args, tys⟩, ty, pos, aft, g⟩) := by
  unfold sW CK dA
  simp only
  cases dN (s.ev f) <;> rfl
theorem Rb {q : Tmp} : sW P gs n0 i ⟨d, .call ⟨.value (.tmp q), args, tys⟩, ty, pos, aft, g⟩ os s lg K' = dA P gs n0 i d os s lg K' (dN (s.get q)) (gQ s.ev (hget s.heap) args.toList) (lu s.ev args.toList) (sI s ⟨d, .call ⟨.value (.tmp q), args, tys⟩, ty, pos, aft, g⟩) := FN
theorem RA {k : FuncId} : sW P gs n0 i ⟨d, .call ⟨.value (.func k), args, tys⟩, ty, pos, aft, g⟩ os s lg K' = dA P gs n0 i d os s lg K' (.pure k) (gQ s.ev (hget s.heap) args.toList) (lu s.ev args.toList) (sI s ⟨d, .call ⟨.value (.func k), args, tys⟩, ty, pos, aft, g⟩) := by
  rw [FN]
  simp only [AS.ev, dN, kV, List.size_toArray, List.length_nil, and_self, if_true]
theorem PS {k : FuncId} : Dt P gs n0 i b ⟨d, .call ⟨.value (.func k), args, tys⟩, ty, pos, aft, g⟩ os s lg K' = jT P gs n0 i b d os s lg K' (.pure k) (gQ s.ev (hget s.heap) args.toList) (sI s ⟨d, .call ⟨.value (.func k), args, tys⟩, ty, pos, aft, g⟩) := by
  unfold Dt zJ jT
  simp only [AS.ev, dN, kV, List.size_toArray, List.length_nil, and_self, if_true]
  rfl
theorem WZ {F : Prop} {t : Option (Prop × List TV)} (h3 : aM P k = true) (h5 : au P k ps r) (h4 : nd) (h6 : own = true -> r.flat = true) (h7 : eD P gs os (s.put d r.av) K) : aN P gs d os s K (.pure k) (some (nd, ps, own)) t F := Or.inl (Or.inl ⟨h3, h4, r, h5, h6, h7⟩)
theorem U9 {F : Prop} {a : uf} {ps : List TV} {r : AV} {H' : List (Option (List CV))} (h3 : aM P k = true) (h5 : mM P k ps s.heap r H') (h4 : nd) (h7 : eD P gs os ({ s with heap := H' }.put d r) K) : aN P gs d os s K (.pure k) a (some (nd, ps)) F := Or.inl (Or.inr ⟨h3, h4, Or.inr ⟨r, H', h5, h7⟩⟩)
theorem bY {F : Prop} {a : uf} {ps : List TV} {fn : Func} {c : Code} (hf : P.funcs[k]? = some fn) (hb : fn.body = some c) (h3 : aM P k = true) (hl : ps.length <= fn.ntmps) (h4 : nd) (hls : iM s.lp.ls s.lp.fr)
    (h5 : ∀ K0 : AS -> Prop, (∀ s', eD P gs os s' K -> K0 s') -> AW P c ⟨ak ps 0, s.heap, fn.ntmps, (s.lp.fr, s.env) :: s.gh, ⟨s.lp.ls, s.lp.fr + 1, none⟩⟩ (TK P s.lp.fr s.N s.lp fn d K0)) : aN P gs d os s K (.pure k) a (some (nd, ps)) F :=
  Or.inl (Or.inr ⟨h3, h4, Or.inl ⟨fn, c, hf, hb, hl, hls, h5 _ fun _ h => h⟩⟩)
theorem gK {F : Prop} {a : uf} {ps : List TV} {l m : List LV} {fn : Func} {c : Code} (hf : P.funcs[k]? = some fn) (hb : fn.body = some c) (h3 : aM P k = true) (hl : (l.map LV.tv ++ ps ++ m.map LV.tv).length <= fn.ntmps) (h4 : nd) (hls : iM s.lp.ls s.lp.fr)
    (h5 : ∀ K0 : AS -> Prop, (∀ s', eD P gs os s' K -> K0 s') -> AW P c ⟨ak (l.map LV.tv ++ ps ++ m.map LV.tv) 0, s.heap, fn.ntmps, (s.lp.fr, s.env) :: s.gh, ⟨s.lp.ls, s.lp.fr + 1, none⟩⟩ (TK P s.lp.fr s.N s.lp fn d K0)) : aN P gs d os s K (.clo k l m) a (some (nd, ps)) F :=
  Or.inl ⟨h3, h4, Or.inr ⟨fn, c, hf, hb, hl, hls, h5 _ fun _ h => h⟩⟩
theorem nX {F : Prop} {a : uf} {l : Nat} {ps : List TV} {x : LS} (hx : Fj s.lp.ls l = some x) (h1 : nd) (h2 : x.ps.length = ps.length) (h3 : oI x.ps x.N) (h4 : iM s.lp.ls s.lp.fr)
    (h5 : ∀ K0 : AS -> Prop, (∀ s', eD P gs os s' K -> K0 s') -> AW P x.asg ⟨jw x.ps ps (gf s.gh x.fid), s.heap, x.N, (s.lp.fr, s.env) :: s.gh, ⟨s.lp.ls, s.lp.fr + 1, some l⟩⟩ (vU (SS P l x.body (JX l s.lp.fr s.N s.lp.ro d K0)) fun _ _ => False)) :
    aN P gs d os s K (.yld l) a (some (nd, ps)) F := by
  refine Or.inl ⟨h1, ?_⟩
  unfold zK
  rw [hx]
  exact ⟨h2, h3, h4, h5 _ fun _ h => h⟩
theorem TW {F : Prop} (h3 : aM P k = true) (h5 : b = true -> au P k ps r) (h4 : b = true -> nd) (h6 : own = true -> r.flat = true) (h7 : eD P gs os (s.put d (r.av.l9 b)) K) : bK P gs b d os s K (.pure k) (some (nd, ps, own)) F := Or.inl ⟨h3, h4, r, h5, h6, h7⟩
theorem QG {t : Option (Prop × List TV)} (h3 : aM P k = true) (h5 : au P k ps r) (h4 : nd) (h6 : own = true -> r.flat = true) (h7 : dX P gs n0 (i + 1) os (s.put d r.av) ((none, ft) :: lg) K') : dA P gs n0 i d os s lg K' (.pure k) (some (nd, ps, own)) t ft := Or.inl ⟨h3, h4, r, h5, h6, h7⟩
theorem Po (h3 : aM P k = true) (h5 : b = true -> au P k ps r) (h4 : b = true -> nd) (h6 : own = true -> r.flat = true) (h7 : dX P gs n0 (i + 1) os (s.put d (r.av.l9 b)) ((none, ft) :: lg) K') : jT P gs n0 i b d os s lg K' (.pure k) (some (nd, ps, own)) ft := ⟨h3, h4, r, h5, h6, h7⟩
end
section
variable {P : Program} {gs : List (Option Nat)} {d : Option Tmp} {t : TypeId} {x : Operand} {ty : TypeId} {pos : String} {aft : Array Edge} {g : Option (Nat × Bool)} {os : List Oper} {s : AS} {K : AS -> Prop} {e : TypeId} {i j c n : Nat} {c0 : Option Nat} {f : Int -> Option PT} {p : Int -> Prop} {q : Option Int} {k : Int}
theorem FV (h1 : Jr P t = some e) (e1 : s.ev x = .t (.one (.mp j))) (e2 : hget s.heap j = some [.mi c0 n f]) (h : ∀ c, eD P gs os ({ s with heap := hset (hset s.heap j [.mi (some c) n f]) (oO s.heap) [.mt j c (fun _ => False) none] }.put d (.t (.one (.it (oO s.heap))))) K) : mh P gs ⟨d, .range t x, ty, pos, aft, g⟩ os s K := by
  refine Or.inr (Or.inr ?_)
  unfold itF
  simp only [h1, e1, AV.tv, e2]
  exact ⟨trivial, h⟩
theorem KT (e1 : s.ev x = .t (.one (.it i))) (e2 : hget s.heap i = some [.mt j c p q]) (e3 : hget s.heap j = some [.mi (some c) n f]) (hA : (∀ k, (f k).isSome = true -> p k) -> eD P gs os (s.put d (.tup [.one (.iv (.g (.bool false)))])) K)
    (hB : ∀ k y, f k = some y -> ¬ p k -> eD P gs os ({ s with heap := hset s.heap i [.mt j c (fun q => q = k \/ p q) (some k)] }.put d (.tup [.one (.iv (.g (.bool true))), .one (.iv (.g (.int .i64 k))), y.tv])) K) : mh P gs ⟨d, .next x false, ty, pos, aft, g⟩ os s K := by
  refine Or.inr (Or.inr ?_)
  unfold itF
  simp only [e1, AV.tv, e2, e3]
  exact ⟨trivial, trivial, hA, hB⟩
theorem Jh (e1 : s.ev x = .t (.one (.it i))) (e2 : hget s.heap i = some [.mt j c p (some k)]) (e3 : hget s.heap j = some [.mi (some c) n f]) (hs : (f k).isSome = true) (h : ∀ y, f k = some y -> eD P gs os (s.put d (.tup [.one (.iv (.g (.int .i64 k))), y.tv])) K) : mh P gs ⟨d, .entry x, ty, pos, aft, g⟩ os s K := by
  refine Or.inr (Or.inr ?_)
  unfold itF
  simp only [e1, AV.tv, e2, e3]
  exact ⟨trivial, trivial, hs, h⟩
end
def aY (P : Program) (x y : Code) (s : AS) (Q : Exit -> AS -> Prop) (v : AV) : Prop := match v.tv.bind TV.bool? with
  | some b => v.nd /\ (b = true -> AW P x s Q) /\ (b = false -> AW P y s Q)
  | none => False
section
variable {P : Program} {s : AS} {Q : Exit -> AS -> Prop}
theorem aC {c : Operand} {x y : Code} (h : aY P x y s Q (s.ev c)) : AW P (.cond c x y) s Q := by
  unfold aY at h
  split at h
  · rename_i b hb
    exact Xn hb h.1 h.2.1 h.2.2
  · exact h.elim
theorem aH {x y : Code} {b : Bool} (ht : b = true -> AW P x s Q) (hf : b = false -> AW P y s Q) : aY P x y s Q (.t (.one (.iv (.g (.bool b))))) := ⟨trivial, ht, hf⟩
def aff (r : PV) (H : Hp) : Option (Prop × List TV) -> Prop
  | some (nd, l) => nd /\ match Qr H (Pb l) with
    | some (n2, v, _) => n2 /\ v.eqv r
    | none => False
  | none => False
theorem aA {fn : Func} {r : PV} (h : aff r (hget s.heap) (Ci P s fn.results.toList)) : acT P fn r .ret s := ⟨trivial, h⟩
end
end Go.Sea
namespace Go.Sea
open Go.RowKit
def Uy (l fid N : Nat) (lp : LP) (fn : Func) (Q : Exit -> AS -> Prop) (e : Exit) (s1 : AS) : Prop :=
  (match e with | .normal | .ret => True | _ => False) /\ fn.results = #[] /\ s1.lp.ls.tail = lp.ls /\ match s1.lp.ls with
    | x :: _ => x.l = l /\ x.st ≠ .busy /\ match x.pe with
      | none => Q .normal (loopS fid N lp s1)
      | some .ret => Q .ret (loopS fid N lp s1)
      | some (.exit id) => Q (.exit id) (loopS fid N lp s1)
      | some (.goto id) => Q (.goto id) (loopS fid N lp s1)
      | _ => False
    | [] => False
def Ol : AV -> Option (FuncId × List LV)
  | .t (.one (.iv (.g (.func (.func k) A B)))) => if A.size = 0 /\ B.size = 0 then some (k, []) else none
  | .t (.one (.fn (.func k) [] m)) => some (k, m)
  | _ => none
def yV (l : Nat) : TV := .one (.iv (.g (.func (.yield l) #[] #[])))
def yA (l : Nat) : Value := .func (.yield l) #[] #[]
def abI (ls : List LS) (o : Option Nat) : Prop := match o with
  | some l => (Fj ls l).isSome = true
  | none => True
section
variable {P : Program}
theorem OW {w0 : World} {Z0 : Fr} {J : Nat -> Option Nat} {Z : Nat -> Prop} {s : AS} {a : Act} {w : World} (R : Rel w0 Z0 J Z s a w) {g : Operand} {k : FuncId} {m : List LV} (h : Ol (s.ev g) = some (k, m)) : ∃ B, a.eval g = .func (.func k) #[] B /\ aU (jR w J Z) B.toList m := by
  have hx := R.ev g
  generalize s.ev g = av at h hx
  generalize a.eval g = vx at hx ⊢
  unfold Ol at h
  split at h
  · split at h
    · rename_i k' A B hs
      cases h
      have hA : A = #[] := Array.eq_empty_of_size_eq_zero hs.1
      have hB : B = #[] := Array.eq_empty_of_size_eq_zero hs.2
      subst hA hB
      cases hx
      exact ⟨#[], rfl, trivial⟩
    · cases h
  · cases h
    obtain ⟨A, B, h1, h2, h3⟩ := hx
    have hA : A = #[] := by
      apply Array.ext'
      cases hA : A.toList with
      | nil => rfl
      | cons x l => rw [hA] at h2; exact h2.elim
    subst hA
    exact ⟨B, h1, h3⟩
  · cases h
theorem run_enterLoop_inner {w : World} (fn : FuncId) (tmps : Array Value) (ps : Array Tmp) (assign body : Code) {l : Nat} {r : Loop} (h : w.heap[l]? = some (.loop r)) :
    (Instr.enterLoop fn tmps ps assign body (some l)).run P w = .ok (w.heap.size, []) (w.alloc (.loop { state := .ready, pending := none, fn, tmps, params := ps, assign, body, defers := r.defers })) := by
  unfold Instr.enterLoop
  simp only [Sem.run_bind, run_getLoop h, run_newObj_alloc, Result.andThen, Sem.run_pure]
theorem qR {w : World} (x : Obj) {b : Nat} {o : Obj} (h : w.heap[b]? = some o) : (w.alloc x).heap[b]? = some o := (Below.heap_alloc _ _ _ (Array.getElem?_eq_some_iff.1 h).1).trans h
theorem Rel.book {w0 : World} {Z0 : Fr} {J : Nat -> Option Nat} {Z : Nat -> Prop} {s : AS} {a : Act} {w : World} (R : Rel w0 Z0 J Z s a w) (o : Obj) : Rel w0 Z0 J Z s a (w.alloc o) := by
  have G : Grow (fun _ => True) w J Z (w.alloc o) J Z := ⟨fun _ _ _ h => h, fun _ h => h, fun b _ h => Below.heap_alloc _ _ _ h.lt, fun _ _ _ _ c e f h => ⟨c, qR _ h, rfl⟩, fun b o' h _ => qR _ h⟩
  refine R.step G ((Below.refl _ _).alloc R.below.size _) R.zfrom (fun b h => by have := R.zlt b h; simp; omega) (fun i b h => by have := R.jlt i b h; refine ⟨this.1, by simp; omega, this.2.2⟩) R.inj rfl R.hole (fun i cs h hne => ?_) (fun t => Or.inr ⟨rfl, AV.bM _⟩) (fun f t => Or.inr ⟨rfl, AV.bM _⟩)
  exact R.keep G h hne trivial (fun c _ => c.bM) fun b _ hb => Below.heap_alloc _ _ _ hb.lt
theorem EP {s : AS} {Q : Exit -> AS -> Prop} {g : Operand} {ps : Array Tmp} {asg body c : Code} {k : FuncId} {m : List LV} {fn : Func} (hg : Ol (s.ev g) = some (k, m)) (hf : P.funcs[k]? = some fn) (hb : fn.body = some c) (hk : aM P k = true)
    (hl : m.length + 1 <= fn.ntmps) (hro : abI s.lp.ls s.lp.ro) (hls : iM s.lp.ls s.lp.fr)
    (h : ∀ l, (∀ x, x ∈ s.lp.ls -> x.l ≠ l) -> AW P c ⟨ak (yV l :: m.map LV.tv) 0, s.heap, fn.ntmps, (s.lp.fr, s.env) :: s.gh, ⟨⟨l, .ready, none, s.lp.fr, s.N, ps.toList, asg, body⟩ :: s.lp.ls, s.lp.fr + 1, none⟩⟩ (Uy l s.lp.fr s.N s.lp fn Q)) :
    AW P (.rangeFunc g ps asg body) s Q := by
  intro w0 Z0 a w n ⟨J, Z, R⟩
  refine wpIn_rangeFunc fun fnid _ => ?_
  rw [Vg]
  obtain ⟨l, mks, W, dd, he, hL, RC, hlo, hfr⟩ : ∃ (l : Nat) (mks : List Nat) (W : World) (dd : Nat), (Instr.enterLoop fnid a.tmps ps asg body Z0.ro).run P w = .ok (l, mks.map mark) W ∧
      W.heap[l]? = some (.loop { state := .ready, pending := none, fn := fnid, tmps := a.tmps, params := ps, assign := asg, body := body, defers := dd }) ∧
      Rel w0 Z0 J Z s { a with defers := mks.map mark ++ a.defers } W /\ w0.heap.size <= l /\ ∀ x, x ∈ s.lp.ls -> x.l ≠ l := by
    have hlt : ∀ x, x ∈ s.lp.ls -> x.l < w.heap.size := fun x hx => by
      obtain ⟨_, _, _, _, h1, _⟩ := R.loops x hx
      exact (Array.getElem?_eq_some_iff.1 h1).1
    have hlow := R.below.size
    rw [<- R.ro]
    cases hr : s.lp.ro with
    | none =>
      refine ⟨w.heap.size + 1, [w.heap.size], _, w.heap.size, run_enterLoop_outer _ _ _ _ _, ?_, ?_, by omega, fun x hx => by have := hlt x hx; omega⟩
      · have := World.alloc_heap_new (w.alloc (.deferred (some []))) (.loop { state := .ready, pending := none, fn := fnid, tmps := a.tmps, params := ps, assign := asg, body := body, defers := w.heap.size })
        rwa [World.size_alloc] at this
      · have R2 := (R.book (.deferred (some []))).book (.loop { state := .ready, pending := none, fn := fnid, tmps := a.tmps, params := ps, assign := asg, body := body, defers := w.heap.size })
        obtain ⟨M, m1, m2, m3⟩ := R2.nodef
        have m3' : ∀ b, b ∈ M ++ Z0.pin -> b < w.heap.size := by
          obtain ⟨M0, n1, n2, n3⟩ := R.nodef
          obtain rfl := rD (m1.symm.trans n1)
          exact fun b hb => (Array.getElem?_eq_some_iff.1 (n3 b hb).2).1
        refine { R2 with nodef := ⟨w.heap.size :: M, by simp [m1], ?_, fun b hb => ?_⟩ }
        · rw [List.cons_append, List.nodup_cons]
          exact ⟨fun hm => by have := m3' _ hm; omega, m2⟩
        · rw [List.cons_append] at hb
          rcases List.mem_cons.1 hb with rfl | hb
          · exact ⟨hlow, qR _ (World.alloc_heap_new w _)⟩
          · exact m3 b hb
    | some l0 =>
      rw [hr] at hro
      obtain ⟨x0, hx0⟩ := Option.isSome_iff_exists.1 hro
      obtain ⟨hm0, hl0⟩ := uX hx0
      obtain ⟨fn0, tmps0, dd0, _, g1, _⟩ := R.loops x0 hm0
      rw [hl0] at g1
      refine ⟨w.heap.size, [], _, dd0, run_enterLoop_inner _ _ _ _ _ g1, World.alloc_heap_new w _, R.book _, hlow, fun x hx => by have := hlt x hx; omega⟩
  obtain ⟨B, hgv, hB⟩ := OW RC hg
  have hgv' : a.eval g = .func (.func k) #[] B := hgv
  refine ⟨l, mks.map mark, W, { target := .fn (.func k) B, args := #[yA l] }, W, k, #[yA l] ++ B, W, he, ?_, fun _ _ => (dM _).fn _, ?_, fun hx => (by rw [(dM _).depth] at hx; cases hx), (dM _).calls (callsIn_wide.1 (callsIn_of_wp_marks (F := Fence.wide) (n := 0) hf hb trivial ?_))⟩
  · simp only [resolve, hgv', yA]
    simp [go_sem]
  · have := uW (P := P) hk (#[yA l] ++ B) W
    simp [invoke, go_sem, this]
  obtain ⟨M, m1, m2, m3⟩ := RC.nodef
  have hlsf := uE hls
  let Z1 : Fr := ⟨Z0.z, fun f t => if f = s.lp.fr then a.tmps.getD t undef else Z0.g f t, none, M ++ Z0.pin⟩
  have ha : aU (bS W J Z) (#[yA l] ++ B).toList (yV l :: m.map LV.tv) := by
    simp only [Array.toList_append]
    exact ⟨Rd.g (yA l) rfl, aU.cO.2 (hB.mono fun _ _ => jR.tv)⟩
  have hlen := ha.length
  simp only [Array.length_toList, List.length_cons, List.length_map] at hlen
  have R1 : Rel w0 Z1 J Z ⟨ak (yV l :: m.map LV.tv) 0, s.heap, fn.ntmps, (s.lp.fr, s.env) :: s.gh, ⟨⟨l, .ready, none, s.lp.fr, s.N, ps.toList, asg, body⟩ :: s.lp.ls, s.lp.fr + 1, none⟩⟩ { tmps := (#[yA l] ++ B) ++ Array.replicate (fn.ntmps - (#[yA l] ++ B).size) undef, defers := [] } W := by
    refine ⟨⟨[], rfl, by simpa [Z1] using m2, fun b hb => m3 b (by simpa [Z1] using hb)⟩, ?_, RC.below, RC.zfrom, RC.zlt, RC.jlt, RC.inj, RC.hole, RC.blk, fun t => ?_, fun f t => ?_, fun y hy => ?_, ?_, rfl, RC.tab⟩
    · show _ = fn.ntmps
      simp only [Array.size_append, Array.size_replicate] at hlen ⊢; omega
    · simp only [AS.get, rC, Nat.zero_le, if_true, Nat.sub_zero]
      cases hx : (yV l :: m.map LV.tv)[t]? with
      | none => simp; trivial
      | some x =>
        obtain ⟨u, hu, hr⟩ := ha.get hx
        have : ((#[yA l] ++ B) ++ Array.replicate (fn.ntmps - (#[yA l] ++ B).size) undef).getD t undef = u := by
          rw [Array.getElem?_toList] at hu
          have hlt : t < (#[yA l] ++ B).size := (Array.getElem?_eq_some_iff.1 hu).1
          simp only [Array.getD_eq_getD_getElem?, Array.getElem?_append_left hlt, hu, Option.getD_some]
        rw [this]
        exact hr
    · rw [rQ]
      by_cases hf : f = s.lp.fr
      · simp only [Z1, if_pos hf]; exact RC.slots t
      · simp only [Z1, if_neg hf]; exact RC.ghost f t
    · rcases List.mem_cons.1 hy with rfl | hy
      · refine ⟨fnid, a.tmps, dd, hlo, ?_, RC.size, fun t => by simp only [Z1, if_true]⟩
        simpa [LS.loop] using hL
      · obtain ⟨fn', tmps', dd', k0, k1, k2, k3⟩ := RC.loops y hy
        refine ⟨fn', tmps', dd', k0, k1, k2, fun t => ?_⟩
        simp only [Z1, if_neg (hlsf y hy)]; exact k3 t
    · simp only [List.map_cons, List.nodup_cons]
      refine ⟨fun hm => ?_, RC.lnd⟩
      obtain ⟨x, hx, hx2⟩ := List.mem_map.1 hm
      exact hfr x hx hx2
  refine wpIn_mono (h l hfr w0 Z1 _ W 0 ⟨J, Z, R1⟩) fun e a1 w1 ⟨s1, R2, q⟩ => ?_
  obtain ⟨J1, Y1, R2⟩ := R2
  obtain ⟨he1, hres, htl, q⟩ := q
  have fin : LeavesInM Fence.wide 0 P fn a1.tmps (rangePost (fo Z0.ro) n P l (fun e a' w' => ∃ s', l5 w0 Z0 s' a' w' /\ Q e s') { a with defers := mks.map mark ++ a.defers }) a1.defers .returning w1 := by
    obtain ⟨M', m1', _⟩ := R2.nodef
    refine R2.leaves M' m1' fun a2 w2 R3 h2 h3 => ?_
    refine ⟨.tuple #[], by simp [results, hres], ?_⟩
    cases hs1 : s1.lp.ls with
    | nil => rw [hs1] at q; exact q.elim
    | cons x r =>
      rw [hs1] at q htl
      obtain ⟨hxl, hst, q⟩ := q
      obtain ⟨fn1, tmps1, dd1, k0, k1, k2, k3⟩ := R3.loops x (by rw [hs1]; simp)
      rw [hxl] at k0 k1
      have hnd := R3.lnd
      rw [hs1] at hnd
      simp only [List.map_cons, List.nodup_cons] at hnd
      simp only [List.tail_cons] at htl
      have G : kE (fun _ => True) w2 J1 Y1 (w2.putObj l (.loop { x.loop fn1 tmps1 dd1 with state := .exhausted })) J1 Y1 := yP k1 rfl
      have R5 : Rel w0 Z0 J1 Y1 (loopS s.lp.fr s.N s.lp s1) { a with defers := mks.map mark ++ a.defers } (w2.putObj l (.loop { x.loop fn1 tmps1 dd1 with state := .exhausted })) := by
        refine ⟨⟨M, m1, m2, fun b hb => ?_⟩, RC.size, R3.below.trans (sU k1 k0), R3.zfrom, fun c h => by rw [World.putObj_size]; exact R3.zlt c h, fun i c h => by rw [World.putObj_size]; exact R3.jlt i c h, R3.inj, R3.hole, fun i cs h hne => ?_, fun t => ?_, fun f t => ?_, fun y hy => ?_, RC.lnd, RC.ro, RC.tab⟩
        · obtain ⟨M4, _, _, n3⟩ := R3.nodef
          have := n3 b (List.mem_append_right _ hb)
          refine ⟨this.1, (World.putObj_heap_other (fun e => ?_)).trans this.2⟩
          subst e; have := this.2; rw [k1] at this; cases this
        · obtain ⟨c, h1, h2⟩ := R3.blk i cs h hne
          exact ⟨c, h1, h2.turn k1 rfl rfl⟩
        · have := R3.ghost s.lp.fr t
          simp only [Z1, if_true] at this
          exact bD.dK G (AV.bM _) this
        · show bD _ J1 Y1 _ (gk (pK s1.gh s.lp.fr) f t)
          rw [rW]
          by_cases hf : f = s.lp.fr
          · rw [if_pos hf]; trivial
          · rw [if_neg hf]
            have := R3.ghost f t
            simp only [Z1, if_neg hf] at this
            exact bD.dK G (AV.bM _) this
        · have hy' : y ∈ s.lp.ls := hy
          obtain ⟨fn', tmps', dd', p0, p1, p2, p3⟩ := R3.loops y (by rw [hs1, htl]; exact List.mem_cons_of_mem _ hy')
          refine ⟨fn', tmps', dd', p0, (World.putObj_heap_other (hfr y hy')).trans p1, p2, fun t => ?_⟩
          have := p3 t
          simpa only [Z1, if_neg (hlsf y hy')] using this
      have hend : (Instr.endLoop l).run P w2 = .ok x.pe (w2.putObj l (.loop { x.loop fn1 tmps1 dd1 with state := .exhausted })) := run_endLoop (P := P) k1 hst
      generalize hw4 : w2.putObj l (.loop { x.loop fn1 tmps1 dd1 with state := .exhausted }) = w4 at R5 hend
      refine ⟨_, w4, hend, ?_⟩
      clear hw4 hend G
      cases hpx : x.pe with
      | none => rw [hpx] at q; exact ⟨_, ⟨_, _, R5⟩, q⟩
      | some j =>
        rw [hpx] at q
        cases j <;> first | exact q.elim | exact wpIn_ret ⟨_, ⟨_, _, R5⟩, q⟩ | exact wpIn_exit ⟨_, ⟨_, _, R5⟩, q⟩ | exact wpIn_goto ⟨_, ⟨_, _, R5⟩, q⟩
  cases e <;> simp at he1 <;> exact fin
end
end Go.Sea
namespace Go.Sea
open Go.RowKit
section
variable {P : Program} {gs : List (Option Nat)} {d : Option Tmp} {t t' : TypeId} {x y : Operand} {ty : TypeId} {pos : String} {aft : Array Edge} {g : Option (Nat × Bool)} {os : List Oper} {s : AS} {K : AS -> Prop} {k k' : IntKind} {m n : Int}
theorem CS (hx : s.ev x = iA k m) (hy : s.ev y = iA k' n) (hn : 0 <= n) (h : eD P gs os (s.put d (iA k (m.fdiv (2 ^ (min n.toNat k.bits))))) K) : mh P gs ⟨d, .binOp .shr t x y t', ty, pos, aft, g⟩ os s K := by
  refine Or.inl ?_
  unfold qP
  refine ⟨rfl, ?_, .int k (m.fdiv (2 ^ (min n.toNat k.bits))), fun w => ?_, ?_⟩
  · simp [Op.operands, gv, hx, hy]
  · simp [execOp, gρ, gv, hx, hy, binOp, eqGuard, Op.shift, Int.not_lt.2 hn]
  · exact h
end
theorem fJ {P : Program} {s : AS} {Q : Exit -> AS -> Prop} {g : Operand} {ps : Array Tmp} {asg body c : Code} {k : FuncId} {m : List LV} {fn : Func} (hg : Ol (s.ev g) = some (k, m)) (hf : P.funcs[k]? = some fn) (hb : fn.body = some c) (hk : aM P k = true)
    (hl : m.length + 1 <= fn.ntmps) (hro : abI s.lp.ls s.lp.ro) (hls : iM s.lp.ls s.lp.fr)
    (h : ∀ l, (∀ x, x ∈ s.lp.ls -> x.l ≠ l) -> ∀ A B : Code, A = asg -> B = body -> AW P c ⟨ak (yV l :: m.map LV.tv) 0, s.heap, fn.ntmps, (s.lp.fr, s.env) :: s.gh, ⟨⟨l, .ready, none, s.lp.fr, s.N, ps.toList, A, B⟩ :: s.lp.ls, s.lp.fr + 1, none⟩⟩ (Uy l s.lp.fr s.N s.lp fn Q)) :
    AW P (.rangeFunc g ps asg body) s Q := EP hg hf hb hk hl hro hls fun l hl' => h l hl' asg body rfl rfl
theorem Bw {P : Program} {s : AS} {Q : Exit -> AS -> Prop} {A c : Code} (e : A = c) (h : AW P c s Q) : AW P A s Q := e ▸ h
end Go.Sea
namespace Go.Sea
open Go.RowKit
structure Need (p : Prop) : Prop where
  out : p
structure Told (p : Prop) : Prop where
  out : p
section
variable {P : Program} {gs : List (Option Nat)} {n0 i : Nat} {d : Option Tmp} {os : List Oper} {s : AS} {lg : Lg} {K : AS -> Prop} {K' : Lg -> AS -> Prop} {b : Bool} {k : FuncId} {nd : Prop} {ps : List PT} {own : Bool} {r : PV} {ft : List Nat}
theorem aj {F : Prop} {t : Option (Prop × List TV)} (h3 : aM P k = true) (h5 : au P k ps r) (h4 : Need nd) (h7 : eD P gs os (s.put d r.av) K) (h6 : own = true -> r.flat = true := by first | (intro h; cases h; done) | (intro _; rfl)) : aN P gs d os s K (.pure k) (some (nd, ps, own)) t F := WZ h3 h5 h4.out h6 h7
theorem aQ {F : Prop} (h3 : aM P k = true) (h5 : b = true -> au P k ps r) (h4 : Need (b = true -> nd)) (h7 : eD P gs os (s.put d (r.av.l9 b)) K) (h6 : own = true -> r.flat = true := by first | (intro h; cases h; done) | (intro _; rfl)) : bK P gs b d os s K (.pure k) (some (nd, ps, own)) F := TW h3 h5 h4.out h6 h7
theorem aV {t : Option (Prop × List TV)} (h3 : aM P k = true) (h5 : au P k ps r) (h4 : Need nd) (h7 : dX P gs n0 (i + 1) os (s.put d r.av) ((none, ft) :: lg) K') (h6 : own = true -> r.flat = true := by first | (intro h; cases h; done) | (intro _; rfl)) : dA P gs n0 i d os s lg K' (.pure k) (some (nd, ps, own)) t ft := QG h3 h5 h4.out h6 h7
theorem fZ (h3 : aM P k = true) (h5 : b = true -> au P k ps r) (h4 : Need (b = true -> nd)) (h7 : dX P gs n0 (i + 1) os (s.put d (r.av.l9 b)) ((none, ft) :: lg) K') (h6 : own = true -> r.flat = true := by first | (intro h; cases h; done) | (intro _; rfl)) : jT P gs n0 i b d os s lg K' (.pure k) (some (nd, ps, own)) ft := Po h3 h5 h4.out h6 h7
theorem CJ {F : Prop} {a : uf} {ps : List TV} {r : AV} {H' : List (Option (List CV))} (h3 : aM P k = true) (h5 : mM P k ps s.heap r H') (h4 : Need nd) (h7 : eD P gs os ({ s with heap := H' }.put d r) K) : aN P gs d os s K (.pure k) a (some (nd, ps)) F := U9 h3 h5 h4.out h7
theorem eO {a : uf} {o : Oper} (h1 : b = true -> mh P gs o os s K) (h2 : b = false -> eD P gs os (s.put o.dst .any) K) : bK P gs b d os s K (.pure k) a (splitK P gs b o os s K) := Vp h1 h2
theorem GA {a : uf} {t : Option (Prop × List TV)} {o : Oper} (L : List Nat) (h1 : Need (tO L s)) (h2 : Iz P gs o os (xV L s) K) : aN P gs d os s K (.pure k) a t (abt P gs o os s K) := Xj L h1.out h2
end
theorem Dr {P : Program} {c : Code} {s : AS} {Q : Exit -> AS -> Prop} (L : List Nat) (h1 : Need (tO L s)) (h2 : AW P c (xV L s) Q) : AW P c s Q := fun w0 Z0 a w n R => h2 w0 Z0 a w n (l5.xV L R h1.out)
theorem aL {P : Program} {s : AS} {Q : Exit -> AS -> Prop} {c : Code} {ι : Type} (U : List Nat) (C : ι -> List (Nat × AV)) (HC : ι -> List (Nat × List CV)) (I : ι -> Prop) (μ : ι -> Nat) (i0 : ι)
    (hg : ∀ i, I i -> Told (Jf (bN s.heap (HC i)) s.gh s.gh))
    (h1 : Told (Vu (bN s.heap (HC i0)) s.env (C i0 ++ bf s.env U))) (h2 : Told (KW (okB (bN s.heap (HC i0))) s.heap (bN s.heap (HC i0)))) (hi : I i0)
    (round : ∀ i, I i -> ∀ K : AS -> Prop, (∀ s' j, Told (Tn s.N s.lp s.gh C HC I μ s.env s.heap U i j s') -> K s') -> AW P c ⟨C i ++ bf s.env U, bN s.heap (HC i), s.N, s.gh, s.lp⟩ (vU K Q)) : AW P (.loop c) s Q :=
  SY U C HC I μ i0 (fun i h => (hg i h).out) h1.out h2.out hi fun i h K hK => round i h K fun s' j h' => hK s' j h'.out
theorem jc (i : Nat) {l : List CV} (h : ∀ c, c ∈ l -> kg c) : List.map (CV.bW i) l = l := by
  refine (List.map_congr_left fun c hc => ?_).trans (List.map_id l)
  have := h c hc
  cases c <;> first | rfl | exact this.elim
end Go.Sea
namespace Go.Sea
open Go.RowKit
section
variable {P : Program} {gs : List (Option Nat)} {n0 i : Nat} {d : Option Tmp} {t t' : TypeId} {x y : Operand} {ty : TypeId} {pos : String} {aft : Array Edge} {g : Option (Nat × Bool)} {os : List Oper} {s : AS} {K : AS -> Prop} {lg : Lg} {K' : Lg -> AS -> Prop} {k k' : IntKind} {m n : Int}
theorem wF (hx : s.ev x = iA k m) (hy : s.ev y = iA k' n) (hn : 0 <= n) (h : eD P gs os (s.put d (iA k (k.wrap (m * 2 ^ (min n.toNat k.bits))))) K) : mh P gs ⟨d, .binOp .shl t x y t', ty, pos, aft, g⟩ os s K := by
  refine Or.inl ?_
  unfold qP
  refine ⟨rfl, ?_, .int k (k.wrap (m * 2 ^ (min n.toNat k.bits))), fun w => ?_, ?_⟩
  · simp [Op.operands, gv, hx, hy]
  · simp [execOp, gρ, gv, hx, hy, binOp, eqGuard, Op.shift, Int.not_lt.2 hn]
  · exact h
theorem Bo (hx : s.ev x = iA k m) (hy : s.ev y = iA k' n) (hn : 0 <= n) (h : dX P gs n0 (i + 1) os (s.ent d (n0 + i) (iA k (k.wrap (m * 2 ^ (min n.toNat k.bits)))) .nop) ((none, sI s ⟨d, .binOp .shl t x y t', ty, pos, aft, g⟩) :: lg) K') : sW P gs n0 i ⟨d, .binOp .shl t x y t', ty, pos, aft, g⟩ os s lg K' := by
  unfold sW CK
  refine ⟨rfl, ?_, .int k (k.wrap (m * 2 ^ (min n.toNat k.bits))), fun w => ?_, ?_⟩
  · simp [Op.operands, gv, hx, hy]
  · simp [execOp, gρ, gv, hx, hy, binOp, eqGuard, Op.shift, Int.not_lt.2 hn]
  · exact h
end
def EI (f : Nat -> IV) (n : Nat) : List CV := (List.range n).map fun j => .iv (f j)
section
variable (f g : Nat -> IV) (n m k i : Nat)
theorem Ml : ∀ c, c ∈ EI f n -> kg c := by
  intro c hc
  obtain ⟨j, _, rfl⟩ := List.mem_map.1 hc
  trivial
theorem QC : List.map (CV.bW i) (EI f n) = EI f n := jc i (Ml f n)
end
theorem bS.pt {w : World} {J : Nat -> Option Nat} {Z : Nat -> Prop} {v : Value} {x : PT} (h : bS w J Z v x.tv) : bZ w Z v x := by
  cases x with
  | one c => exact h
  | agg cs => obtain ⟨A, e, h⟩ := h; exact ⟨A, e, (aU.cO (R := bQ w J Z) (f := CV.iv)).1 h⟩
theorem pY.eqv {P : Program} {k : FuncId} {args args' : List PT} {cs : List CV} {r : Nat -> AV} (h : pY P k (args.map PT.tv) cs r) (ha : aU PT.eqv args' args) : pY P k (args'.map PT.tv) cs r := by
  intro H i hH w0 Z0 J Z s a w vs R hs hv
  refine h H i hH w0 Z0 J Z s a w vs R hs ?_
  have h1 : aU (bZ w Z) vs.toList args' := (aU.cO.1 hv).mono fun _ _ h => bS.pt h
  have h2 : aU (bZ w Z) vs.toList args := aU.Ag (S := PT.eqv) (T := bZ w Z) (fun _ _ _ h he => bZ.eqv h he) h1 ha
  exact aU.cO.2 (h2.mono fun _ _ h => bZ.tv h)
def ajG (n : Nat) : List CV := List.replicate n .any
theorem yS {ok : Nat -> Prop} : ∀ {l : List CV} {n : Nat}, l.length = n -> V7 ok l (ajG n)
  | [], _, rfl => trivial
  | c :: l, _, rfl => ⟨Or.inl rfl, yS (l := l) rfl⟩
end Go.Sea
namespace Go.Sea
open Go.RowKit
def zi : List Oper -> Nat -> Option Oper
  | [], _ => none
  | o :: _, 0 => some o
  | _ :: os, k + 1 => zi os k
theorem I9 : ∀ (os : List Oper) (i : Nat), zi os i = os[i]?
  | [], _ => by simp [zi]
  | _ :: _, 0 => by simp [zi]
  | _ :: os, k + 1 => by simp [zi, I9 os k]
theorem aaC (o : Oper) (os : List Oper) : zi (o :: os) 0 = some o := rfl
theorem aaV (o : Oper) (os : List Oper) (k : Nat) : zi (o :: os) (k + 1) = zi os k := rfl
def Hq (P : Program) (n0 i : Nat) (s : AS) (K : AS -> Prop) : Option Oper -> Prop
  | some o => o.guard = none /\ match nP P (n0 + i) s.ev (hget s.heap) o with
    | some (nd, v, ef) => hget s.heap (n0 + i) = none /\ fE s o.dst /\ nd /\ K (s.ent o.dst (n0 + i) v ef)
    | none => False
  | none => False
theorem Hq.mono {P : Program} {n0 i : Nat} {s : AS} {K K' : AS -> Prop} (hk : ∀ s, K s -> K' s) : ∀ {o : Option Oper}, Hq P n0 i s K o -> Hq P n0 i s K' o
  | none, h => h
  | some o, ⟨hg, h⟩ => by
    refine ⟨hg, ?_⟩
    split at h
    · exact ⟨h.1, h.2.1, h.2.2.1, hk _ h.2.2.2⟩
    · exact h
structure Leaf (a b : AS) : Prop where
  out : a = b
theorem PW (P : Program) (n0 i : Nat) (s : AS) (K : AS -> Prop) (o : Oper) : Hq P n0 i s K (some o) = (o.guard = none /\ match nP P (n0 + i) s.ev (hget s.heap) o with
    | some (nd, v, ef) => hget s.heap (n0 + i) = none /\ fE s o.dst /\ nd /\ K (s.ent o.dst (n0 + i) v ef)
    | none => False) := rfl
end Go.Sea
namespace Go.Sea
open Go.RowKit Go.Sea
attribute [go_sem] Wi gf gk pK Fj Cc iM oI aaR SS JX EW Uy loopS RY abI yV yA bAV jw tq List.tail_cons Option.isNone_none Option.isNone_some Qt RA PS aff LX Tw JN JV Ql Um Qu Pq FH Ia MN NW Nu AS.ent Eff.eF Eff.tgt sI AV.refs TV.refs CV.refs LV.refs Op.operands Call.operands List.append_toArray List.push_toArray List.flatMap_cons List.flatMap_nil List.toList_toArray Option.toArray oO Gn List.reverse_cons List.reverse_nil nP AS.ev sS lk AS.get AV.tv AV.nd AS.Ce AS.put ak PT.tv PV.av AV.l9 hset hget TV.cells fE vU gB isB toB TV.bool? TV.int? YT sH pI DT Dv Uj ED j5 Gm vV dI oN nV jA xW TV.lv LV.tv qC gN mQ AV.bW CV.bW AV.has TV.has CV.has LV.has dN gQ lu xQ Fz uT CQ Qr Fu kg iA bA List.map_cons List.map_nil List.length_nil List.length_cons List.getElem?_cons_zero List.getElem?_cons_succ List.getElem?_nil Option.getD_some Option.getD_none Option.bind_some Option.bind_none List.take_succ_cons List.take_zero List.drop_succ_cons List.drop_zero List.take_nil List.drop_nil List.cons_append List.nil_append List.append_nil List.getD_cons_zero List.getD_cons_succ Option.map_some Option.map_none Option.isSome_some Option.isSome_none List.size_toArray List.any_cons List.any_nil List.mem_cons if_true if_false ite_true ite_false cond_true cond_false Nat.zero_add Nat.add_zero Nat.sub_zero Nat.le_refl Nat.zero_mul Nat.mul_zero Nat.one_mul Nat.mul_one Int.toNat_zero Int.toNat_natCast Bool.or_false Bool.false_or Bool.or_true Bool.true_or Bool.and_true Bool.true_and Bool.and_false Bool.false_and beq_self_eq_true beq_true beq_false Bool.not_true Bool.not_false and_true true_and and_false false_and and_self imp_self Bool.cond_false_right Bool.cond_true_left implies_true forall_const true_implies false_implies Option.some.injEq Prod.mk.injEq ne_eq not_false_eq_true not_true_eq_false eq_self Nat.lt_irrefl Nat.not_lt_zero PW aaC aaV Vq yOp qy TH Dq AA Kk sF Hr Ai H8 Lv Kh z8 OJ TB OG Aw wO ncF yQ Sk sP BF ug Dk Rb kV eqN Zg boF aaE ab3 V9 XI Value.bool.injEq Value.int.injEq Ch iD TV.dp IV.eqv PT.eqv PV.eqv aU bf bN Vx AS.xC AS.Yk xV tO Ho JG Qo QT mJ P9 XQ hdel ng eqF eqC Qd kU eqV decide_true Ci Pb TK Vu Jf Tn KW V7 ZK O1 OH AV.ok TV.ok CV.ok LV.ok okB forall_eq_or_imp forall_eq List.not_mem_nil List.mem_singleton true_or or_true or_false false_or or_self exists_prop AV.t.injEq TV.one.injEq CV.iv.injEq IV.g.injEq TV.agg.injEq List.cons.injEq
theorem zB : (∀ a b : Bool, ((a && b) = true) = (a = true /\ b = true)) /\ (∀ a b : Bool, ((a || b) = true) = (a = true \/ b = true)) /\ (∀ a : Bool, ((!a) = true) = (a = false)) /\ (∀ a b : Bool, (a && b) = false ↔ a = false \/ b = false) /\ (∀ a b : Bool, (a || b) = false ↔ a = false /\ b = false) /\ (∀ (p : Prop) [Decidable p], (decide p = true) = p) /\ (∀ (p : Prop) [Decidable p], decide p = false ↔ ¬ p) /\ (∀ a : Bool, ((!a) = false) = (a = true)) /\ (∀ a : Bool, (!!a) = a) /\ (∀ a b : Int, ¬ a <= b ↔ b < a) /\ (∀ a b : Int, ¬ a < b ↔ b <= a) :=
  ⟨Bool.and_eq_true, Bool.or_eq_true, Bool.not_eq_true', @Bool.and_eq_false_iff, @Bool.or_eq_false_iff, @decide_eq_true_eq, @decide_eq_false_iff_not, Bool.not_eq_false', Bool.not_not, @Int.not_le, @Int.not_lt⟩
theorem zC {α : Type} [BEq α] [LawfulBEq α] (a b : α) : ((a != b) = true ↔ a ≠ b) /\ ((a == b) = true ↔ a = b) /\ ((a != b) = false ↔ a = b) /\ ((a == b) = false ↔ a ≠ b) := ⟨bne_iff_ne, beq_iff_eq, bne_eq_false_iff_eq, beq_eq_false_iff_ne⟩
theorem zM {α β : Type} (f : α -> β) : (∀ a l, List.map f (a :: l) = f a :: List.map f l) /\ List.map f [] = [] := ⟨fun _ _ => rfl, rfl⟩
theorem zN {α : Type} : (∀ (a : α) l m, a :: l ++ m = a :: (l ++ m)) /\ (∀ l : List α, [] ++ l = l) := ⟨fun _ _ _ => rfl, fun _ => rfl⟩
end Go.Sea
set_option maxRecDepth 100000
set_option maxHeartbeats 4000000
namespace Go.Proofs.YtmnejmpjmniiiaaGreatDoor
open Go.RowKit Go.Sea
open Nat renaming reduceAdd -> xA, reduceLT -> xL, reduceLeDiff -> xD, reduceEqDiff -> xE, reduceMul -> xM, reduceSub -> xS, reduceBEq -> xB
theorem Ig : aM Tryz.prog 114 = true := by kernel_rfl
theorem aaJ : fF Tryz.prog 220 = true := by kernel_rfl
theorem RD : dB Tryz.prog 220 0 = some 0 := by kernel_rfl
theorem Rp : dB Tryz.prog 220 1 = some 1 := by kernel_rfl
theorem Yn : dB Tryz.prog 62 0 = some 0 := by kernel_rfl
theorem Xr : dB Tryz.prog 62 1 = some 1 := by kernel_rfl
theorem UC : cZ Tryz.prog 220 0 = some (0, 1) := by kernel_rfl
theorem SX : cZ Tryz.prog 220 1 = some (1, 1) := by kernel_rfl
theorem abh : mU Tryz.prog 220 = some (true, 2) := by kernel_rfl
theorem ajn : mU Tryz.prog 3 = some (false, 1) := by kernel_rfl
theorem ad2 : eX Tryz.prog 220 = some [.iv (.g (.int .i64 0)), .iv (.g (.int .i64 0))] := by kernel_rfl
attribute [go_sem] Ig aaJ RD Rp Yn Xr UC SX abh ajn ad2
def dJ (x y : Int) : Bool := decide ((-1000000 <= x /\ x <= 1000000) /\ (-1000000 <= y /\ y <= 1000000))
theorem oP {x y : Int} : dJ x y = true ↔ ((-1000000 <= x /\ x <= 1000000) /\ (-1000000 <= y /\ y <= 1000000)) := decide_eq_true_iff
def crs (ax ay bx by' cx cy : Int) : Int := (bx - ax) * (cy - ay) - (by' - ay) * (cx - ax)
def Bd (z : Int) : Int := if z > 0 then 1 else if z < 0 then -1 else 0
def Kv (ax ay bx by' cx cy : Int) : Int := Bd (crs ax ay bx by' cx cy)
theorem j6 {u v M : Int} (hu : -M <= u /\ u <= M) (hv : -M <= v /\ v <= M) : -(M * M) <= u * v /\ u * v <= M * M := by
  have hM : 0 <= M := by omega
  have h1 : u.natAbs <= M.toNat := by omega
  have h2 : v.natAbs <= M.toNat := by omega
  have h3 : (u * v).natAbs <= M.toNat * M.toNat := by rw [Int.natAbs_mul]; exact Nat.mul_le_mul h1 h2
  have h4 : ((M.toNat * M.toNat : Nat) : Int) = M * M := by rw [Int.natCast_mul, Int.toNat_of_nonneg hM]
  omega
theorem Zo (z : Int) : Bd z = -1 \/ Bd z = 0 \/ Bd z = 1 := by unfold Bd; split <;> first | omega | (split <;> omega)
theorem ad6 (z : Int) : -1 <= Bd z /\ Bd z <= 1 := by rcases Zo z with h | h | h <;> rw [h] <;> decide
theorem qj (ax ay bx by' cx cy : Int) : -1 <= Kv ax ay bx by' cx cy /\ Kv ax ay bx by' cx cy <= 1 := ad6 _
def Zx (px py ax ay bx by' : Int) : Bool := decide (Kv ax ay bx by' px py = 0 /\ min ax bx <= px /\ px <= max ax bx /\ min ay by' <= py /\ py <= max ay by')
def pG (ax ay bx by' cx cy dx dy : Int) : Bool := decide (Kv ax ay bx by' cx cy * Kv ax ay bx by' dx dy < 0 /\ Kv cx cy dx dy ax ay * Kv cx cy dx dy bx by' < 0) || (Zx ax ay cx cy dx dy || Zx bx by' cx cy dx dy || Zx cx cy ax ay bx by' || Zx dx dy ax ay bx by')
theorem tN {ax ay bx by' cx cy : Int} (ha : dJ ax ay = true) (hb : dJ bx by' = true) (hc : dJ cx cy = true) : (-4000000000000 <= (bx - ax) * (cy - ay) /\ (bx - ax) * (cy - ay) <= 4000000000000) /\ (-4000000000000 <= (by' - ay) * (cx - ax) /\ (by' - ay) * (cx - ax) <= 4000000000000) := by
  rw [oP] at ha hb hc
  have h1 := j6 (u := bx - ax) (v := cy - ay) (M := 2000000) (by omega) (by omega)
  have h2 := j6 (u := by' - ay) (v := cx - ax) (M := 2000000) (by omega) (by omega)
  omega
theorem xI (x y : Int) : au Tryz.prog 140 [.agg [.g (.int .i64 (x)), .g (.int .i64 (y))]] (.t (.one (.g (.bool (dJ x y))))) := by
  refine ah Tryz.func140 rfl (by rw [Tryz.ntmps140]; simp) ?_
  simp only [Tryz.ntmps140, zM, PT.tv, ak, Nat.zero_add, Nat.reduceAdd]
  repeat' (first
 | ((with_reducible show AW _ _ _ _); first
 | (with_reducible first | refine aS (fun K hK => ?_) | refine aT ?_)
 | (first
 | (with_reducible first | refine aP 0 [0] ?_ | refine aP 1 [1] ?_)))
 | (with_reducible refine aA ?_)
 | ((fail_if_success (with_reducible show AW _ _ _ _)); simp (maxSteps := 2000000) only [go_sem, reduceIte, reduceCtorEq, xA, xL, xD, xE, xM, xS, xB, Tryz.f140, dJ])
 | ((with_reducible refine hK _ ?_); clear hK K))
  all_goals ((try refine Bool.eq_iff_iff.2 ?_); (simp only [Bool.and_eq_true, Bool.or_eq_true, Bool.not_eq_true', decide_eq_true_eq, decide_eq_false_iff_not, bne_iff_ne, beq_iff_eq, ne_eq, ge_iff_le, gt_iff_lt, cond_eq_ite, iff_self, eq_self]; omega))
theorem Ee (x y : Int) : au Tryz.prog 128 [.agg [.g (.int .i64 (x)), .g (.int .i64 (y))]] (.t (.one (.g (.bool (dJ x y))))) := by
  refine ah Tryz.func128 rfl (by rw [Tryz.ntmps128]; simp) ?_
  simp only [Tryz.ntmps128, zM, PT.tv, ak, Nat.zero_add, Nat.reduceAdd]
  repeat' (first
 | ((with_reducible show AW _ _ _ _); first
 | (with_reducible first | refine aS (fun K hK => ?_) | refine aT ?_)
 | (first
 | (with_reducible first | refine aP 0 [0] ?_ | refine aP 1 [1] ?_)))
 | (with_reducible refine aA ?_)
 | ((fail_if_success (with_reducible show AW _ _ _ _)); simp (maxSteps := 2000000) only [go_sem, reduceIte, reduceCtorEq, xA, xL, xD, xE, xM, xS, xB, Tryz.f128, dJ])
 | ((with_reducible refine hK _ ?_); clear hK K))
  all_goals ((try refine Bool.eq_iff_iff.2 ?_); (simp only [Bool.and_eq_true, Bool.or_eq_true, Bool.not_eq_true', decide_eq_true_eq, decide_eq_false_iff_not, bne_iff_ne, beq_iff_eq, ne_eq, ge_iff_le, gt_iff_lt, cond_eq_ite, iff_self, eq_self]; omega))
theorem QI (ax ay bx by' : Int) (ha : dJ ax ay = true) (hb : dJ bx by' = true) : au Tryz.prog 210 [.agg [.g (.int .i64 (ax)), .g (.int .i64 (ay))], .agg [.g (.int .i64 (bx)), .g (.int .i64 (by'))]] (.t (.agg [.g (.int .i64 (bx - ax)), .g (.int .i64 (by' - ay))])) := by
  have hA := oP.1 ha
  have hB := oP.1 hb
  refine ah Tryz.func210 rfl (by rw [Tryz.ntmps210]; simp) ?_
  simp only [Tryz.ntmps210, zM, PT.tv, ak, Nat.zero_add, Nat.reduceAdd]
  repeat' (first
 | ((with_reducible show AW _ _ _ _); first
 | (with_reducible first | refine aS (fun K hK => ?_) | refine aT ?_)
 | (first
 | (with_reducible first | refine aP 0 [0,1] ?_ | refine aP 1 [2,3,4] ?_)))
 | (with_reducible refine aA ?_)
 | ((fail_if_success (with_reducible show AW _ _ _ _)); simp (maxSteps := 2000000) only [go_sem, reduceIte, reduceCtorEq, xA, xL, xD, xE, xM, xS, xB, Tryz.f210])
 | ((fail_if_success (with_reducible show AW _ _ _ _)); simp (disch := omega) only [aJ, dG, dH])
 | ((with_reducible refine hK _ ?_); clear hK K))
theorem Yr (u v x y : Int) (h1 : -4000000000000 <= u * y /\ u * y <= 4000000000000) (h2 : -4000000000000 <= v * x /\ v * x <= 4000000000000) : au Tryz.prog 211 [.agg [.g (.int .i64 (u)), .g (.int .i64 (v))], .agg [.g (.int .i64 (x)), .g (.int .i64 (y))]] (.t (.one (.g (.int .i64 (u * y - v * x))))) := by
  refine ah Tryz.func211 rfl (by rw [Tryz.ntmps211]; simp) ?_
  simp only [Tryz.ntmps211, zM, PT.tv, ak, Nat.zero_add, Nat.reduceAdd]
  repeat' (first
 | ((with_reducible show AW _ _ _ _); first
 | (with_reducible first | refine aS (fun K hK => ?_) | refine aT ?_)
 | (first
 | (with_reducible first | refine aP 0 [0,1] ?_ | refine aP 1 [2,3] ?_)))
 | (with_reducible refine aA ?_)
 | ((fail_if_success (with_reducible show AW _ _ _ _)); simp (maxSteps := 2000000) only [go_sem, reduceIte, reduceCtorEq, xA, xL, xD, xE, xM, xS, xB, Tryz.f211])
 | ((fail_if_success (with_reducible show AW _ _ _ _)); simp (disch := omega) only [aJ, dG, dH])
 | ((with_reducible refine hK _ ?_); clear hK K))
theorem af0 (x : Int) : au Tryz.prog 114 [.one (.g (.int .i64 (x)))] (.t (.one (.g (.bool (false))))) := by
  refine ah Tryz.func114 rfl (by rw [Tryz.ntmps114]; simp) ?_
  simp only [Tryz.ntmps114, zM, PT.tv, ak, Nat.zero_add, Nat.reduceAdd]
  repeat' (first
 | ((with_reducible show AW _ _ _ _); first
 | (with_reducible first | refine aS (fun K hK => ?_) | refine aT ?_)
 | (first
 | (with_reducible first | refine aP 0 [0] ?_ | refine aP 1 [0] ?_)))
 | (with_reducible refine aA ?_)
 | ((fail_if_success (with_reducible show AW _ _ _ _)); simp (maxSteps := 2000000) only [go_sem, reduceIte, reduceCtorEq, xA, xL, xD, xE, xM, xS, xB, Tryz.f114])
 | ((with_reducible refine hK _ ?_); clear hK K))
  all_goals simp
theorem Ju (x y : Int) : au Tryz.prog 88 [.one (.g (.int .i64 (x))), .one (.g (.int .i64 (y)))] (.t (.one (.g (.int .i64 (if x < y then -1 else if y < x then 1 else 0))))) := by
  refine ah Tryz.func88 rfl (by rw [Tryz.ntmps88]; simp) ?_
  simp only [Tryz.ntmps88, zM, PT.tv, ak, Nat.zero_add, Nat.reduceAdd]
  repeat' (first
 | ((with_reducible show AW _ _ _ _); first
 | (with_reducible first | refine aS (fun K hK => ?_) | refine aI ?_ | refine aT ?_ | refine aC ?_)
 | (first
 | (with_reducible first | refine aP 0 [0,1] ?_ | refine aP 1 [0,1] ?_ | refine aP 2 [0,1,5] ?_ | refine aP 3 [0,1,5,6] ?_ | refine aP 7 [0,1,6] ?_ | refine aP 9 [0,1] ?_ | refine aP 10 [] ?_ | refine aP 11 [0,1] ?_ | refine aP 12 [] ?_ | refine aP 13 [] ?_)))
 | (((with_reducible refine Need.mk ?_)); focus (exact True.intro))
 | (with_reducible refine aA ?_)
 | ((with_reducible show aY _ _ _ _ _ _); first
 | ((with_reducible refine aH ?_ ?_) <;> (intro hc; (try simp only [zB, zC, reduceCtorEq] at hc); (try (exfalso; contradiction)))))
 | ((with_reducible show aN _ _ _ _ _ _ _ _ _ _); first
 | (refine aj (k := 114) Ig (af0 _) ?_ ?_))
 | ((fail_if_success (with_reducible show AW _ _ _ _)); simp (maxSteps := 2000000) only [go_sem, reduceIte, reduceCtorEq, xA, xL, xD, xE, xM, xS, xB, Tryz.f88])
 | ((with_reducible refine hK _ ?_); clear hK K))
  all_goals (first | (simp_all; done) | (split <;> omega))
end Go.Proofs.YtmnejmpjmniiiaaGreatDoor
