/- Part 6 of 17: contracts of functions and plain laws for the root text. No condition. -/
import Derived.Test.YtcfechepbamhkaaGreatX01
import Derived.Test.YtcfechepbamhkaaGreatX02
import Derived.Test.YtcfechepbamhkaaGreatX03
import Derived.Test.YtcfechepbamhkaaGreatX04
import Derived.Test.YtcfechepbamhkaaGreatX05
import Derived.Test.YtcfechepbamhkaaGreatProg
set_option linter.unusedVariables false
set_option linter.unusedSimpArgs false
namespace Go.Sea
open Go.RowKit
def aiD (ops : Array Oper) (n0 k i : Nat) (ok oi : Oper) (ek ei : Option Nat × List Nat) : Bool :=
  ok.apart ops oi && !(rR ek.1 ei.2) && !(rR ei.1 ek.2) && !(ek.1 == some (n0 + i)) && !(ei.1 == some (n0 + k)) && (match ek.1 with | some q => !(ei.1 == some q) | none => true)
def zA (ops : Array Oper) (n0 j : Nat) (log : Lg) : Bool :=
  let T := masks [] ops.toList
  (List.range log.length).all fun i => (List.range i).all fun k => match ops[j + k]?, ops[j + i]?, log[k]?, log[i]? with
    | some ok, some oi, some ek, some ei => !(ek.1 == some (n0 + (j + i))) && ((T.getD (j + i) 0).testBit (j + k) || aiD ops n0 (j + k) (j + i) ok oi ek ei)
    | _, _, _, _ => false
def aik (ops : Array Oper) (b : Nat) : Bool :=
  let T := masks [] ops.toList
  (List.range ops.size).all fun i => if i < b then (T.getD b 0).testBit i else if b < i then (T.getD i 0).testBit b else true
theorem nS {ops : Array Oper} {k i : Nat} (h : ((masks [] ops.toList).getD i 0).testBit k = true) : Ik ops k i :=
  uf (ops := ops) ops.toList [] (fun i k hk => by simp at hk) (by simp) i k h
theorem Tm {ops : Array Oper} {b : Nat} (h : aik ops b = true) : (∀ k, k < b -> k < ops.size -> Ik ops k b) /\ ∀ i, b < i -> i < ops.size -> Ik ops b i := by
  have h' : ∀ i, i < ops.size -> (if i < b then ((masks [] ops.toList).getD b 0).testBit i else if b < i then ((masks [] ops.toList).getD i 0).testBit b else true) = true := fun i hi => List.all_eq_true.1 h i (List.mem_range.2 hi)
  refine ⟨fun k hk hs => ?_, fun i hi hs => ?_⟩
  · have := h' k hs
    rw [if_pos hk] at this
    exact nS this
  · have := h' i hs
    rw [if_neg (by omega), if_pos hi] at this
    exact nS this
theorem vo (n0 : Nat) : ∀ (log : Log) (j : Nat), (kg n0 j log).length = log.length
  | [], _ => rfl
  | e :: es, j => by simp [kg, vo n0 es (j + 1)]
theorem xu {ops : Array Oper} {n0 j : Nat} {log : Log} (h : zA ops n0 j (kg n0 j log) = true) {k i : Nat} (hki : k < i) {ok oi : Oper} {ek ei : Option Nat × TU} (h1 : ops[j + k]? = some ok) (h2 : ops[j + i]? = some oi) (h3 : log[k]? = some ek) (h4 : log[i]? = some ei) :
    ek.2.ef.tgt (n0 + (j + k)) ≠ some (n0 + (j + i)) /\ (Ik ops (j + k) (j + i) \/ indep ops n0 (j + k) (j + i) ok oi ek.2 ei.2 = true) := by
  have hi : i < (kg n0 j log).length := by rw [vo]; exact (List.getElem?_eq_some_iff.1 h4).1
  have := List.all_eq_true.1 (List.all_eq_true.1 h i (List.mem_range.2 hi)) k (List.mem_range.2 hki)
  rw [nO, nO, h1, h2, h3, h4] at this
  simp only [Option.map_some, Bool.and_eq_true, Bool.or_eq_true, Bool.not_eq_true', beq_eq_false_iff_ne] at this
  refine ⟨this.1, ?_⟩
  rcases this.2 with h | h
  · exact Or.inl (nS h)
  · exact Or.inr h
theorem yZ {n0 : Nat} {D : Nat -> Bool} : ∀ (log : Log) (j : Nat) (s : AS), (∀ k, j <= k -> k < j + log.length -> D k = false) -> dD n0 D j log s = s
  | [], _, _, _ => rfl
  | e :: es, j, s, h => by
    simp only [dD]
    rw [h j (Nat.le_refl _) (by simp)]
    exact yZ es (j + 1) s fun k h1 h2 => h k (by omega) (by simp; omega)
section
variable {P : Program} {ops : Array Oper} {n0 j : Nat} {os : List Oper} {s0 s1 : AS} {log : Log} {w0 : World} {Z0 : Fr}
theorem Ji (hos : ∀ (k : Nat) o, os[k]? = some o -> ops[j + k]? = some o) (ht : Trace P (ops.toList.map (·.dst)) n0 j os s0 log s1) (hc : zA ops n0 j (kg n0 j log) = true)
    (hn : ∀ i, j <= i -> i < ops.size -> hget s0.heap (n0 + i) = none) {D : Nat -> Bool} (hcl : Closed .any ops D) {i : Nat} {o : Oper} (ho : os[i]? = some o) (hDi : D (j + i) = false)
    (hpre : (o.after.toList.all fun e => !Region.binds .any e || D e.on) = true) {a : Act} {w : World} (R : mE w0 Z0 (dD n0 D j log s0) a w) {K : Act -> World -> Prop}
    (hK : ∀ a' w', mE w0 Z0 (dD n0 (upd D (j + i)) j log s0) a' w' -> K a' w') {Q : Exit -> Act -> World -> Prop} : if Region.wanted o (yielded ops a.tmps) = true then Oper.wp P o a w K Q else K (a.put o.dst undef) w := by
  have hna := ht.gq
  obtain ⟨J, Z, R'⟩ := R
  have hoi := hos i o ho
  obtain ⟨v, ef, hl, hd, hrun⟩ := ht.at i o ho
  have hop : ∀ (k : Nat) e, log[k]? = some e -> ∃ ok, ops[j + k]? = some ok /\ e.1 = ok.dst := fun k e he => by
    obtain ⟨ok, h1, h2⟩ := ht.ops k e he
    exact ⟨ok, hos k ok h1, h2⟩
  generalize hB : dD n0 (fun q => decide (q < j + i)) j log s0 = sB at hl hd hrun
  have fore : ∀ (k : Nat) e ok, k < i -> log[k]? = some e -> ops[j + k]? = some ok -> D (j + k) = true \/ indep ops n0 (j + k) (j + i) ok o e.2 ⟨v, ef, sI sB o⟩ = true := fun k e ok hk he hok => by
    rcases (xu hc hk hok hoi he hl).2 with h | h
    · exact Or.inl (h.done hcl o hoi hpre)
    · exact Or.inr h
  have back : ∀ (k : Nat) e ok, i < k -> D (j + k) = true -> log[k]? = some e -> ops[j + k]? = some ok -> indep ops n0 (j + i) (j + k) o ok ⟨v, ef, sI sB o⟩ e.2 = true := fun k e ok hk hDk he hok => by
    rcases (xu hc hk hoi hok hl he).2 with h | h
    · have := h.done hcl ok hok (hcl _ ok hok hDk)
      rw [hDi] at this; cases this
    · exact h
  have hget' : ∀ t, t ∈ o.looksAt ops -> (dD n0 D j log s0).get t = sB.get t := fun t ht' => by
    rw [<- hB]
    refine xY log j s0 s0 hna rfl fun k e he hde => ?_
    obtain ⟨ok, hok, hdk⟩ := hop k e he
    rcases Nat.lt_trichotomy k i with hk | hk | hk
    · rw [decide_eq_true (by omega)]
      rcases fore k e ok hk he hok with h | h
      · exact h.symm
      · exfalso
        simp only [indep, Bool.and_eq_true] at h
        exact ((lX h.1.1.1.1.1).1 t (hdk ▸ hde)).1 ht'
    · subst hk; rw [hDi]; simp
    · rw [decide_eq_false (by omega)]
      cases hDk : D (j + k) with
      | false => rfl
      | true =>
        exfalso
        have h := back k e ok hk hDk he hok
        simp only [indep, Bool.and_eq_true] at h
        exact ((lX h.1.1.1.1.1).2 t (hdk ▸ hde)).1 ht'
  have hblk' : ∀ q, q ∈ sI sB o -> hget (dD n0 D j log s0).heap q = hget sB.heap q := fun q hq => by
    rw [<- hB]
    refine nK log j s0 s0 hna rfl fun k e he hde => ?_
    obtain ⟨ok, hok, hdk⟩ := hop k e he
    rcases Nat.lt_trichotomy k i with hk | hk | hk
    · rw [decide_eq_true (by omega)]
      rcases fore k e ok hk he hok with h | h
      · exact h.symm
      · exfalso
        simp only [indep, Bool.and_eq_true, hde, rR, Bool.not_eq_true', List.contains_eq_mem, decide_eq_false_iff_not] at h
        exact h.1.1.1.1.2 hq
    · subst hk; rw [hDi]; simp
    · rw [decide_eq_false (by omega)]
      cases hDk : D (j + k) with
      | false => rfl
      | true =>
        exfalso
        have h := back k e ok hk hDk he hok
        simp only [indep, Bool.and_eq_true, hde, rR, Bool.not_eq_true', List.contains_eq_mem, decide_eq_false_iff_not] at h
        exact h.1.1.1.2 hq
  have hhole : hget (dD n0 D j log s0).heap (n0 + (j + i)) = none := by
    have : hget (dD n0 D j log s0).heap (n0 + (j + i)) = hget (dD n0 (fun _ => false) j log s0).heap (n0 + (j + i)) := by
      refine nK log j s0 s0 hna rfl fun k e he hde => ?_
      obtain ⟨ok, hok, hdk⟩ := hop k e he
      rcases Nat.lt_trichotomy k i with hk | hk | hk
      · exact absurd hde (xu hc hk hok hoi he hl).1
      · subst hk; exact hDi.symm
      · cases hDk : D (j + k) with
        | false => rfl
        | true =>
          exfalso
          have h := back k e ok hk hDk he hok
          simp only [indep, Bool.and_eq_true, hde, beq_self_eq_true, Bool.not_true] at h
          exact absurd h.1.2 (by simp)
    rw [this, mh]
    exact hn _ (by omega) (Array.getElem?_eq_some_iff.1 hoi).1
  have hrun' := hrun.loc hget' hblk'
  have hd' : gP (dD n0 D j log s0) o.dst := by
    have e1 : (dD n0 D j log s0).N = s0.N := u6 log j s0
    have e2 : sB.N = s0.N := by rw [<- hB]; exact u6 log j s0
    cases hod : o.dst with
    | none => trivial
    | some d =>
      rw [hod] at hd
      simp only [gP] at hd ⊢
      omega
  refine hrun'.step R' hhole hd' fun a' w' R'' => hK a' w' ?_
  obtain ⟨J1, Z1, R1⟩ := R''
  refine ⟨J1, Z1, R1.like (xQ log j s0 (o.dst, ⟨v, ef, _⟩) (by rw [Nat.add_sub_cancel_left]; exact hl) (by omega) hDi hna fun k x hk hx hDk => ?_).symm⟩
  obtain ⟨m, rfl⟩ : ∃ m, k = j + m := ⟨k - j, by omega⟩
  rw [Nat.add_sub_cancel_left] at hx
  obtain ⟨ok, hok, hdk⟩ := hop m x hx
  have h := back m x ok (by omega) hDk hx hok
  simp only [indep, Bool.and_eq_true] at h
  refine ⟨fun t ht' => ?_, fun q hq hq' => ?_⟩
  · rw [hdk]; exact ((lX h.1.1.1.1.1).1 t ht').2
  · simp only at hq
    rw [hq, hq'] at h
    simp at h
end
theorem yE {P : Program} {gs : List (Option Nat)} {n0 i : Nat} {os : List Oper} {s s' : AS} {log : Log} (h : Trace P gs n0 i os s log s') : log.length = os.length := by
  induction h with
  | nil => rfl
  | cons i o os s s' v ef log hd h _ ih => simp [ih]
theorem tL {ops : Array Oper} (hd : jh ops = true) {i : Nat} {o : Oper} (ho : ops[i]? = some o) : ∀ c, o.op ≠ .defer c := fun c hc => by
  have := List.all_eq_true.1 hd o (by have := Array.mem_of_getElem? ho; simpa using this)
  rw [hc] at this; cases this
theorem amY {P : Program} {r : Option Nat} {n : Nat} {o : Oper} {a : Act} {w : World} {K : Act -> World -> Prop} {Q : Exit -> Act -> World -> Prop} {c : Prop} [Decidable c] {X : Prop} (hdo : ∀ c, o.op ≠ .defer c) (h : if c then Oper.wp P o a w K Q else X) : if c then o.wpIn (fo r) n P a w K Q else X := by
  split
  · rename_i hc
    rw [if_pos hc] at h
    exact eD (d9 _) hdo h
  · rename_i hc
    rw [if_neg hc] at h
    exact h
theorem EC {P : Program} {id b : Nat} {ops : Array Oper} {os1 os2 : List Oper} {ob : Oper} {s s1 : AS} {log1 : Log} {w0 : World} {Z0 : Fr} {a : Act} {w : World} {Q : Exit -> AS -> Prop} (n0 : Nat) (hn0 : ∀ i, i < ops.size -> hget s.heap (n0 + i) = none) (hm : P.follows .mixedOrders = true) (hback : qK .any ops = true) (hd : jh ops = true)
    (hsp : ops.toList = os1 ++ ob :: os2) (hlb : os1.length = b) (hbar : aik ops b = true)
    (t1 : Trace P (ops.toList.map (·.dst)) n0 0 os1 s log1 s1) (c1 : zA ops n0 0 (kg n0 0 log1) = true)
    (hg : ob.guard = none) (hdst : gP s1 ob.dst)
    (hop : ze P ob s1 fun s' => ∃ n1 log2 s2, (∀ q, b + 1 <= q -> q < ops.size -> hget s'.heap (n1 + q) = none) /\ Trace P (ops.toList.map (·.dst)) n1 (b + 1) os2 s' log2 s2 /\ zA ops n1 (b + 1) (kg n1 (b + 1) log2) = true /\ Q .normal s2)
    (R : mE w0 Z0 s a w) {n : Nat} : (Code.region id ops true).wpIn (fo Z0.ro) n P (fun e a' w' => ∃ s', mE w0 Z0 s' a' w' /\ Q e s') a w := by
  have hsz : ops.size = b + 1 + os2.length := by
    have := congrArg List.length hsp
    simp at this; omega
  have at1 : ∀ (k : Nat) o, os1[k]? = some o -> ops[0 + k]? = some o := fun k o hk => by
    rw [Nat.zero_add, <- Array.getElem?_toList, hsp, List.getElem?_append_left (List.getElem?_eq_some_iff.1 hk).1]; exact hk
  have at2 : ∀ (k : Nat) o, os2[k]? = some o -> ops[b + 1 + k]? = some o := fun k o hk => by
    rw [<- Array.getElem?_toList, hsp, List.getElem?_append_right (by omega), show b + 1 + k - os1.length = k + 1 by omega]; simpa using hk
  have atb : ops[b]? = some ob := by
    rw [<- Array.getElem?_toList, hsp, List.getElem?_append_right (by omega), show b - os1.length = 0 by omega]; rfl
  obtain ⟨bar1, bar2⟩ := Tm hbar
  have l1 := yE t1
  have off : ∀ D, Closed .any ops D -> ∀ k, k < ops.size -> D b = false -> b <= k -> D k = false := fun D hcl k hk hDb hbk => by
    rcases Nat.eq_or_lt_of_le hbk with e | h
    · subst e; exact hDb
    · cases hDk : D k with
      | false => rfl
      | true =>
        obtain ⟨o, ho⟩ : ∃ o, ops[k]? = some o := ⟨_, Array.getElem?_eq_getElem hk⟩
        have := (bar2 k h hk).done hcl o ho (hcl k o ho hDk)
        rw [hDb] at this; cases this
  refine oG (d9 _) (fun _ D a w => bif D b then (∃ s' n1 log2 s2, ((∀ q, b + 1 <= q -> q < ops.size -> hget s'.heap (n1 + q) = none) /\ Trace P (ops.toList.map (·.dst)) n1 (b + 1) os2 s' log2 s2 /\ zA ops n1 (b + 1) (kg n1 (b + 1) log2) = true /\ Q .normal s2) /\ mE w0 Z0 (dD n1 D (b + 1) log2 s') a w) else mE w0 Z0 (dD n0 D 0 log1 s) a w) hm hd hback ?_ ?_ fun D a w hD R' => ?_
  · show mE w0 Z0 (dD n0 (fun _ => false) 0 log1 s) a w.drew
    rw [mh]
    obtain ⟨J, Z, R⟩ := R
    exact ⟨J, Z, R.drew⟩
  · refine kC.of ops.toList 0 fun i o ho D a w R' hDi hpre hcl K hK => ?_
    rw [Nat.zero_add] at hDi
    simp only [Nat.zero_add] at hK
    have hoi : ops[i]? = some o := by rw [<- Array.getElem?_toList]; exact ho
    have hi : i < ops.size := (Array.getElem?_eq_some_iff.1 hoi).1
    rcases Nat.lt_trichotomy i b with hib | hib | hib
    · have hDb : D b = false := by
        cases hDb : D b with
        | false => rfl
        | true =>
          have := (bar1 i hib hi).done hcl ob atb (hcl b ob atb hDb)
          rw [hDi] at this; cases this
      rw [hDb] at R'
      have hu : upd D i b = false := by rw [upd_ne D (by omega)]; exact hDb
      have hoi1 : os1[i]? = some o := by
        have := ho
        rw [hsp, List.getElem?_append_left (by omega)] at this; exact this
      refine amY (tL hd hoi) (Ji at1 t1 c1 (fun q _ hq => hn0 q hq) hcl hoi1 (by rw [Nat.zero_add]; exact hDi) hpre R' fun a' w' R'' => hK a' w' ?_)
      rw [hu]
      rw [Nat.zero_add] at R''
      exact R''
    · subst hib
      obtain rfl : o = ob := by rw [hoi] at atb; exact Option.some.inj atb
      rw [hDi] at R'
      have e1 : dD n0 D 0 log1 s = s1 := t1.fold D fun k _ hk => (bar1 k (by omega) (by omega)).done hcl o hoi hpre
      simp only [cond_false] at R'
      rw [e1] at R'
      obtain ⟨J, Z, R'⟩ := R'
      have hw : Region.wanted o (yielded ops a.tmps) = true := by simp [Region.wanted, hg]
      rw [if_pos hw]
      refine iV R' hdst hop fun s' a' w' R'' hk => hK _ _ ?_
      obtain ⟨n1, log2, s2, h1, t2, c2, hq⟩ := hk
      have l2 := yE t2
      rw [upd_same]
      have e2 : dD n1 (upd D i) (i + 1) log2 s' = s' := yZ log2 (i + 1) _ fun k h1 h2 => by
        rw [upd_ne D (by omega)]
        exact off D hcl k (by omega) hDi (by omega)
      simp only [cond_true]
      exact ⟨s', n1, log2, s2, ⟨h1, t2, c2, hq⟩, by rw [e2]; exact R''⟩
    · have hDb : D b = true := (bar2 i hib hi).done hcl o hoi hpre
      rw [hDb] at R'
      obtain ⟨s', n1, log2, s2, ⟨h1, t2, c2, hq⟩, R'⟩ := R'
      have hu : upd D i b = true := by rw [upd_ne D (by omega)]; exact hDb
      obtain ⟨m, rfl⟩ : ∃ m, i = b + 1 + m := ⟨i - (b + 1), by omega⟩
      have hoi2 : os2[m]? = some o := by
        have := ho
        rw [hsp, List.getElem?_append_right (by omega), show b + 1 + m - os1.length = m + 1 by omega] at this
        simpa using this
      refine amY (tL hd hoi) (Ji at2 t2 c2 (fun q hq hq2 => h1 q (by omega) hq2) hcl hoi2 hDi hpre R' fun a' w' R'' => hK a' w' ?_)
      rw [hu]
      exact ⟨s', n1, log2, s2, ⟨h1, t2, c2, hq⟩, R''⟩
  · have hDb : D b = true := hD b (by omega)
    rw [hDb] at R'
    obtain ⟨s', n1, log2, s2, ⟨h1, t2, c2, hq⟩, R'⟩ := R'
    have l2 := yE t2
    refine ⟨s2, ?_, hq⟩
    rw [<- t2.fold D fun k _ hk => hD k (by omega)]
    exact R'
def yOp (P : Program) (s : AS) (K : List Oper -> AS -> Prop) : List Oper -> Prop
  | [] => False
  | o :: os => o.guard = none /\ gP s o.dst /\ ∀ K' : AS -> Prop, (∀ s', K os s' -> K' s') -> kM P [] o [] s K'
theorem l5 {P : Program} {s : AS} {Q : Exit -> AS -> Prop} {id : Nat} {ops : Array Oper} (b : Nat) (hm : P.follows .mixedOrders = true) (hback : qK .any ops = true) (hd : jh ops = true) (hbar : aik ops b = true)
    (h : gH P (ops.toList.map (·.dst)) s.heap.length 0 (ops.toList.take b) s [] fun lg s1 => zA ops s.heap.length 0 lg = true /\ yOp P s1 (fun os s' => gH P (ops.toList.map (·.dst)) s'.heap.length (b + 1) os s' [] fun lg s2 => zA ops s'.heap.length (b + 1) lg = true /\ Q .normal s2) (ops.toList.drop b)) : AW P (.region id ops true) s Q := fun w0 Z0 a w n R => by
  obtain ⟨log1, s1, t1, c1, hb⟩ := mY _ _ _ _ _ h
  cases hdr : ops.toList.drop b with
  | nil => rw [hdr] at hb; exact hb.elim
  | cons ob os2 =>
    rw [hdr] at hb
    obtain ⟨hg, hdst, hb⟩ := hb
    have hsp : ops.toList = ops.toList.take b ++ ob :: os2 := by rw [<- hdr, List.take_append_drop]
    have hlb : (ops.toList.take b).length = b := by
      have : b < ops.toList.length := by
        refine Nat.lt_of_not_le fun hle => ?_
        rw [List.drop_of_length_le hle] at hdr
        cases hdr
      rw [List.length_take]; omega
    exact EC s.heap.length (fun _ _ => uF _ _ (by omega)) hm hback hd hsp hlb hbar t1 (by simpa using c1) hg hdst (hb _ fun s' hk => by
      obtain ⟨log2, s2, t2, c2, hq⟩ := mY _ _ _ _ _ hk
      exact ⟨s'.heap.length, log2, s2, fun q _ _ => uF _ _ (by omega), t2, by simpa using c2, hq⟩) R
end Go.Sea
namespace Go.Sea
open Go.RowKit
def okB (H : List (Option (List CV))) (i : Nat) : Prop := (hget H i).isSome = true
def Td (H : List (Option (List CV))) (e : List (Nat × AV)) : List (Nat × AV) -> Prop
  | [] => True
  | (k, v) :: r => ((lk e k = v /\ v.ok (okB H)) \/ RS (lk e k) v) /\ Td H e r
theorem OJ {H : List (Option (List CV))} {e : List (Nat × AV)} : ∀ {r : List (Nat × AV)}, Td H e r -> okE H e r
  | [], _ => fun p hp => by cases hp
  | (k, v) :: r, ⟨h1, h2⟩ => fun p hp => by
    rcases List.mem_cons.1 hp with rfl | hp
    · exact h1
    · exact OJ h2 p hp
def JO (H : List (Option (List CV))) (g : List (Nat × List (Nat × AV))) : List (Nat × List (Nat × AV)) -> Prop
  | [] => True
  | (f, e) :: r => Td H (gf g f) e /\ JO H g r
theorem Wx {H : List (Option (List CV))} {g : List (Nat × List (Nat × AV))} : ∀ {G : List (Nat × List (Nat × AV))}, JO H g G -> ∀ f, okE H (gf g f) (gf G f)
  | [], _, f => fun p hp => by cases hp
  | (k, e) :: r, ⟨h1, h2⟩, f => by
    simp only [gf]
    split
    · rename_i h; subst h; exact OJ h1
    · exact Wx h2 f
theorem Weak.lit {s : AS} {N : Nat} {E : List (Nat × AV)} {H : List (Option (List CV))} {G : List (Nat × List (Nat × AV))} {lp : LP} (hN : N = s.N) (hl : lp = s.lp) (hg : JO H s.gh G) (h1 : Td H s.env E) (h2 : Ij (okB H) s.heap H) : Weak s ⟨E, H, N, G, lp⟩ :=
  Weak.of hN (Wx hg) hl (OJ h1) h2
theorem ZF {P : Program} {s : AS} {Q : Exit -> AS -> Prop} {c : Code} {ι : Type} (E : ι -> List (Nat × AV)) (G : ι -> List (Nat × List (Nat × AV))) (H : ι -> List (Option (List CV))) (I : ι -> Prop) (μ : ι -> Nat) (i0 : ι) {N : Nat} {lp : LP} (hN : N = s.N) (hl : lp = s.lp)
    (hg : JO (H i0) s.gh (G i0)) (h1 : Td (H i0) s.env (E i0)) (h2 : Ij (okB (H i0)) s.heap (H i0)) (hi : I i0)
    (round : ∀ i, I i -> AW P c ⟨E i, H i, N, G i, lp⟩ (rZ (fun s' => N = s'.N /\ lp = s'.lp /\ ∃ j, I j /\ μ j < μ i /\ JO (H j) s'.gh (G j) /\ Td (H j) s'.env (E j) /\ Ij (okB (H j)) s'.heap (H j)) Q)) : AW P (.loop c) s Q := by
  refine PO (fun n s => ∃ i, I i /\ n = μ i /\ s = ⟨E i, H i, N, G i, lp⟩) (μ i0) ⟨_, Weak.lit hN hl hg h1 h2, i0, hi, rfl, rfl⟩ ?_
  rintro n s ⟨i, hI, rfl, rfl⟩
  refine (round i hI).mono fun e s' h => ?_
  cases e with
  | normal =>
    obtain ⟨g1, g2, j, g3, g4, g5, g6, g7⟩ := h
    exact ⟨μ j, _, g4, Weak.lit g1 g2 g5 g6 g7, j, g3, rfl, rfl⟩
  | _ => exact h
def bG (e : List (Nat × AV)) : List Nat -> List (Nat × AV)
  | [] => []
  | t :: U => (t, lk e t) :: bG e U
def dL (h : List (Option (List CV))) : List (Nat × List CV) -> List (Option (List CV))
  | [] => h
  | (i, cs) :: r => hset (dL h r) i cs
def UF {ι : Type} (N : Nat) (lp : LP) (g : List (Nat × List (Nat × AV))) (C : ι -> List (Nat × AV)) (HC : ι -> List (Nat × List CV)) (I : ι -> Prop) (μ : ι -> Nat) (e : List (Nat × AV)) (h : List (Option (List CV))) (U : List Nat) (i j : ι) (s' : AS) : Prop :=
  N = s'.N /\ lp = s'.lp /\ g = s'.gh /\ I j /\ μ j < μ i /\ Td (dL h (HC j)) s'.env (C j ++ bG e U) /\ Ij (okB (dL h (HC j))) s'.heap (dL h (HC j))
theorem aap {P : Program} {s : AS} {Q : Exit -> AS -> Prop} {c : Code} {ι : Type} (U : List Nat) (C : ι -> List (Nat × AV)) (HC : ι -> List (Nat × List CV)) (I : ι -> Prop) (μ : ι -> Nat) (i0 : ι)
    (hg : ∀ i, I i -> JO (dL s.heap (HC i)) s.gh s.gh)
    (h1 : Td (dL s.heap (HC i0)) s.env (C i0 ++ bG s.env U)) (h2 : Ij (okB (dL s.heap (HC i0))) s.heap (dL s.heap (HC i0))) (hi : I i0)
    (round : ∀ i, I i -> ∀ K : AS -> Prop, (∀ s' j, UF s.N s.lp s.gh C HC I μ s.env s.heap U i j s' -> K s') -> AW P c ⟨C i ++ bG s.env U, dL s.heap (HC i), s.N, s.gh, s.lp⟩ (rZ K Q)) : AW P (.loop c) s Q := by
  refine ZF (fun i => C i ++ bG s.env U) (fun _ => s.gh) (fun i => dL s.heap (HC i)) I μ i0 rfl rfl (hg i0 hi) h1 h2 hi fun i hI => ?_
  refine round i hI _ fun s' j h => ?_
  obtain ⟨g1, g2, g3, g4, g5, g6, g7⟩ := h
  exact ⟨g1, g2, j, g4, g5, g3 ▸ hg j g4, g6, g7⟩
theorem all_succ {p : Nat -> Prop} {k : Nat} (h : ∀ i, i < k -> p i) (h' : p k) : ∀ i, i < k + 1 -> p i := fun i hi => by
  by_cases e : i = k
  · subst e; exact h'
  · exact h i (by omega)
theorem Da (e : List (Nat × AV)) (t : Nat) : ∀ U : List Nat, lk (bG e U) t = .any \/ lk (bG e U) t = lk e t
  | [] => Or.inl rfl
  | u :: U => by
    simp only [bG, lk]
    split
    · rename_i h; subst h; exact Or.inr rfl
    · exact Da e t U
theorem aR {P : Program} {s : AS} {Q : Exit -> AS -> Prop} {c : Code} (U : List Nat) (h : AW P c ⟨bG s.env U, s.heap, s.N, s.gh, s.lp⟩ Q) : AW P c s Q := fun w0 Z0 a w n ⟨J, Z, R⟩ =>
  h w0 Z0 a w n ⟨J, Z, R.nodef, R.size, R.below, R.zfrom, R.zlt, R.jlt, R.inj, R.hole, R.blk, fun t => by
    rcases Da s.env t U with e | e
    · show bB _ _ _ _ (lk (bG s.env U) t); rw [e]; trivial
    · show bB _ _ _ _ (lk (bG s.env U) t); rw [e]; exact R.slots t, R.ghost, R.loops, R.lnd, R.ro⟩
theorem aP {P : Program} {s : AS} {Q : Exit -> AS -> Prop} (id : Nat) (U : List Nat) {ops : Array Oper} (h : fT P (ops.toList.map (·.dst)) ops.toList ⟨bG s.env U, s.heap, s.N, s.gh, s.lp⟩ fun s' => Q .normal s') : AW P (.region id ops false) s Q := aR U (Qk h)
theorem adN (k : Nat) : ((k : Int) - 1).toNat = k - 1 := by omega
theorem adT (k : Nat) : ((k : Int) + 1).toNat = k + 1 := by omega
theorem ahk (m n : Int) : (if n < m then n else m) = min m n := by
  rw [Int.min_def]; split <;> split <;> omega
theorem ajN (m n : Int) : (if n > m then n else m) = max m n := by
  rw [Int.max_def]; split <;> split <;> omega
end Go.Sea
namespace Go.Sea
open Go.RowKit
theorem Kg : ∀ g : List (Nat × List (Nat × AV)), ∃ n, ∀ f, n <= f -> gf g f = []
  | [] => ⟨0, fun _ _ => rfl⟩
  | (k, e) :: r => by
    obtain ⟨n, h⟩ := Kg r
    refine ⟨n + k + 1, fun f hf => ?_⟩
    simp only [gf]
    rw [if_neg (by omega)]
    exact h f (by omega)
theorem Kt : ∀ ls : List LS, ∃ n, ∀ f, n <= f -> iZ ls f
  | [] => ⟨0, fun _ _ => trivial⟩
  | x :: r => by
    obtain ⟨n, h⟩ := Kt r
    exact ⟨n + x.fid + 1, fun f hf => ⟨by omega, h f (by omega)⟩⟩
def anP (P : Program) (fn : Func) (r : AV) (H' : List (Option (List CV))) (g : List (Nat × List (Nat × AV))) (lp : LP) (e : Exit) (s : AS) : Prop :=
  (match e with | .normal | .ret => True | _ => False) /\ s.heap = H' /\ s.gh = g /\ s.lp = lp /\ match zO P s fn.results.toList with
    | some (nd, l) => nd /\ J2 l = r
    | none => False
def IV.val : IV -> Option Value
  | .g v => if v.oneCell' then some v else none
  | _ => none
def IVs.val : List IV -> Option (List Value)
  | [] => some []
  | c :: l => match c.val, IVs.val l with
    | some v, some vs => some (v :: vs)
    | _, _ => none
def PT.val : PT -> Option Value
  | .one c => c.val
  | .agg cs => (IVs.val cs).map fun vs => .agg vs.toArray
def PTs.val : List PT -> Option (List Value)
  | [] => some []
  | c :: l => match c.val, PTs.val l with
    | some v, some vs => some (v :: vs)
    | _, _ => none
def PV.val : PV -> Option Value
  | .t x => x.val
  | .tup xs => (PTs.val xs).map fun vs => .tuple vs.toArray
end Go.Sea
namespace Go.Sea
open Go.RowKit
abbrev sM := Option (Prop × List PT × Bool)
def MN (P : Program) (gs : List (Option Nat)) (d : Option Tmp) (os : List Oper) (s : AS) (K : AS -> Prop) (c : WG) (a : sM) (t : Option (Prop × List TV)) : Prop :=
  match c with
  | .pure k => (match a with
    | some (nd, ps, own) => aM P k = true /\ nd /\ ∃ r, aA P k ps r /\ (own = true -> r.flat = true) /\ fT P gs os (s.put d r.av) K
    | none => False) \/ (match t with
    | some (nd, ps) => aM P k = true /\ nd /\ ((abr P k ps d s fun s' => fT P gs os s' K) \/ ∃ r H', iD P k ps s.heap r H' /\ fT P gs os ({ s with heap := H' }.put d r) K)
    | none => False)
  | .clo k l m => match t with
    | some (nd, ps) => aM P k = true /\ nd /\ ((∃ r H', iD P k (l.map LV.tv ++ ps ++ m.map LV.tv) s.heap r H' /\ fT P gs os ({ s with heap := H' }.put d r) K) \/ abr P k (l.map LV.tv ++ ps ++ m.map LV.tv) d s fun s' => fT P gs os s' K)
    | none => False
  | .yld l => match t with
    | some (nd, ps) => nd /\ Cc P l ps d s fun s' => fT P gs os s' K
    | none => False
  | .no => False
def aop (P : Program) (gs : List (Option Nat)) (o : Oper) (os : List Oper) (s : AS) (K : AS -> Prop) : Prop := amr P o s fun s' => fT P gs os s' K
def aZ (P : Program) (gs : List (Option Nat)) (d : Option Tmp) (os : List Oper) (s : AS) (K : AS -> Prop) (c : WG) (a : sM) (t : Option (Prop × List TV)) (F : Prop) : Prop := MN P gs d os s K c a t \/ F
def Xp (P : Program) (gs : List (Option Nat)) (o : Oper) (os : List Oper) (s : AS) (K : AS -> Prop) : Prop := ug P o s fun s' => fT P gs os s' K
def H7 (P : Program) (gs : List (Option Nat)) (b : Bool) (d : Option Tmp) (os : List Oper) (s : AS) (K : AS -> Prop) (c : WG) (a : sM) : Prop :=
  match c with
  | .pure k => match a with
    | some (nd, ps, own) => aM P k = true /\ (b = true -> nd) /\ ∃ r, (b = true -> aA P k ps r) /\ (own = true -> r.flat = true) /\ fT P gs os (s.put d (r.av.mU b)) K
    | none => False
  | _ => False
def splitK (P : Program) (gs : List (Option Nat)) (b : Bool) (o : Oper) (os : List Oper) (s : AS) (K : AS -> Prop) : Prop := VD P b o s fun s' => fT P gs os s' K
def bM (P : Program) (gs : List (Option Nat)) (b : Bool) (d : Option Tmp) (os : List Oper) (s : AS) (K : AS -> Prop) (c : WG) (a : sM) (F : Prop) : Prop := H7 P gs b d os s K c a \/ F
def eP (P : Program) (gs : List (Option Nat)) (n0 i : Nat) (d : Option Tmp) (os : List Oper) (s : AS) (lg : Lg) (K : Lg -> AS -> Prop) (c : WG) (a : sM) (t : Option (Prop × List TV)) (ft : List Nat) : Prop :=
  match c with
  | .pure k => (match a with
    | some (nd, ps, own) => aM P k = true /\ nd /\ ∃ r, aA P k ps r /\ (own = true -> r.flat = true) /\ gH P gs n0 (i + 1) os (s.put d r.av) ((none, ft) :: lg) K
    | none => False) \/ (match t with
    | some (nd, ts) => aM P k = true /\ nd /\ ((∃ r j cs cs', hget s.heap j = some cs /\ j ∈ ts.flatMap TV.refs /\ Fy P k ts j cs r cs' /\ gH P gs n0 (i + 1) os (s.ent d (n0 + i) r (.set j cs')) ((some j, ft) :: lg) K) ∨
      ∃ r cs, l7 P k ts cs r /\ gH P gs n0 (i + 1) os (s.ent d (n0 + i) (r (n0 + i)) (.new cs)) ((some (n0 + i), ft) :: lg) K)
    | none => False)
  | _ => False
def nA (P : Program) (gs : List (Option Nat)) (n0 i : Nat) (b : Bool) (d : Option Tmp) (os : List Oper) (s : AS) (lg : Lg) (K : Lg -> AS -> Prop) (c : WG) (a : sM) (ft : List Nat) : Prop :=
  match c with
  | .pure k => match a with
    | some (nd, ps, own) => aM P k = true /\ (b = true -> nd) /\ ∃ r, (b = true -> aA P k ps r) /\ (own = true -> r.flat = true) /\ gH P gs n0 (i + 1) os (s.put d (r.av.mU b)) ((none, ft) :: lg) K
    | none => False
  | _ => False
section
variable {P : Program} {gs : List (Option Nat)} {n0 i : Nat} {d : Option Tmp} {f : Operand} {args : Array Operand} {tys : Array TypeId} {ty : TypeId} {pos : String} {aft : Array Edge} {g : Option (Nat × Bool)} {os : List Oper} {s : AS} {lg : Lg} {K : AS -> Prop} {K' : Lg -> AS -> Prop} {b : Bool} {k : FuncId} {nd : Prop} {ps : List PT} {own : Bool} {r : PV} {ft : List Nat}
theorem OU : Xp P gs ⟨d, .call ⟨.value f, args, tys⟩, ty, pos, aft, g⟩ os s K = MN P gs d os s K (eu (s.ev f)) (iM s.ev (hget s.heap) args.toList) (kG s.ev args.toList) := by
  unfold Xp ug MN
  simp only
  rfl
theorem afl : Xp P gs ⟨d, .call ⟨.value f, args, tys⟩, ty, pos, aft, g⟩ os s K = aZ P gs d os s K (eu (s.ev f)) (iM s.ev (hget s.heap) args.toList) (kG s.ev args.toList) False := by
  rw [OU]; unfold aZ; simp
theorem abW : kM P gs ⟨d, .call ⟨.value f, args, tys⟩, ty, pos, aft, g⟩ os s K = aZ P gs d os s K (eu (s.ev f)) (iM s.ev (hget s.heap) args.toList) (kG s.ev args.toList) (aop P gs ⟨d, .call ⟨.value f, args, tys⟩, ty, pos, aft, g⟩ os s K) := by
  unfold aZ
  rw [<- OU (ty := ty) (pos := pos) (aft := aft) (g := g) (tys := tys)]
  rfl
theorem ZO {c : WG} (hc : eu (s.ev f) = c) (hp : ∃ k, c = .pure k) : xC P gs b ⟨d, .call ⟨.value f, args, tys⟩, ty, pos, aft, g⟩ os s K = bM P gs b d os s K c (iM s.ev (hget s.heap) args.toList) (splitK P gs b ⟨d, .call ⟨.value f, args, tys⟩, ty, pos, aft, g⟩ os s K) := by
  obtain ⟨k, rfl⟩ := hp
  have e : Bv P b ⟨d, .call ⟨.value f, args, tys⟩, ty, pos, aft, g⟩ s (fun s' => fT P gs os s' K) = H7 P gs b d os s K (.pure k) (iM s.ev (hget s.heap) args.toList) := by
    unfold Bv H7
    simp only [hc]
    rfl
  unfold bM
  rw [<- e]
  rfl
theorem Vs {k : FuncId} : xC P gs b ⟨d, .call ⟨.value (.func k), args, tys⟩, ty, pos, aft, g⟩ os s K = bM P gs b d os s K (.pure k) (iM s.ev (hget s.heap) args.toList) (splitK P gs b ⟨d, .call ⟨.value (.func k), args, tys⟩, ty, pos, aft, g⟩ os s K) := ZO rfl ⟨k, rfl⟩
theorem Zj {c : WG} {a : sM} {o : Oper} (h1 : b = true -> kM P gs o os s K) (h2 : b = false -> fT P gs os (s.put o.dst .any) K) : bM P gs b d os s K c a (splitK P gs b o os s K) := Or.inr ⟨h1, h2⟩
theorem JV : DC P gs n0 i ⟨d, .call ⟨.value f, args, tys⟩, ty, pos, aft, g⟩ os s lg K' = eP P gs n0 i d os s lg K' (eu (s.ev f)) (iM s.ev (hget s.heap) args.toList) (kG s.ev args.toList) (sI s ⟨d, .call ⟨.value f, args, tys⟩, ty, pos, aft, g⟩) := by
  unfold DC Jp eP
  simp only
  cases eu (s.ev f) <;> rfl
theorem Us {q : Tmp} : DC P gs n0 i ⟨d, .call ⟨.value (.tmp q), args, tys⟩, ty, pos, aft, g⟩ os s lg K' = eP P gs n0 i d os s lg K' (eu (s.get q)) (iM s.ev (hget s.heap) args.toList) (kG s.ev args.toList) (sI s ⟨d, .call ⟨.value (.tmp q), args, tys⟩, ty, pos, aft, g⟩) := JV
theorem aaq {k : FuncId} : DC P gs n0 i ⟨d, .call ⟨.value (.func k), args, tys⟩, ty, pos, aft, g⟩ os s lg K' = eP P gs n0 i d os s lg K' (.pure k) (iM s.ev (hget s.heap) args.toList) (kG s.ev args.toList) (sI s ⟨d, .call ⟨.value (.func k), args, tys⟩, ty, pos, aft, g⟩) := by
  rw [JV]
  simp only [AS.ev, eu, kD, List.size_toArray, List.length_nil, and_self, if_true]
theorem SG {k : FuncId} : FM P gs n0 i b ⟨d, .call ⟨.value (.func k), args, tys⟩, ty, pos, aft, g⟩ os s lg K' = nA P gs n0 i b d os s lg K' (.pure k) (iM s.ev (hget s.heap) args.toList) (sI s ⟨d, .call ⟨.value (.func k), args, tys⟩, ty, pos, aft, g⟩) := by
  unfold FM BO nA
  simp only [AS.ev, eu, kD, List.size_toArray, List.length_nil, and_self, if_true]
  rfl
theorem aaY {F : Prop} {t : Option (Prop × List TV)} (h3 : aM P k = true) (h5 : aA P k ps r) (h4 : nd) (h6 : own = true -> r.flat = true) (h7 : fT P gs os (s.put d r.av) K) : aZ P gs d os s K (.pure k) (some (nd, ps, own)) t F := Or.inl (Or.inl ⟨h3, h4, r, h5, h6, h7⟩)
theorem afU {F : Prop} {a : sM} {l m : List LV} {ps : List TV} {r : AV} {H' : List (Option (List CV))} (h3 : aM P k = true) (h5 : iD P k (l.map LV.tv ++ ps ++ m.map LV.tv) s.heap r H') (h4 : nd) (h7 : fT P gs os ({ s with heap := H' }.put d r) K) : aZ P gs d os s K (.clo k l m) a (some (nd, ps)) F := Or.inl ⟨h3, h4, Or.inl ⟨r, H', h5, h7⟩⟩
theorem Yz {F : Prop} {a : sM} {ps : List TV} {r : AV} {H' : List (Option (List CV))} (h3 : aM P k = true) (h5 : iD P k ps s.heap r H') (h4 : nd) (h7 : fT P gs os ({ s with heap := H' }.put d r) K) : aZ P gs d os s K (.pure k) a (some (nd, ps)) F := Or.inl (Or.inr ⟨h3, h4, Or.inr ⟨r, H', h5, h7⟩⟩)
theorem bW {F : Prop} {a : sM} {ps : List TV} {fn : Func} {c : Code} (hf : P.funcs[k]? = some fn) (hb : fn.body = some c) (h3 : aM P k = true) (hl : ps.length <= fn.ntmps) (h4 : nd) (hls : iZ s.lp.ls s.lp.fr)
    (h5 : ∀ K0 : AS -> Prop, (∀ s', fT P gs os s' K -> K0 s') -> AW P c ⟨au ps 0, s.heap, fn.ntmps, (s.lp.fr, s.env) :: s.gh, ⟨s.lp.ls, s.lp.fr + 1, none⟩⟩ (XQ P s.lp.fr s.N s.lp fn d K0)) : aZ P gs d os s K (.pure k) a (some (nd, ps)) F :=
  Or.inl (Or.inr ⟨h3, h4, Or.inl ⟨fn, c, hf, hb, hl, hls, h5 _ fun _ h => h⟩⟩)
theorem kJ {F : Prop} {a : sM} {ps : List TV} {l m : List LV} {fn : Func} {c : Code} (hf : P.funcs[k]? = some fn) (hb : fn.body = some c) (h3 : aM P k = true) (hl : (l.map LV.tv ++ ps ++ m.map LV.tv).length <= fn.ntmps) (h4 : nd) (hls : iZ s.lp.ls s.lp.fr)
    (h5 : ∀ K0 : AS -> Prop, (∀ s', fT P gs os s' K -> K0 s') -> AW P c ⟨au (l.map LV.tv ++ ps ++ m.map LV.tv) 0, s.heap, fn.ntmps, (s.lp.fr, s.env) :: s.gh, ⟨s.lp.ls, s.lp.fr + 1, none⟩⟩ (XQ P s.lp.fr s.N s.lp fn d K0)) : aZ P gs d os s K (.clo k l m) a (some (nd, ps)) F :=
  Or.inl ⟨h3, h4, Or.inr ⟨fn, c, hf, hb, hl, hls, h5 _ fun _ h => h⟩⟩
theorem lG {F : Prop} {a : sM} {l : Nat} {ps : List TV} {x : LS} (hx : Fg s.lp.ls l = some x) (h1 : nd) (h2 : x.ps.length = ps.length) (h3 : nk x.ps x.N) (h4 : iZ s.lp.ls s.lp.fr)
    (h5 : ∀ K0 : AS -> Prop, (∀ s', fT P gs os s' K -> K0 s') -> AW P x.asg ⟨jm x.ps ps (gf s.gh x.fid), s.heap, x.N, (s.lp.fr, s.env) :: s.gh, ⟨s.lp.ls, s.lp.fr + 1, some l⟩⟩ (rZ (Yf P l x.body (Ls l s.lp.fr s.N s.lp.ro d K0)) fun _ _ => False)) :
    aZ P gs d os s K (.yld l) a (some (nd, ps)) F := by
  refine Or.inl ⟨h1, ?_⟩
  unfold Cc
  rw [hx]
  exact ⟨h2, h3, h4, h5 _ fun _ h => h⟩
theorem ZK {F : Prop} (h3 : aM P k = true) (h5 : b = true -> aA P k ps r) (h4 : b = true -> nd) (h6 : own = true -> r.flat = true) (h7 : fT P gs os (s.put d (r.av.mU b)) K) : bM P gs b d os s K (.pure k) (some (nd, ps, own)) F := Or.inl ⟨h3, h4, r, h5, h6, h7⟩
theorem VH {t : Option (Prop × List TV)} (h3 : aM P k = true) (h5 : aA P k ps r) (h4 : nd) (h6 : own = true -> r.flat = true) (h7 : gH P gs n0 (i + 1) os (s.put d r.av) ((none, ft) :: lg) K') : eP P gs n0 i d os s lg K' (.pure k) (some (nd, ps, own)) t ft := Or.inl ⟨h3, h4, r, h5, h6, h7⟩
theorem RI (h3 : aM P k = true) (h5 : b = true -> aA P k ps r) (h4 : b = true -> nd) (h6 : own = true -> r.flat = true) (h7 : gH P gs n0 (i + 1) os (s.put d (r.av.mU b)) ((none, ft) :: lg) K') : nA P gs n0 i b d os s lg K' (.pure k) (some (nd, ps, own)) ft := ⟨h3, h4, r, h5, h6, h7⟩
end
section
variable {P : Program} {gs : List (Option Nat)} {d : Option Tmp} {t : TypeId} {x : Operand} {ty : TypeId} {pos : String} {aft : Array Edge} {g : Option (Nat × Bool)} {os : List Oper} {s : AS} {K : AS -> Prop} {e : TypeId} {i j c n : Nat} {c0 : Option Nat} {f : Int -> Option PT} {p : Int -> Prop} {q : Option Int} {k : Int}
theorem zh (h1 : JI P t = some e) (e1 : s.ev x = .t (.one (.mp j))) (e2 : hget s.heap j = some [.mi c0 n f]) (h : ∀ c, fT P gs os ({ s with heap := hset (hset s.heap j [.mi (some c) n f]) (pK s.heap) [.mt j c (fun _ => False) none] }.put d (.t (.one (.it (pK s.heap))))) K) : kM P gs ⟨d, .range t x, ty, pos, aft, g⟩ os s K := by
  refine Or.inr (Or.inr ?_)
  unfold itF
  simp only [h1, e1, AV.tv, e2]
  exact ⟨trivial, h⟩
theorem DV (e1 : s.ev x = .t (.one (.it i))) (e2 : hget s.heap i = some [.mt j c p q]) (e3 : hget s.heap j = some [.mi (some c) n f]) (hA : (∀ k, (f k).isSome = true -> p k) -> fT P gs os (s.put d (.tup [.one (.iv (.g (.bool false)))])) K)
    (hB : ∀ k y, f k = some y -> ¬ p k -> fT P gs os ({ s with heap := hset s.heap i [.mt j c (fun q => q = k \/ p q) (some k)] }.put d (.tup [.one (.iv (.g (.bool true))), .one (.iv (.g (.int .i64 k))), y.tv])) K) : kM P gs ⟨d, .next x false, ty, pos, aft, g⟩ os s K := by
  refine Or.inr (Or.inr ?_)
  unfold itF
  simp only [e1, AV.tv, e2, e3]
  exact ⟨trivial, trivial, hA, hB⟩
theorem zk (e1 : s.ev x = .t (.one (.it i))) (e2 : hget s.heap i = some [.mt j c p (some k)]) (e3 : hget s.heap j = some [.mi (some c) n f]) (hs : (f k).isSome = true) (h : ∀ y, f k = some y -> fT P gs os (s.put d (.tup [.one (.iv (.g (.int .i64 k))), y.tv])) K) : kM P gs ⟨d, .entry x, ty, pos, aft, g⟩ os s K := by
  refine Or.inr (Or.inr ?_)
  unfold itF
  simp only [e1, AV.tv, e2, e3]
  exact ⟨trivial, trivial, hs, h⟩
end
def bL (P : Program) (x y : Code) (s : AS) (Q : Exit -> AS -> Prop) (v : AV) : Prop := match v.tv.bind TV.bool? with
  | some b => v.nd /\ (b = true -> AW P x s Q) /\ (b = false -> AW P y s Q)
  | none => False
section
variable {P : Program} {s : AS} {Q : Exit -> AS -> Prop}
theorem aC {c : Operand} {x y : Code} (h : bL P x y s Q (s.ev c)) : AW P (.cond c x y) s Q := by
  unfold bL at h
  split at h
  · rename_i b hb
    exact acX hb h.1 h.2.1 h.2.2
  · exact h.elim
theorem aN {x y : Code} {b : Bool} (ht : b = true -> AW P x s Q) (hf : b = false -> AW P y s Q) : bL P x y s Q (.t (.one (.iv (.g (.bool b))))) := ⟨trivial, ht, hf⟩
def akw (r : PV) (H : Hp) : Option (Prop × List TV) -> Prop
  | some (nd, l) => nd /\ match Xw H (J2 l) with
    | some (n2, v, _) => n2 /\ v.eqv r
    | none => False
  | none => False
theorem aK {fn : Func} {r : PV} (h : akw r (hget s.heap) (zO P s fn.results.toList)) : aiw P fn r .ret s := ⟨trivial, h⟩
def agk (r : AV) : Option (Prop × List TV) -> Prop
  | some (nd, l) => nd /\ J2 l = r
  | none => False
theorem Zz {fn : Func} {r : AV} {H' : List (Option (List CV))} {g : List (Nat × List (Nat × AV))} {lp : LP} (h1 : s.heap = H') (h2 : s.gh = g) (h3 : s.lp = lp) (h : agk r (zO P s fn.results.toList)) : anP P fn r H' g lp .ret s := ⟨trivial, h1, h2, h3, h⟩
end
end Go.Sea
namespace Go.Sea
open Go.RowKit
def aat (l fid N : Nat) (lp : LP) (fn : Func) (Q : Exit -> AS -> Prop) (e : Exit) (s1 : AS) : Prop :=
  (match e with | .normal | .ret => True | _ => False) /\ fn.results = #[] /\ s1.lp.ls.tail = lp.ls /\ match s1.lp.ls with
    | x :: _ => x.l = l /\ x.st ≠ .busy /\ match x.pe with
      | none => Q .normal (loopS fid N lp s1)
      | some .ret => Q .ret (loopS fid N lp s1)
      | some (.exit id) => Q (.exit id) (loopS fid N lp s1)
      | some (.goto id) => Q (.goto id) (loopS fid N lp s1)
      | _ => False
    | [] => False
def Pp : AV -> Option (FuncId × List LV)
  | .t (.one (.iv (.g (.func (.func k) A B)))) => if A.size = 0 /\ B.size = 0 then some (k, []) else none
  | .t (.one (.fn (.func k) [] m)) => some (k, m)
  | _ => none
def yV (l : Nat) : TV := .one (.iv (.g (.func (.yield l) #[] #[])))
def yA (l : Nat) : Value := .func (.yield l) #[] #[]
def ahp (ls : List LS) (o : Option Nat) : Prop := match o with
  | some l => (Fg ls l).isSome = true
  | none => True
section
variable {P : Program}
theorem SX {w0 : World} {Z0 : Fr} {J : Nat -> Option Nat} {Z : Nat -> Prop} {s : AS} {a : Act} {w : World} (R : Rel w0 Z0 J Z s a w) {g : Operand} {k : FuncId} {m : List LV} (h : Pp (s.ev g) = some (k, m)) : ∃ B, a.eval g = .func (.func k) #[] B /\ aO (j3 w J Z) B.toList m := by
  have hx := R.ev g
  generalize s.ev g = av at h hx
  generalize a.eval g = vx at hx ⊢
  unfold Pp at h
  split at h
  · split at h
    · rename_i k' A B hs
      cases h
      have hA : A = #[] := Array.eq_empty_of_size_eq_zero hs.1
      have hB : B = #[] := Array.eq_empty_of_size_eq_zero hs.2
      subst hA hB
      cases hx
      exact ⟨#[], rfl, trivial⟩
    · cases h
  · cases h
    obtain ⟨A, B, h1, h2, h3⟩ := hx
    have hA : A = #[] := by
      apply Array.ext'
      cases hA : A.toList with
      | nil => rfl
      | cons x l => rw [hA] at h2; exact h2.elim
    subst hA
    exact ⟨B, h1, h3⟩
  · cases h
theorem run_enterLoop_inner {w : World} (fn : FuncId) (tmps : Array Value) (ps : Array Tmp) (assign body : Code) {l : Nat} {r : Loop} (h : w.heap[l]? = some (.loop r)) :
    (Instr.enterLoop fn tmps ps assign body (some l)).run P w = .ok (w.heap.size, []) (w.alloc (.loop { state := .ready, pending := none, fn, tmps, params := ps, assign, body, defers := r.defers })) := by
  unfold Instr.enterLoop
  simp only [Sem.run_bind, run_getLoop h, run_newObj_alloc, Result.andThen, Sem.run_pure]
theorem qm {w : World} (x : Obj) {b : Nat} {o : Obj} (h : w.heap[b]? = some o) : (w.alloc x).heap[b]? = some o := (Below.heap_alloc _ _ _ (Array.getElem?_eq_some_iff.1 h).1).trans h
theorem Rel.book {w0 : World} {Z0 : Fr} {J : Nat -> Option Nat} {Z : Nat -> Prop} {s : AS} {a : Act} {w : World} (R : Rel w0 Z0 J Z s a w) (o : Obj) : Rel w0 Z0 J Z s a (w.alloc o) := by
  have G : Grow (fun _ => True) w J Z (w.alloc o) J Z := ⟨fun _ _ _ h => h, fun _ h => h, fun b _ h => Below.heap_alloc _ _ _ h.lt, fun _ _ _ _ c e f h => ⟨c, qm _ h, rfl⟩, fun b o' h _ => qm _ h⟩
  refine R.step G ((Below.refl _ _).alloc R.below.size _) R.zfrom (fun b h => by have := R.zlt b h; simp; omega) (fun i b h => by have := R.jlt i b h; refine ⟨this.1, by simp; omega, this.2.2⟩) R.inj rfl R.hole (fun i cs h hne => ?_) (fun t => Or.inr ⟨rfl, AV.bP _⟩) (fun f t => Or.inr ⟨rfl, AV.bP _⟩)
  exact R.keep G h hne trivial (fun c _ => c.bP) fun b _ hb => Below.heap_alloc _ _ _ hb.lt
theorem FI {s : AS} {Q : Exit -> AS -> Prop} {g : Operand} {ps : Array Tmp} {asg body c : Code} {k : FuncId} {m : List LV} {fn : Func} (hg : Pp (s.ev g) = some (k, m)) (hf : P.funcs[k]? = some fn) (hb : fn.body = some c) (hk : aM P k = true)
    (hl : m.length + 1 <= fn.ntmps) (hro : ahp s.lp.ls s.lp.ro) (hls : iZ s.lp.ls s.lp.fr)
    (h : ∀ l, (∀ x, x ∈ s.lp.ls -> x.l ≠ l) -> AW P c ⟨au (yV l :: m.map LV.tv) 0, s.heap, fn.ntmps, (s.lp.fr, s.env) :: s.gh, ⟨⟨l, .ready, none, s.lp.fr, s.N, ps.toList, asg, body⟩ :: s.lp.ls, s.lp.fr + 1, none⟩⟩ (aat l s.lp.fr s.N s.lp fn Q)) :
    AW P (.rangeFunc g ps asg body) s Q := by
  intro w0 Z0 a w n ⟨J, Z, R⟩
  refine wpIn_rangeFunc fun fnid _ => ?_
  rw [aaI]
  obtain ⟨l, mks, W, dd, he, hL, RC, hlo, hfr⟩ : ∃ (l : Nat) (mks : List Nat) (W : World) (dd : Nat), (Instr.enterLoop fnid a.tmps ps asg body Z0.ro).run P w = .ok (l, mks.map mark) W ∧
      W.heap[l]? = some (.loop { state := .ready, pending := none, fn := fnid, tmps := a.tmps, params := ps, assign := asg, body := body, defers := dd }) ∧
      Rel w0 Z0 J Z s { a with defers := mks.map mark ++ a.defers } W /\ w0.heap.size <= l /\ ∀ x, x ∈ s.lp.ls -> x.l ≠ l := by
    have hlt : ∀ x, x ∈ s.lp.ls -> x.l < w.heap.size := fun x hx => by
      obtain ⟨_, _, _, _, h1, _⟩ := R.loops x hx
      exact (Array.getElem?_eq_some_iff.1 h1).1
    have hlow := R.below.size
    rw [<- R.ro]
    cases hr : s.lp.ro with
    | none =>
      refine ⟨w.heap.size + 1, [w.heap.size], _, w.heap.size, run_enterLoop_outer _ _ _ _ _, ?_, ?_, by omega, fun x hx => by have := hlt x hx; omega⟩
      · have := World.alloc_heap_new (w.alloc (.deferred (some []))) (.loop { state := .ready, pending := none, fn := fnid, tmps := a.tmps, params := ps, assign := asg, body := body, defers := w.heap.size })
        rwa [World.size_alloc] at this
      · have R2 := (R.book (.deferred (some []))).book (.loop { state := .ready, pending := none, fn := fnid, tmps := a.tmps, params := ps, assign := asg, body := body, defers := w.heap.size })
        obtain ⟨M, m1, m2, m3⟩ := R2.nodef
        have m3' : ∀ b, b ∈ M ++ Z0.pin -> b < w.heap.size := by
          obtain ⟨M0, n1, n2, n3⟩ := R.nodef
          obtain rfl := qV (m1.symm.trans n1)
          exact fun b hb => (Array.getElem?_eq_some_iff.1 (n3 b hb).2).1
        refine { R2 with nodef := ⟨w.heap.size :: M, by simp [m1], ?_, fun b hb => ?_⟩ }
        · rw [List.cons_append, List.nodup_cons]
          exact ⟨fun hm => by have := m3' _ hm; omega, m2⟩
        · rw [List.cons_append] at hb
          rcases List.mem_cons.1 hb with rfl | hb
          · exact ⟨hlow, qm _ (World.alloc_heap_new w _)⟩
          · exact m3 b hb
    | some l0 =>
      rw [hr] at hro
      obtain ⟨x0, hx0⟩ := Option.isSome_iff_exists.1 hro
      obtain ⟨hm0, hl0⟩ := vC hx0
      obtain ⟨fn0, tmps0, dd0, _, g1, _⟩ := R.loops x0 hm0
      rw [hl0] at g1
      refine ⟨w.heap.size, [], _, dd0, run_enterLoop_inner _ _ _ _ _ g1, World.alloc_heap_new w _, R.book _, hlow, fun x hx => by have := hlt x hx; omega⟩
  obtain ⟨B, hgv, hB⟩ := SX RC hg
  have hgv' : a.eval g = .func (.func k) #[] B := hgv
  refine ⟨l, mks.map mark, W, { target := .fn (.func k) B, args := #[yA l] }, W, k, #[yA l] ++ B, W, he, ?_, fun _ _ => (d9 _).fn _, ?_, fun hx => (by rw [(d9 _).depth] at hx; cases hx), (d9 _).calls (callsIn_wide.1 (callsIn_of_wp_marks (F := Fence.wide) (n := 0) hf hb trivial ?_))⟩
  · simp only [resolve, hgv', yA]
    simp [go_sem]
  · have := uj (P := P) hk (#[yA l] ++ B) W
    simp [invoke, go_sem, this]
  obtain ⟨M, m1, m2, m3⟩ := RC.nodef
  have hlsf := rF hls
  let Z1 : Fr := ⟨Z0.z, fun f t => if f = s.lp.fr then a.tmps.getD t undef else Z0.g f t, none, M ++ Z0.pin⟩
  have ha : aO (bQ W J Z) (#[yA l] ++ B).toList (yV l :: m.map LV.tv) := by
    simp only [Array.toList_append]
    exact ⟨Rd.g (yA l) rfl, aO.dG.2 (hB.mono fun _ _ => j3.tv)⟩
  have hlen := ha.length
  simp only [Array.length_toList, List.length_cons, List.length_map] at hlen
  have R1 : Rel w0 Z1 J Z ⟨au (yV l :: m.map LV.tv) 0, s.heap, fn.ntmps, (s.lp.fr, s.env) :: s.gh, ⟨⟨l, .ready, none, s.lp.fr, s.N, ps.toList, asg, body⟩ :: s.lp.ls, s.lp.fr + 1, none⟩⟩ { tmps := (#[yA l] ++ B) ++ Array.replicate (fn.ntmps - (#[yA l] ++ B).size) undef, defers := [] } W := by
    refine ⟨⟨[], rfl, by simpa [Z1] using m2, fun b hb => m3 b (by simpa [Z1] using hb)⟩, ?_, RC.below, RC.zfrom, RC.zlt, RC.jlt, RC.inj, RC.hole, RC.blk, fun t => ?_, fun f t => ?_, fun y hy => ?_, ?_, rfl⟩
    · show _ = fn.ntmps
      simp only [Array.size_append, Array.size_replicate] at hlen ⊢; omega
    · simp only [AS.get, nR, Nat.zero_le, if_true, Nat.sub_zero]
      cases hx : (yV l :: m.map LV.tv)[t]? with
      | none => simp; trivial
      | some x =>
        obtain ⟨u, hu, hr⟩ := ha.get hx
        have : ((#[yA l] ++ B) ++ Array.replicate (fn.ntmps - (#[yA l] ++ B).size) undef).getD t undef = u := by
          rw [Array.getElem?_toList] at hu
          have hlt : t < (#[yA l] ++ B).size := (Array.getElem?_eq_some_iff.1 hu).1
          simp only [Array.getD_eq_getD_getElem?, Array.getElem?_append_left hlt, hu, Option.getD_some]
        rw [this]
        exact hr
    · rw [oQ]
      by_cases hf : f = s.lp.fr
      · simp only [Z1, if_pos hf]; exact RC.slots t
      · simp only [Z1, if_neg hf]; exact RC.ghost f t
    · rcases List.mem_cons.1 hy with rfl | hy
      · refine ⟨fnid, a.tmps, dd, hlo, ?_, RC.size, fun t => by simp only [Z1, if_true]⟩
        simpa [LS.loop] using hL
      · obtain ⟨fn', tmps', dd', k0, k1, k2, k3⟩ := RC.loops y hy
        refine ⟨fn', tmps', dd', k0, k1, k2, fun t => ?_⟩
        simp only [Z1, if_neg (hlsf y hy)]; exact k3 t
    · simp only [List.map_cons, List.nodup_cons]
      refine ⟨fun hm => ?_, RC.lnd⟩
      obtain ⟨x, hx, hx2⟩ := List.mem_map.1 hm
      exact hfr x hx hx2
  refine wpIn_mono (h l hfr w0 Z1 _ W 0 ⟨J, Z, R1⟩) fun e a1 w1 ⟨s1, R2, q⟩ => ?_
  obtain ⟨J1, Y1, R2⟩ := R2
  obtain ⟨he1, hres, htl, q⟩ := q
  have fin : LeavesInM Fence.wide 0 P fn a1.tmps (rangePost (fo Z0.ro) n P l (fun e a' w' => ∃ s', mE w0 Z0 s' a' w' /\ Q e s') { a with defers := mks.map mark ++ a.defers }) a1.defers .returning w1 := by
    obtain ⟨M', m1', _⟩ := R2.nodef
    refine R2.leaves M' m1' fun a2 w2 R3 h2 h3 => ?_
    refine ⟨.tuple #[], by simp [results, hres], ?_⟩
    cases hs1 : s1.lp.ls with
    | nil => rw [hs1] at q; exact q.elim
    | cons x r =>
      rw [hs1] at q htl
      obtain ⟨hxl, hst, q⟩ := q
      obtain ⟨fn1, tmps1, dd1, k0, k1, k2, k3⟩ := R3.loops x (by rw [hs1]; simp)
      rw [hxl] at k0 k1
      have hnd := R3.lnd
      rw [hs1] at hnd
      simp only [List.map_cons, List.nodup_cons] at hnd
      simp only [List.tail_cons] at htl
      have G : lF (fun _ => True) w2 J1 Y1 (w2.putObj l (.loop { x.loop fn1 tmps1 dd1 with state := .exhausted })) J1 Y1 := Ad k1 rfl
      have R5 : Rel w0 Z0 J1 Y1 (loopS s.lp.fr s.N s.lp s1) { a with defers := mks.map mark ++ a.defers } (w2.putObj l (.loop { x.loop fn1 tmps1 dd1 with state := .exhausted })) := by
        refine ⟨⟨M, m1, m2, fun b hb => ?_⟩, RC.size, R3.below.trans (tY k1 k0), R3.zfrom, fun c h => by rw [World.putObj_size]; exact R3.zlt c h, fun i c h => by rw [World.putObj_size]; exact R3.jlt i c h, R3.inj, R3.hole, fun i cs h hne => ?_, fun t => ?_, fun f t => ?_, fun y hy => ?_, RC.lnd, RC.ro⟩
        · obtain ⟨M4, _, _, n3⟩ := R3.nodef
          have := n3 b (List.mem_append_right _ hb)
          refine ⟨this.1, (World.putObj_heap_other (fun e => ?_)).trans this.2⟩
          subst e; have := this.2; rw [k1] at this; cases this
        · obtain ⟨c, h1, h2⟩ := R3.blk i cs h hne
          exact ⟨c, h1, h2.turn k1 rfl rfl⟩
        · have := R3.ghost s.lp.fr t
          simp only [Z1, if_true] at this
          exact bB.eZ G (AV.bP _) this
        · show bB _ J1 Y1 _ (gk (ny s1.gh s.lp.fr) f t)
          rw [qU]
          by_cases hf : f = s.lp.fr
          · rw [if_pos hf]; trivial
          · rw [if_neg hf]
            have := R3.ghost f t
            simp only [Z1, if_neg hf] at this
            exact bB.eZ G (AV.bP _) this
        · have hy' : y ∈ s.lp.ls := hy
          obtain ⟨fn', tmps', dd', p0, p1, p2, p3⟩ := R3.loops y (by rw [hs1, htl]; exact List.mem_cons_of_mem _ hy')
          refine ⟨fn', tmps', dd', p0, (World.putObj_heap_other (hfr y hy')).trans p1, p2, fun t => ?_⟩
          have := p3 t
          simpa only [Z1, if_neg (hlsf y hy')] using this
      have hend : (Instr.endLoop l).run P w2 = .ok x.pe (w2.putObj l (.loop { x.loop fn1 tmps1 dd1 with state := .exhausted })) := run_endLoop (P := P) k1 hst
      generalize hw4 : w2.putObj l (.loop { x.loop fn1 tmps1 dd1 with state := .exhausted }) = w4 at R5 hend
      refine ⟨_, w4, hend, ?_⟩
      clear hw4 hend G
      cases hpx : x.pe with
      | none => rw [hpx] at q; exact ⟨_, ⟨_, _, R5⟩, q⟩
      | some j =>
        rw [hpx] at q
        cases j <;> first | exact q.elim | exact wpIn_ret ⟨_, ⟨_, _, R5⟩, q⟩ | exact wpIn_exit ⟨_, ⟨_, _, R5⟩, q⟩ | exact wpIn_goto ⟨_, ⟨_, _, R5⟩, q⟩
  cases e <;> simp at he1 <;> exact fin
end
end Go.Sea
namespace Go.Sea
open Go.RowKit
theorem eT {P : Program} {s : AS} {Q : Exit -> AS -> Prop} {g : Operand} {ps : Array Tmp} {asg body c : Code} {k : FuncId} {m : List LV} {fn : Func} (hg : Pp (s.ev g) = some (k, m)) (hf : P.funcs[k]? = some fn) (hb : fn.body = some c) (hk : aM P k = true)
    (hl : m.length + 1 <= fn.ntmps) (hro : ahp s.lp.ls s.lp.ro) (hls : iZ s.lp.ls s.lp.fr)
    (h : ∀ l, (∀ x, x ∈ s.lp.ls -> x.l ≠ l) -> ∀ A B : Code, A = asg -> B = body -> AW P c ⟨au (yV l :: m.map LV.tv) 0, s.heap, fn.ntmps, (s.lp.fr, s.env) :: s.gh, ⟨⟨l, .ready, none, s.lp.fr, s.N, ps.toList, A, B⟩ :: s.lp.ls, s.lp.fr + 1, none⟩⟩ (aat l s.lp.fr s.N s.lp fn Q)) :
    AW P (.rangeFunc g ps asg body) s Q := FI hg hf hb hk hl hro hls fun l hl' => h l hl' asg body rfl rfl
theorem vN {P : Program} {s : AS} {Q : Exit -> AS -> Prop} {A c : Code} (e : A = c) (h : AW P c s Q) : AW P A s Q := e ▸ h
end Go.Sea
namespace Go.Sea
open Go.RowKit
structure Need (p : Prop) : Prop where
  out : p
structure Told (p : Prop) : Prop where
  out : p
section
variable {P : Program} {gs : List (Option Nat)} {n0 i : Nat} {d : Option Tmp} {os : List Oper} {s : AS} {lg : Lg} {K : AS -> Prop} {K' : Lg -> AS -> Prop} {b : Bool} {k : FuncId} {nd : Prop} {ps : List PT} {own : Bool} {r : PV} {ft : List Nat}
theorem aG {F : Prop} {t : Option (Prop × List TV)} (h3 : aM P k = true) (h5 : aA P k ps r) (h4 : Need nd) (h7 : fT P gs os (s.put d r.av) K) (h6 : own = true -> r.flat = true := by first | (intro h; cases h; done) | (intro _; rfl)) : aZ P gs d os s K (.pure k) (some (nd, ps, own)) t F := aaY h3 h5 h4.out h6 h7
theorem aV {F : Prop} (h3 : aM P k = true) (h5 : b = true -> aA P k ps r) (h4 : Need (b = true -> nd)) (h7 : fT P gs os (s.put d (r.av.mU b)) K) (h6 : own = true -> r.flat = true := by first | (intro h; cases h; done) | (intro _; rfl)) : bM P gs b d os s K (.pure k) (some (nd, ps, own)) F := ZK h3 h5 h4.out h6 h7
theorem bR {t : Option (Prop × List TV)} (h3 : aM P k = true) (h5 : aA P k ps r) (h4 : Need nd) (h7 : gH P gs n0 (i + 1) os (s.put d r.av) ((none, ft) :: lg) K') (h6 : own = true -> r.flat = true := by first | (intro h; cases h; done) | (intro _; rfl)) : eP P gs n0 i d os s lg K' (.pure k) (some (nd, ps, own)) t ft := VH h3 h5 h4.out h6 h7
theorem jG (h3 : aM P k = true) (h5 : b = true -> aA P k ps r) (h4 : Need (b = true -> nd)) (h7 : gH P gs n0 (i + 1) os (s.put d (r.av.mU b)) ((none, ft) :: lg) K') (h6 : own = true -> r.flat = true := by first | (intro h; cases h; done) | (intro _; rfl)) : nA P gs n0 i b d os s lg K' (.pure k) (some (nd, ps, own)) ft := RI h3 h5 h4.out h6 h7
theorem Ky {F : Prop} {a : sM} {l m : List LV} {ps : List TV} {r : AV} {H' : List (Option (List CV))} (h3 : aM P k = true) (h5 : iD P k (l.map LV.tv ++ ps ++ m.map LV.tv) s.heap r H') (h4 : Need nd) (h7 : fT P gs os ({ s with heap := H' }.put d r) K) : aZ P gs d os s K (.clo k l m) a (some (nd, ps)) F := afU h3 h5 h4.out h7
theorem lV {F : Prop} {a : sM} {ps : List TV} {r : AV} {H' : List (Option (List CV))} (h3 : aM P k = true) (h5 : iD P k ps s.heap r H') (h4 : Need nd) (h7 : fT P gs os ({ s with heap := H' }.put d r) K) : aZ P gs d os s K (.pure k) a (some (nd, ps)) F := Yz h3 h5 h4.out h7
theorem nP {a : sM} {o : Oper} (h1 : b = true -> kM P gs o os s K) (h2 : b = false -> fT P gs os (s.put o.dst .any) K) : bM P gs b d os s K (.pure k) a (splitK P gs b o os s K) := Zj h1 h2
end
theorem qx {P : Program} {c : Code} {s : AS} {Q : Exit -> AS -> Prop} (L : List Nat) (h1 : Need (BN L s)) (h2 : AW P c (Eu L s) Q) : AW P c s Q := fun w0 Z0 a w n R => h2 w0 Z0 a w n (mE.Eu L R h1.out)
theorem aL {P : Program} {s : AS} {Q : Exit -> AS -> Prop} {c : Code} {ι : Type} (U : List Nat) (C : ι -> List (Nat × AV)) (HC : ι -> List (Nat × List CV)) (I : ι -> Prop) (μ : ι -> Nat) (i0 : ι)
    (hg : ∀ i, I i -> Told (JO (dL s.heap (HC i)) s.gh s.gh))
    (h1 : Told (Td (dL s.heap (HC i0)) s.env (C i0 ++ bG s.env U))) (h2 : Told (Ij (okB (dL s.heap (HC i0))) s.heap (dL s.heap (HC i0)))) (hi : I i0)
    (round : ∀ i, I i -> ∀ K : AS -> Prop, (∀ s' j, Told (UF s.N s.lp s.gh C HC I μ s.env s.heap U i j s') -> K s') -> AW P c ⟨C i ++ bG s.env U, dL s.heap (HC i), s.N, s.gh, s.lp⟩ (rZ K Q)) : AW P (.loop c) s Q :=
  aap U C HC I μ i0 (fun i h => (hg i h).out) h1.out h2.out hi fun i h K hK => round i h K fun s' j h' => hK s' j h'.out
theorem l6 (i : Nat) {l : List CV} (h : ∀ c, c ∈ l -> j4 c) : List.map (CV.bU i) l = l := by
  refine (List.map_congr_left fun c hc => ?_).trans (List.map_id l)
  have := h c hc
  cases c <;> first | rfl | exact this.elim
end Go.Sea
namespace Go.Sea
open Go.RowKit
def FP (f : Nat -> IV) (n : Nat) : List CV := (List.range n).map fun j => .iv (f j)
section
variable (f g : Nat -> IV) (n m k i : Nat)
theorem NR : ∀ c, c ∈ FP f n -> j4 c := by
  intro c hc
  obtain ⟨j, _, rfl⟩ := List.mem_map.1 hc
  trivial
theorem UW : List.map (CV.bU i) (FP f n) = FP f n := l6 i (NR f n)
end
theorem bQ.pt {w : World} {J : Nat -> Option Nat} {Z : Nat -> Prop} {v : Value} {x : PT} (h : bQ w J Z v x.tv) : dH w Z v x := by
  cases x with
  | one c => exact h
  | agg cs => obtain ⟨A, e, h⟩ := h; exact ⟨A, e, (aO.dG (R := bK w J Z) (f := CV.iv)).1 h⟩
theorem l7.eqv {P : Program} {k : FuncId} {args args' : List PT} {cs : List CV} {r : Nat -> AV} (h : l7 P k (args.map PT.tv) cs r) (ha : aO PT.eqv args' args) : l7 P k (args'.map PT.tv) cs r := by
  intro H i hH w0 Z0 J Z s a w vs R hs hv
  refine h H i hH w0 Z0 J Z s a w vs R hs ?_
  have h1 : aO (dH w Z) vs.toList args' := (aO.dG.1 hv).mono fun _ _ h => bQ.pt h
  have h2 : aO (dH w Z) vs.toList args := aO.Br (S := PT.eqv) (T := dH w Z) (fun _ _ _ h he => dH.eqv h he) h1 ha
  exact aO.dG.2 (h2.mono fun _ _ h => dH.tv h)
def an0 (n : Nat) : List CV := List.replicate n .any
theorem Ak {ok : Nat -> Prop} : ∀ {l : List CV} {n : Nat}, l.length = n -> wkC ok l (an0 n)
  | [], _, rfl => trivial
  | c :: l, _, rfl => ⟨Or.inl rfl, Ak (l := l) rfl⟩
end Go.Sea
namespace Go.Sea
open Go.RowKit
def ko : List Oper -> Nat -> Option Oper
  | [], _ => none
  | o :: _, 0 => some o
  | _ :: os, k + 1 => ko os k
theorem I8 : ∀ (os : List Oper) (i : Nat), ko os i = os[i]?
  | [], _ => by simp [ko]
  | _ :: _, 0 => by simp [ko]
  | _ :: os, k + 1 => by simp [ko, I8 os k]
theorem ahz (o : Oper) (os : List Oper) : ko (o :: os) 0 = some o := rfl
theorem akn (o : Oper) (os : List Oper) (k : Nat) : ko (o :: os) (k + 1) = ko os k := rfl
def Ny (P : Program) (n0 i : Nat) (s : AS) (K : AS -> Prop) : Option Oper -> Prop
  | some o => o.guard = none /\ match kU P (n0 + i) s.ev (hget s.heap) o with
    | some (nd, v, ef) => hget s.heap (n0 + i) = none /\ gP s o.dst /\ nd /\ K (s.ent o.dst (n0 + i) v ef)
    | none => False
  | none => False
theorem Ny.mono {P : Program} {n0 i : Nat} {s : AS} {K K' : AS -> Prop} (hk : ∀ s, K s -> K' s) : ∀ {o : Option Oper}, Ny P n0 i s K o -> Ny P n0 i s K' o
  | none, h => h
  | some o, ⟨hg, h⟩ => by
    refine ⟨hg, ?_⟩
    split at h
    · exact ⟨h.1, h.2.1, h.2.2.1, hk _ h.2.2.2⟩
    · exact h
structure Leaf (a b : AS) : Prop where
  out : a = b
theorem Rn (P : Program) (n0 i : Nat) (s : AS) (K : AS -> Prop) (o : Oper) : Ny P n0 i s K (some o) = (o.guard = none /\ match kU P (n0 + i) s.ev (hget s.heap) o with
    | some (nd, v, ef) => hget s.heap (n0 + i) = none /\ gP s o.dst /\ nd /\ K (s.ent o.dst (n0 + i) v ef)
    | none => False) := rfl
end Go.Sea
namespace Go.Sea
open Go.RowKit Go.Sea
attribute [go_sem] abW gf gk ny Fg EF iZ nk ako Yf Ls Gq aat loopS aaE ahp yV yA bAV jm qC List.tail_cons Option.isNone_none Option.isNone_some Vs aaq SG akw agk LQ JN Lf LH Y0 XO Zu R9 Iz Kw OZ OD O8 AS.ent Eff.gq Eff.tgt sI AV.refs TV.refs CV.refs LV.refs Op.operands Call.operands List.append_toArray List.push_toArray List.flatMap_cons List.flatMap_nil List.toList_toArray Option.toArray pK I7 List.reverse_cons List.reverse_nil kU AS.ev tJ lk AS.get AV.tv AV.nd AS.qQ AS.put au PT.tv PV.av AV.mU hset hget TV.cells gP rZ gB isB toB TV.bool? TV.int? ae9 qh oO Eb Gl YN Gy lq Kz u7 iH nT r9 jF zK TV.lv LV.tv mK ig kX AV.bU CV.bU AV.has TV.has CV.has LV.has eu iM kG zQ IE uo Fa Xw Im j4 iA bA List.map_cons List.map_nil List.length_nil List.length_cons List.getElem?_cons_zero List.getElem?_cons_succ List.getElem?_nil Option.getD_some Option.getD_none Option.bind_some Option.bind_none List.take_succ_cons List.take_zero List.drop_succ_cons List.drop_zero List.take_nil List.drop_nil List.cons_append List.nil_append List.append_nil List.getD_cons_zero List.getD_cons_succ Option.map_some Option.map_none Option.isSome_some Option.isSome_none List.size_toArray List.any_cons List.any_nil List.mem_cons if_true if_false ite_true ite_false cond_true cond_false Nat.zero_add Nat.add_zero Nat.sub_zero Nat.le_refl Nat.zero_mul Nat.mul_zero Nat.one_mul Nat.mul_one Int.toNat_zero Int.toNat_natCast Bool.or_false Bool.false_or Bool.or_true Bool.true_or Bool.and_true Bool.true_and Bool.and_false Bool.false_and beq_self_eq_true beq_true beq_false Bool.not_true Bool.not_false and_true true_and and_false false_and and_self imp_self Bool.cond_false_right Bool.cond_true_left implies_true forall_const true_implies false_implies Option.some.injEq Prod.mk.injEq ne_eq not_false_eq_true not_true_eq_false eq_self Nat.lt_irrefl Nat.not_lt_zero Rn ahz akn yOp pV U1 GQ Ct Me pI IQ BF II M7 Nt AB RY Zk Q7 AA uO ncF Ao UG tX BA tu GL Us kD OE boF ahk ajN adN adT Value.bool.injEq Value.int.injEq vR eO TV.dp IV.eqv PT.eqv PV.eqv aO bG dL afl AS.zi AS.afm Eu BN Jq Ni UE Xc pO SH adv hdel oK eqF eqC TR lI eqV decide_true zO J2 XQ Td JO UF Ij wkC wkV RS SA AV.ok TV.ok CV.ok LV.ok okB forall_eq_or_imp forall_eq List.not_mem_nil List.mem_singleton true_or or_true or_false false_or or_self exists_prop AV.t.injEq TV.one.injEq CV.iv.injEq IV.g.injEq TV.agg.injEq List.cons.injEq
theorem zB : (∀ a b : Bool, ((a && b) = true) = (a = true /\ b = true)) /\ (∀ a b : Bool, ((a || b) = true) = (a = true \/ b = true)) /\ (∀ a : Bool, ((!a) = true) = (a = false)) /\ (∀ a b : Bool, (a && b) = false ↔ a = false \/ b = false) /\ (∀ a b : Bool, (a || b) = false ↔ a = false /\ b = false) /\ (∀ (p : Prop) [Decidable p], (decide p = true) = p) /\ (∀ (p : Prop) [Decidable p], decide p = false ↔ ¬ p) /\ (∀ a : Bool, ((!a) = false) = (a = true)) /\ (∀ a : Bool, (!!a) = a) /\ (∀ a b : Int, ¬ a <= b ↔ b < a) /\ (∀ a b : Int, ¬ a < b ↔ b <= a) :=
  ⟨Bool.and_eq_true, Bool.or_eq_true, Bool.not_eq_true', @Bool.and_eq_false_iff, @Bool.or_eq_false_iff, @decide_eq_true_eq, @decide_eq_false_iff_not, Bool.not_eq_false', Bool.not_not, @Int.not_le, @Int.not_lt⟩
theorem zC {α : Type} [BEq α] [LawfulBEq α] (a b : α) : ((a != b) = true ↔ a ≠ b) /\ ((a == b) = true ↔ a = b) /\ ((a != b) = false ↔ a = b) /\ ((a == b) = false ↔ a ≠ b) := ⟨bne_iff_ne, beq_iff_eq, bne_eq_false_iff_eq, beq_eq_false_iff_ne⟩
theorem zM {α β : Type} (f : α -> β) : (∀ a l, List.map f (a :: l) = f a :: List.map f l) /\ List.map f [] = [] := ⟨fun _ _ => rfl, rfl⟩
theorem zN {α : Type} : (∀ (a : α) l m, a :: l ++ m = a :: (l ++ m)) /\ (∀ l : List α, [] ++ l = l) := ⟨fun _ _ _ => rfl, fun _ => rfl⟩
end Go.Sea
set_option maxRecDepth 100000
set_option maxHeartbeats 4000000
namespace Go.Proofs.YtcfechepbamhkaaGreat
open Go.RowKit Go.Sea
open Nat renaming reduceAdd -> xA, reduceLT -> xL, reduceLeDiff -> xD, reduceEqDiff -> xE, reduceMul -> xM, reduceSub -> xS, reduceBEq -> xB
theorem IW : aM Tryz.prog 172 = true := by kernel_rfl
theorem ah4 : fM Tryz.prog 249 = true := by kernel_rfl
theorem WJ : dF Tryz.prog 249 0 = some 0 := by kernel_rfl
theorem Uz : dF Tryz.prog 249 1 = some 1 := by kernel_rfl
theorem aa5 : dF Tryz.prog 60 0 = some 0 := by kernel_rfl
theorem afc : dF Tryz.prog 60 1 = some 1 := by kernel_rfl
theorem Yw : dA Tryz.prog 249 0 = some (0, 1) := by kernel_rfl
theorem ZV : dA Tryz.prog 249 1 = some (1, 1) := by kernel_rfl
theorem ahQ : lD Tryz.prog 249 = some (true, 2) := by kernel_rfl
theorem aoP : lD Tryz.prog 3 = some (false, 1) := by kernel_rfl
theorem aiH : fO Tryz.prog 249 = some [.iv (.g (.int .i64 0)), .iv (.g (.int .i64 0))] := by kernel_rfl
attribute [go_sem] IW ah4 WJ Uz aa5 afc Yw ZV ahQ aoP aiH
def gL (x y : Int) : Bool := decide ((-1000000 <= x /\ x <= 1000000) /\ (-1000000 <= y /\ y <= 1000000))
theorem Kj {x y : Int} : gL x y = true ↔ ((-1000000 <= x /\ x <= 1000000) /\ (-1000000 <= y /\ y <= 1000000)) := decide_eq_true_iff
def crs (ax ay bx by' cx cy : Int) : Int := (bx - ax) * (cy - ay) - (by' - ay) * (cx - ax)
def TW (z : Int) : Int := if z > 0 then 1 else if z < 0 then -1 else 0
def Xn (ax ay bx by' cx cy : Int) : Int := TW (crs ax ay bx by' cx cy)
theorem nD {u v M : Int} (hu : -M <= u /\ u <= M) (hv : -M <= v /\ v <= M) : -(M * M) <= u * v /\ u * v <= M * M := by
  have hM : 0 <= M := by omega
  have h1 : u.natAbs <= M.toNat := by omega
  have h2 : v.natAbs <= M.toNat := by omega
  have h3 : (u * v).natAbs <= M.toNat * M.toNat := by rw [Int.natAbs_mul]; exact Nat.mul_le_mul h1 h2
  have h4 : ((M.toNat * M.toNat : Nat) : Int) = M * M := by rw [Int.natCast_mul, Int.toNat_of_nonneg hM]
  omega
theorem af3 (z : Int) : TW z = -1 \/ TW z = 0 \/ TW z = 1 := by unfold TW; split <;> first | omega | (split <;> omega)
theorem aiL (z : Int) : -1 <= TW z /\ TW z <= 1 := by rcases af3 z with h | h | h <;> rw [h] <;> decide
theorem H9 (ax ay bx by' cx cy : Int) : -1 <= Xn ax ay bx by' cx cy /\ Xn ax ay bx by' cx cy <= 1 := aiL _
def onB (px py ax ay bx by' : Int) : Bool := decide (Xn ax ay bx by' px py = 0 /\ min ax bx <= px /\ px <= max ax bx /\ min ay by' <= py /\ py <= max ay by')
def PZ (ax ay bx by' cx cy dx dy : Int) : Bool := decide (Xn ax ay bx by' cx cy * Xn ax ay bx by' dx dy < 0 /\ Xn cx cy dx dy ax ay * Xn cx cy dx dy bx by' < 0) || (onB ax ay cx cy dx dy || onB bx by' cx cy dx dy || onB cx cy ax ay bx by' || onB dx dy ax ay bx by')
theorem aiW {ax ay bx by' cx cy : Int} (ha : gL ax ay = true) (hb : gL bx by' = true) (hc : gL cx cy = true) : (-4000000000000 <= (bx - ax) * (cy - ay) /\ (bx - ax) * (cy - ay) <= 4000000000000) /\ (-4000000000000 <= (by' - ay) * (cx - ax) /\ (by' - ay) * (cx - ax) <= 4000000000000) := by
  rw [Kj] at ha hb hc
  have h1 := nD (u := bx - ax) (v := cy - ay) (M := 2000000) (by omega) (by omega)
  have h2 := nD (u := by' - ay) (v := cx - ax) (M := 2000000) (by omega) (by omega)
  omega
theorem yT (x y : Int) : aA Tryz.prog 144 [.agg [.g (.int .i64 (x)), .g (.int .i64 (y))]] (.t (.one (.g (.bool (gL x y))))) := by
  refine ak Tryz.func144 rfl (by rw [Tryz.ntmps144]; simp) ?_
  simp only [Tryz.ntmps144, zM, PT.tv, au, Nat.zero_add, Nat.reduceAdd]
  repeat' (first
 | ((with_reducible show AW _ _ _ _); first
 | (with_reducible first | refine aS (fun K hK => ?_) | refine aT ?_)
 | (first
 | (with_reducible first | refine aP 0 [0] ?_ | refine aP 1 [1] ?_)))
 | (with_reducible refine aK ?_)
 | ((fail_if_success (with_reducible show AW _ _ _ _)); simp (maxSteps := 2000000) only [go_sem, reduceIte, reduceCtorEq, xA, xL, xD, xE, xM, xS, xB, Tryz.f144, gL])
 | ((with_reducible refine hK _ ?_); clear hK K))
  all_goals ((try refine Bool.eq_iff_iff.2 ?_); (simp only [Bool.and_eq_true, Bool.or_eq_true, Bool.not_eq_true', decide_eq_true_eq, decide_eq_false_iff_not, bne_iff_ne, beq_iff_eq, ne_eq, ge_iff_le, gt_iff_lt, cond_eq_ite, iff_self, eq_self]; omega))
theorem XW (ax ay bx by' : Int) (ha : gL ax ay = true) (hb : gL bx by' = true) : aA Tryz.prog 243 [.agg [.g (.int .i64 (ax)), .g (.int .i64 (ay))], .agg [.g (.int .i64 (bx)), .g (.int .i64 (by'))]] (.t (.agg [.g (.int .i64 (bx - ax)), .g (.int .i64 (by' - ay))])) := by
  have hA := Kj.1 ha
  have hB := Kj.1 hb
  refine ak Tryz.func243 rfl (by rw [Tryz.ntmps243]; simp) ?_
  simp only [Tryz.ntmps243, zM, PT.tv, au, Nat.zero_add, Nat.reduceAdd]
  repeat' (first
 | ((with_reducible show AW _ _ _ _); first
 | (with_reducible first | refine aS (fun K hK => ?_) | refine aT ?_)
 | (first
 | (with_reducible first | refine aP 0 [0,1] ?_ | refine aP 1 [2,3,4] ?_)))
 | (with_reducible refine aK ?_)
 | ((fail_if_success (with_reducible show AW _ _ _ _)); simp (maxSteps := 2000000) only [go_sem, reduceIte, reduceCtorEq, xA, xL, xD, xE, xM, xS, xB, Tryz.f243])
 | ((fail_if_success (with_reducible show AW _ _ _ _)); simp (disch := omega) only [aY, iP, iX])
 | ((with_reducible refine hK _ ?_); clear hK K))
theorem adM (u v x y : Int) (h1 : -4000000000000 <= u * y /\ u * y <= 4000000000000) (h2 : -4000000000000 <= v * x /\ v * x <= 4000000000000) : aA Tryz.prog 244 [.agg [.g (.int .i64 (u)), .g (.int .i64 (v))], .agg [.g (.int .i64 (x)), .g (.int .i64 (y))]] (.t (.one (.g (.int .i64 (u * y - v * x))))) := by
  refine ak Tryz.func244 rfl (by rw [Tryz.ntmps244]; simp) ?_
  simp only [Tryz.ntmps244, zM, PT.tv, au, Nat.zero_add, Nat.reduceAdd]
  repeat' (first
 | ((with_reducible show AW _ _ _ _); first
 | (with_reducible first | refine aS (fun K hK => ?_) | refine aT ?_)
 | (first
 | (with_reducible first | refine aP 0 [0,1] ?_ | refine aP 1 [2,3] ?_)))
 | (with_reducible refine aK ?_)
 | ((fail_if_success (with_reducible show AW _ _ _ _)); simp (maxSteps := 2000000) only [go_sem, reduceIte, reduceCtorEq, xA, xL, xD, xE, xM, xS, xB, Tryz.f244])
 | ((fail_if_success (with_reducible show AW _ _ _ _)); simp (disch := omega) only [aY, iP, iX])
 | ((with_reducible refine hK _ ?_); clear hK K))
theorem amG (x : Int) : aA Tryz.prog 172 [.one (.g (.int .i64 (x)))] (.t (.one (.g (.bool (false))))) := by
  refine ak Tryz.func172 rfl (by rw [Tryz.ntmps172]; simp) ?_
  simp only [Tryz.ntmps172, zM, PT.tv, au, Nat.zero_add, Nat.reduceAdd]
  repeat' (first
 | ((with_reducible show AW _ _ _ _); first
 | (with_reducible first | refine aS (fun K hK => ?_) | refine aT ?_)
 | (first
 | (with_reducible first | refine aP 0 [0] ?_ | refine aP 1 [0] ?_)))
 | (with_reducible refine aK ?_)
 | ((fail_if_success (with_reducible show AW _ _ _ _)); simp (maxSteps := 2000000) only [go_sem, reduceIte, reduceCtorEq, xA, xL, xD, xE, xM, xS, xB, Tryz.f172])
 | ((with_reducible refine hK _ ?_); clear hK K))
  all_goals simp
theorem G5 (x y : Int) : aA Tryz.prog 166 [.one (.g (.int .i64 (x))), .one (.g (.int .i64 (y)))] (.t (.one (.g (.int .i64 (if x < y then -1 else if y < x then 1 else 0))))) := by
  refine ak Tryz.func166 rfl (by rw [Tryz.ntmps166]; simp) ?_
  simp only [Tryz.ntmps166, zM, PT.tv, au, Nat.zero_add, Nat.reduceAdd]
  repeat' (first
 | ((with_reducible show AW _ _ _ _); first
 | (with_reducible first | refine aS (fun K hK => ?_) | refine aI ?_ | refine aT ?_ | refine aC ?_)
 | (first
 | (with_reducible first | refine aP 0 [0,1] ?_ | refine aP 1 [0,1] ?_ | refine aP 2 [0,1,5] ?_ | refine aP 3 [0,1,5,6] ?_ | refine aP 7 [0,1,6] ?_ | refine aP 9 [0,1] ?_ | refine aP 10 [] ?_ | refine aP 11 [0,1] ?_ | refine aP 12 [] ?_ | refine aP 13 [] ?_)))
 | (((with_reducible refine Need.mk ?_)); focus (exact True.intro))
 | (with_reducible refine aK ?_)
 | ((with_reducible show bL _ _ _ _ _ _); first
 | ((with_reducible refine aN ?_ ?_) <;> (intro hc; (try simp only [zB, zC, reduceCtorEq] at hc); (try (exfalso; contradiction)))))
 | ((with_reducible show aZ _ _ _ _ _ _ _ _ _ _); first
 | (refine aG (k := 172) IW (amG _) ?_ ?_))
 | ((fail_if_success (with_reducible show AW _ _ _ _)); simp (maxSteps := 2000000) only [go_sem, reduceIte, reduceCtorEq, xA, xL, xD, xE, xM, xS, xB, Tryz.f166])
 | ((with_reducible refine hK _ ?_); clear hK K))
  all_goals (first | (simp_all; done) | (split <;> omega))
end Go.Proofs.YtcfechepbamhkaaGreat
set_option maxRecDepth 100000
set_option maxHeartbeats 4000000
namespace Go.Proofs.YtcfechepbamhkaaGreat
open Go.RowKit Go.Sea
open Nat renaming reduceAdd -> xA, reduceLT -> xL, reduceLeDiff -> xD, reduceEqDiff -> xE, reduceMul -> xM, reduceSub -> xS, reduceBEq -> xB
theorem alh : Ii Tryz.prog 61 = none := by kernel_rfl
theorem jV : aM Tryz.prog 144 = true := by kernel_rfl
theorem qD : aM Tryz.prog 236 = true := by kernel_rfl
theorem l9 : aM Tryz.prog 237 = true := by kernel_rfl
theorem IG : aM Tryz.prog 239 = true := by kernel_rfl
theorem DL : aM Tryz.prog 243 = true := by kernel_rfl
theorem Ke : aM Tryz.prog 244 = true := by kernel_rfl
theorem qI : aM Tryz.prog 245 = true := by kernel_rfl
theorem qg : aM Tryz.prog 166 = true := by kernel_rfl
theorem anD : yu Tryz.prog 61 = some true := by kernel_rfl
theorem amc : rP Tryz.prog 61 = some (2, 16, 60) := by kernel_rfl
theorem alq : lD Tryz.prog 60 = some (true, 2) := by kernel_rfl
theorem amu : fO Tryz.prog 60 = some [.iv (.g (.int .i64 0)), .iv (.g (.int .i64 0))] := by kernel_rfl
attribute [go_sem] alh jV qD l9 IG DL Ke qI qg anD amc alq amu
theorem aek (z : Int) : (if z < 0 then (-1 : Int) else if 0 < z then 1 else 0) = TW z := by
  unfold TW
  split <;> split <;> first | rfl | omega | (split <;> rfl)
theorem wN (ax ay bx by' cx cy : Int) (ha : gL ax ay = true) (hb : gL bx by' = true) (hc : gL cx cy = true) : aA Tryz.prog 237 [.agg [.g (.int .i64 (ax)), .g (.int .i64 (ay))], .agg [.g (.int .i64 (bx)), .g (.int .i64 (by'))], .agg [.g (.int .i64 (cx)), .g (.int .i64 (cy))]] (.t (.one (.g (.int .i64 (Xn ax ay bx by' cx cy))))) := by
  have hA := Kj.1 ha
  have hB := Kj.1 hb
  have hC := Kj.1 hc
  have hX := aiW ha hb hc
  refine ak Tryz.func237 rfl (by rw [Tryz.ntmps237]; simp) ?_
  simp only [Tryz.ntmps237, zM, PT.tv, au, Nat.zero_add, Nat.reduceAdd]
  repeat' (first
 | ((with_reducible show AW _ _ _ _); first
 | (with_reducible first | refine aS (fun K hK => ?_) | refine aT ?_)
 | (first
 | (with_reducible refine aP 0 [0,1,2] ?_)
 | ((with_reducible refine aR (c := Code.region 1 _ true) [3,4,5] ?_); (with_reducible refine aD ?_ ?_ ?_ ?_); (focus kernel_rfl); (focus kernel_rfl); (focus kernel_rfl))))
 | ((first | (with_reducible refine And.intro ?_ ?_) | (with_reducible refine Need.mk ?_)); focus (exact True.intro))
 | (with_reducible refine aK ?_)
 | ((with_reducible refine And.intro ?_ ?_); focus ((with_reducible show iL _ _ _ = true); kernel_rfl))
 | ((with_reducible show eP _ _ _ _ _ _ _ _ _ _ _ _ _); first
 | (refine bR (k := 243) DL (XW _ _ _ _ ha hb) ?_ ?_)
 | (refine bR (k := 243) DL (XW _ _ _ _ ha hc) ?_ ?_)
 | (refine bR (k := 244) Ke (adM (bx - ax) (by' - ay) (cx - ax) (cy - ay) hX.1 hX.2) ?_ ?_)
 | (refine bR (k := 166) qg (G5 _ _) ?_ ?_))
 | ((fail_if_success (with_reducible show AW _ _ _ _)); simp (maxSteps := 2000000) only [go_sem, reduceIte, reduceCtorEq, xA, xL, xD, xE, xM, xS, xB, Tryz.f237])
 | ((with_reducible refine hK _ ?_); clear hK K))
  all_goals (exact aek _)
theorem acM (px py ax ay bx by' : Int) (hp : gL px py = true) (ha : gL ax ay = true) (hb : gL bx by' = true) : aA Tryz.prog 245 [.agg [.g (.int .i64 (px)), .g (.int .i64 (py))], .agg [.g (.int .i64 (ax)), .g (.int .i64 (ay))], .agg [.g (.int .i64 (bx)), .g (.int .i64 (by'))]] (.t (.one (.g (.bool (onB px py ax ay bx by'))))) := by
  refine ak Tryz.func245 rfl (by rw [Tryz.ntmps245]; simp) ?_
  simp only [Tryz.ntmps245, zM, PT.tv, au, Nat.zero_add, Nat.reduceAdd]
  repeat' (first
 | ((with_reducible show AW _ _ _ _); first
 | (with_reducible first | refine aS (fun K hK => ?_) | refine aT ?_)
 | (first
 | (with_reducible first | refine aP 0 [0,1,2] ?_ | refine aP 1 [3,4,5] ?_)))
 | (((with_reducible refine Need.mk ?_)); focus (exact True.intro))
 | (with_reducible refine aK ?_)
 | ((with_reducible show aZ _ _ _ _ _ _ _ _ _ _); first
 | (refine aG (k := 237) l9 (wN _ _ _ _ _ _ ha hb hp) ?_ ?_))
 | ((fail_if_success (with_reducible show AW _ _ _ _)); simp (maxSteps := 2000000) only [go_sem, reduceIte, reduceCtorEq, xA, xL, xD, xE, xM, xS, xB, Tryz.f245])
 | ((with_reducible refine hK _ ?_); clear hK K))
  all_goals (unfold onB; (try refine Bool.eq_iff_iff.2 ?_); simp only [Bool.and_eq_true, decide_eq_true_eq, beq_iff_eq]; omega)
theorem aeR (ax ay bx by' cx cy dx dy : Int) (qa : gL ax ay = true) (qb : gL bx by' = true) (qc : gL cx cy = true) (qd : gL dx dy = true) : aA Tryz.prog 239 [.agg [.g (.int .i64 (ax)), .g (.int .i64 (ay))], .agg [.g (.int .i64 (bx)), .g (.int .i64 (by'))], .agg [.g (.int .i64 (cx)), .g (.int .i64 (cy))], .agg [.g (.int .i64 (dx)), .g (.int .i64 (dy))]] (.t (.one (.g (.bool (PZ ax ay bx by' cx cy dx dy))))) := by
  have t1 := H9 ax ay bx by' cx cy
  have t2 := H9 ax ay bx by' dx dy
  have t3 := H9 cx cy dx dy ax ay
  have t4 := H9 cx cy dx dy bx by'
  have m1 := nD t1 t2
  have m2 := nD t3 t4
  refine ak Tryz.func239 rfl (by rw [Tryz.ntmps239]; simp) ?_
  simp only [Tryz.ntmps239, zM, PT.tv, au, Nat.zero_add, Nat.reduceAdd]
  repeat' (first
 | ((with_reducible show AW _ _ _ _); first
 | (with_reducible first | refine aS (fun K hK => ?_) | refine aI ?_ | refine aT ?_ | refine aC ?_)
 | (first
 | (with_reducible refine aP 0 [0,1,2,3] ?_)
 | ((with_reducible refine aR (c := Code.region 1 _ true) [4,5,6,7] ?_); (with_reducible refine aD ?_ ?_ ?_ ?_); (focus kernel_rfl); (focus kernel_rfl); (focus kernel_rfl))
 | (with_reducible first | refine aP 2 [] ?_ | refine aP 3 [4,5,6,7] ?_)))
 | ((first | (with_reducible refine And.intro ?_ ?_) | (with_reducible refine Need.mk ?_)); focus (first | exact True.intro | (intro _; (with_reducible assumption)) | (simp; done)))
 | (with_reducible refine aK ?_)
 | ((with_reducible show bL _ _ _ _ _ _); first
 | ((with_reducible refine aN ?_ ?_) <;> (intro hc; (try simp only [zB, zC, reduceCtorEq] at hc); (try (exfalso; contradiction)))))
 | ((with_reducible refine And.intro ?_ ?_); focus ((with_reducible show iL _ _ _ = true); kernel_rfl))
 | ((with_reducible show eP _ _ _ _ _ _ _ _ _ _ _ _ _); first
 | (refine bR (k := 237) l9 (wN _ _ _ _ _ _ qa qb qc) ?_ ?_)
 | (refine bR (k := 237) l9 (wN _ _ _ _ _ _ qa qb qd) ?_ ?_))
 | ((with_reducible show nA _ _ _ _ _ _ _ _ _ _ _ _ _); first
 | (refine jG (k := 237) l9 (fun hg => wN _ _ _ _ _ _ qc qd qa) ?_ ?_)
 | (refine jG (k := 237) l9 (fun hg => wN _ _ _ _ _ _ qc qd qb) ?_ ?_))
 | ((with_reducible show aZ _ _ _ _ _ _ _ _ _ _); (refine aG (k := 245) qI (acM _ _ _ _ _ _ qa qc qd) ?_ ?_))
 | ((with_reducible show bM _ _ _ _ _ _ _ _ _ _); first
 | (refine aV (k := 245) qI (fun hg => acM _ _ _ _ _ _ qb qc qd) ?_ ?_)
 | (refine aV (k := 245) qI (fun hg => acM _ _ _ _ _ _ qc qa qb) ?_ ?_)
 | (refine aV (k := 245) qI (fun hg => acM _ _ _ _ _ _ qd qa qb) ?_ ?_))
 | ((fail_if_success (with_reducible show AW _ _ _ _)); simp (maxSteps := 2000000) only [go_sem, reduceIte, reduceCtorEq, xA, xL, xD, xE, xM, xS, xB, Tryz.f239])
 | ((fail_if_success (with_reducible show AW _ _ _ _)); simp (disch := omega) only [aY, iP, iX])
 | ((with_reducible refine hK _ ?_); clear hK K))
  all_goals (unfold PZ; first | (rw [decide_eq_true (by assumption)]; rfl) | (rw [decide_eq_false (by omega)]; simp [Bool.or_assoc]))
def eX (P : Nat -> Nat -> Int) (i o : Nat) : IV := .g (.int .i64 (P i o))
def qE (P : Nat -> Nat -> Int) (k : Nat) : Prop := ∀ i, i < k -> gL (P i 0) (P i 1) = true
instance (P : Nat -> Nat -> Int) (k : Nat) : Decidable (qE P k) := by unfold qE; infer_instance
theorem Jy (k : Nat) (P : Nat -> Nat -> Int) (hk : k <= 9223372036854775807) : aA Tryz.prog 236 [.one (.lst 2 k (eX P))] (.t (.one (.g (.bool (decide (qE P k)))))) := by
  refine ak Tryz.func236 rfl (by rw [Tryz.ntmps236]; simp) ?_
  simp only [Tryz.ntmps236, zM, PT.tv, au, Nat.zero_add, Nat.reduceAdd]
  repeat' (first
 | ((with_reducible show AW _ _ _ _); first
 | (with_reducible first | refine aS (fun K hK => ?_) | refine aI ?_ | refine aX ?_ | refine aT ?_ | refine aC ?_ | refine aB ?_)
 | (first
 | (with_reducible first | refine aP 0 [0] ?_ | refine aP 1 [0] ?_ | refine aP 2 [5,6,7] ?_ | refine aP 3 [5,6,7] ?_ | refine aP 4 [4,5,6,7] ?_ | refine aP 5 [] ?_ | refine aP 6 [5,6,7] ?_ | refine aP 7 [] ?_))
 | ((with_reducible show AW _ (Code.loop _) _ _); first
 | ((with_reducible refine aL (c := (Code.seq (Code.region 2 _ _) _)) (ι := Nat) [5,6] (fun i => [(7, iA .i64 (i : Int))]) (fun i => []) (fun i => i <= k /\ qE P i) (fun i => k - i) 0 ?lg2 ?l12 ?l22 ?li2 ?lr2); (case' lg2 => rintro i _); (case' li2 => try (exact ⟨Nat.zero_le _, fun i hi => absurd hi (Nat.not_lt_zero _)⟩)); (case' lr2 => rintro i ⟨hi, hai⟩ KR hR2; simp only [bG, dL, hset, lk, if_true, if_false, xE, reduceIte, zN]))))
 | ((first | (with_reducible refine And.intro ?_ ?_) | (with_reducible refine Need.mk ?_)); focus (first | exact True.intro | omega))
 | (with_reducible refine aK ?_)
 | ((with_reducible show bL _ _ _ _ _ _); first
 | ((with_reducible refine aN ?_ ?_) <;> (intro hc; (try simp only [zB, zC, reduceCtorEq] at hc); (try (exfalso; contradiction)))))
 | ((with_reducible show aZ _ _ _ _ _ _ _ _ _ _); first
 | (refine aG (k := 144) jV (yT _ _) ?_ ?_))
 | ((with_reducible refine hR2 _ (i + 1) ?_); (try clear hR2 KR))
 | ((with_reducible refine Told.mk ?_); simp only [go_sem, reduceIte, reduceCtorEq, xA, xL, xD, xE, xM, xS, xB, eX] <;> ((((try simp (disch := omega) only [aY, Int.natCast_add, Int.cast_ofNat_Int, and_true, true_and, and_self]); (repeat' (first | omega | (with_reducible refine And.intro ?_ ?_) | (exact all_succ (by assumption) (by assumption)) )); done))))
 | ((fail_if_success (with_reducible show AW _ _ _ _)); simp (maxSteps := 2000000) only [go_sem, reduceIte, reduceCtorEq, xA, xL, xD, xE, xM, xS, xB, Tryz.f236, eX])
 | ((with_reducible refine hK _ ?_); clear hK K)
 | (with_reducible apply_assumption -exfalso only [*]))
  all_goals (first | exact (decide_eq_false fun h => by have := h i (by omega); simp_all).symm | exact (decide_eq_true fun j hj => hai j (by omega)).symm)
def f3 (a b c d e f : Int) (i o : Nat) : Int := if i = 0 then (if o = 0 then a else b) else if i = 1 then (if o = 0 then c else d) else (if o = 0 then e else f)
def f4 (a b c d e f g h : Int) (i o : Nat) : Int := if i = 0 then (if o = 0 then a else b) else if i = 1 then (if o = 0 then c else d) else if i = 2 then (if o = 0 then e else f) else (if o = 0 then g else h)
theorem an1 (a b c d e f : Int) : decide (qE (f3 a b c d e f) 3) = (gL a b && gL c d && gL e f) := by
  refine Bool.eq_iff_iff.2 ?_
  simp only [Bool.and_eq_true, decide_eq_true_eq]
  constructor
  · intro h; exact ⟨⟨h 0 (by omega), h 1 (by omega)⟩, h 2 (by omega)⟩
  · rintro ⟨⟨h0, h1⟩, h2⟩ i hi
    rcases i with _ | _ | _ | i <;> first | exact h0 | exact h1 | exact h2 | omega
theorem aoz (a b c d e f g h : Int) : decide (qE (f4 a b c d e f g h) 4) = (gL a b && gL c d && gL e f && gL g h) := by
  refine Bool.eq_iff_iff.2 ?_
  simp only [Bool.and_eq_true, decide_eq_true_eq]
  constructor
  · intro h; exact ⟨⟨⟨h 0 (by omega), h 1 (by omega)⟩, h 2 (by omega)⟩, h 3 (by omega)⟩
  · rintro ⟨⟨⟨h0, h1⟩, h2⟩, h3⟩ i hi
    rcases i with _ | _ | _ | _ | i <;> first | exact h0 | exact h1 | exact h2 | exact h3 | omega
theorem anM (a b c d e f : Int) {F : Nat -> Nat -> IV} (hF : ∀ i o, i < 3 -> o < 2 -> (F i o).eqv (eX (f3 a b c d e f) i o)) : aA Tryz.prog 236 [.one (.lst 2 3 F)] (.t (.one (.g (.bool (gL a b && gL c d && gL e f))))) := by
  have h := Jy 3 (f3 a b c d e f) (by omega)
  rw [an1] at h
  exact h.eqv ⟨⟨rfl, rfl, hF⟩, trivial⟩ (PV.bn _)
theorem alE (a b c d e f g k : Int) {F : Nat -> Nat -> IV} (hF : ∀ i o, i < 4 -> o < 2 -> (F i o).eqv (eX (f4 a b c d e f g k) i o)) : aA Tryz.prog 236 [.one (.lst 2 4 F)] (.t (.one (.g (.bool (gL a b && gL c d && gL e f && gL g k))))) := by
  have h := Jy 4 (f4 a b c d e f g k) (by omega)
  rw [aoz] at h
  exact h.eqv ⟨⟨rfl, rfl, hF⟩, trivial⟩ (PV.bn _)
def tvV (ax ay bx by' cx cy : Int) : Int := if (gL ax ay && gL bx by' && gL cx cy) = true then Xn ax ay bx by' cx cy else 0
def tvE (ax ay bx by' cx cy : Int) : Int := if (gL ax ay && gL bx by' && gL cx cy) = true then 0 else 1
theorem acC (ax ay bx by' cx cy : Int) (hv : (gL ax ay && gL bx by' && gL cx cy) = true) : aA Tryz.prog 222 [.agg [.g (.int .i64 (ax)), .g (.int .i64 (ay))], .agg [.g (.int .i64 (bx)), .g (.int .i64 (by'))], .agg [.g (.int .i64 (cx)), .g (.int .i64 (cy))]] (.tup [.one (.g (.int .i64 (Xn ax ay bx by' cx cy))), .one (.g (.int .i64 (0)))]) := by
  have q1 : gL ax ay = true := by simp only [Bool.and_eq_true] at hv; exact hv.1.1
  have q2 : gL bx by' = true := by simp only [Bool.and_eq_true] at hv; exact hv.1.2
  have q3 : gL cx cy = true := by simp only [Bool.and_eq_true] at hv; exact hv.2
  refine ak Tryz.func222 rfl (by rw [Tryz.ntmps222]; simp) ?_
  simp only [Tryz.ntmps222, zM, PT.tv, au, Nat.zero_add, Nat.reduceAdd]
  repeat' (first
 | ((with_reducible show aZ _ _ _ _ _ _ _ _ _ _); first
 | ((refine aG (k := 236) qD (anM ax ay bx by' cx cy ?_) ?_ ?_); (focus (intro i o hi ho; rcases i with _ | _ | _ | _ | i <;> first | omega | (rcases o with _ | _ | o <;> first | omega | exact IV.bn _))))
 | (refine aG (k := 237) l9 (wN _ _ _ _ _ _ q1 q2 q3) ?_ ?_))
 | ((with_reducible show AW _ _ _ _); first
 | (with_reducible first | refine aS (fun K hK => ?_) | refine aI ?_ | refine aT ?_ | refine aC ?_)
 | (first
 | (with_reducible first | refine aP 0 [0,1,2] ?_ | refine aP 1 [3,4,5] ?_ | refine aP 3 [3,4,5] ?_)))
 | (((with_reducible refine Need.mk ?_)); focus (exact True.intro))
 | (with_reducible refine aK ?_)
 | ((with_reducible show bL _ _ _ _ _ _); first
 | ((with_reducible refine aN ?_ ?_) <;> (intro hc; (try simp only [zB, zC, reduceCtorEq] at hc); (try (exfalso; contradiction)))))
 | ((fail_if_success (with_reducible show AW _ _ _ _)); simp (maxSteps := 2000000) only [go_sem, reduceIte, reduceCtorEq, xA, xL, xD, xE, xM, xS, xB, Tryz.f222, hv, Bool.not_true])
 | ((with_reducible refine hK _ ?_); clear hK K))
theorem ae7 (ax ay bx by' cx cy : Int) (hv : (gL ax ay && gL bx by' && gL cx cy) = false) : aA Tryz.prog 222 [.agg [.g (.int .i64 (ax)), .g (.int .i64 (ay))], .agg [.g (.int .i64 (bx)), .g (.int .i64 (by'))], .agg [.g (.int .i64 (cx)), .g (.int .i64 (cy))]] (.tup [.one (.g (.int .i64 (0))), .one (.g (.int .i64 (1)))]) := by
  refine ak Tryz.func222 rfl (by rw [Tryz.ntmps222]; simp) ?_
  simp only [Tryz.ntmps222, zM, PT.tv, au, Nat.zero_add, Nat.reduceAdd]
  repeat' (first
 | ((with_reducible show aZ _ _ _ _ _ _ _ _ _ _); first
 | ((refine aG (k := 236) qD (anM ax ay bx by' cx cy ?_) ?_ ?_); (focus (intro i o hi ho; rcases i with _ | _ | _ | _ | i <;> first | omega | (rcases o with _ | _ | o <;> first | omega | exact IV.bn _)))))
 | ((with_reducible show AW _ _ _ _); first
 | (with_reducible first | refine aS (fun K hK => ?_) | refine aT ?_ | refine aC ?_)
 | (first
 | (with_reducible first | refine aP 0 [0,1,2] ?_ | refine aP 1 [3,4,5] ?_ | refine aP 2 [] ?_)))
 | (((with_reducible refine Need.mk ?_)); focus (exact True.intro))
 | (with_reducible refine aK ?_)
 | ((with_reducible show bL _ _ _ _ _ _); first
 | ((with_reducible refine aN ?_ ?_) <;> (intro hc; (try simp only [zB, zC, reduceCtorEq] at hc); (try (exfalso; contradiction)))))
 | ((fail_if_success (with_reducible show AW _ _ _ _)); simp (maxSteps := 2000000) only [go_sem, reduceIte, reduceCtorEq, xA, xL, xD, xE, xM, xS, xB, Tryz.f222, hv, Bool.not_false])
 | ((with_reducible refine hK _ ?_); clear hK K))
theorem ah8 (ax ay bx by' cx cy : Int) : aA Tryz.prog 222 [.agg [.g (.int .i64 (ax)), .g (.int .i64 (ay))], .agg [.g (.int .i64 (bx)), .g (.int .i64 (by'))], .agg [.g (.int .i64 (cx)), .g (.int .i64 (cy))]] (.tup [.one (.g (.int .i64 (tvV ax ay bx by' cx cy))), .one (.g (.int .i64 (tvE ax ay bx by' cx cy)))]) := by
  unfold tvV tvE
  cases hv : (gL ax ay && gL bx by' && gL cx cy) with
  | true => exact acC ax ay bx by' cx cy hv
  | false => exact ae7 ax ay bx by' cx cy hv
def mvB (ax ay bx by' cx cy dx dy : Int) : Bool := if (gL ax ay && gL bx by' && gL cx cy && gL dx dy) = true then PZ ax ay bx by' cx cy dx dy else false
def mvE (ax ay bx by' cx cy dx dy : Int) : Int := if (gL ax ay && gL bx by' && gL cx cy && gL dx dy) = true then 0 else 1
theorem acW (ax ay bx by' cx cy dx dy : Int) (hv : (gL ax ay && gL bx by' && gL cx cy && gL dx dy) = true) : aA Tryz.prog 224 [.agg [.g (.int .i64 (ax)), .g (.int .i64 (ay))], .agg [.g (.int .i64 (bx)), .g (.int .i64 (by'))], .agg [.g (.int .i64 (cx)), .g (.int .i64 (cy))], .agg [.g (.int .i64 (dx)), .g (.int .i64 (dy))]] (.tup [.one (.g (.bool (PZ ax ay bx by' cx cy dx dy))), .one (.g (.int .i64 (0)))]) := by
  simp only [Bool.and_eq_true] at hv
  obtain ⟨⟨⟨q1, q2⟩, q3⟩, q4⟩ := hv
  have hv : (gL ax ay && gL bx by' && gL cx cy && gL dx dy) = true := by rw [q1, q2, q3, q4]; rfl
  refine ak Tryz.func224 rfl (by rw [Tryz.ntmps224]; simp) ?_
  simp only [Tryz.ntmps224, zM, PT.tv, au, Nat.zero_add, Nat.reduceAdd]
  repeat' (first
 | ((with_reducible show aZ _ _ _ _ _ _ _ _ _ _); first
 | ((refine aG (k := 236) qD (alE ax ay bx by' cx cy dx dy ?_) ?_ ?_); (focus (intro i o hi ho; rcases i with _ | _ | _ | _ | i <;> first | omega | (rcases o with _ | _ | o <;> first | omega | exact IV.bn _))))
 | (refine aG (k := 239) IG (aeR _ _ _ _ _ _ _ _ q1 q2 q3 q4) ?_ ?_))
 | ((with_reducible show AW _ _ _ _); first
 | (with_reducible first | refine aS (fun K hK => ?_) | refine aI ?_ | refine aT ?_ | refine aC ?_)
 | (first
 | (with_reducible first | refine aP 0 [0,1,2,3] ?_ | refine aP 1 [4,5,6,7] ?_ | refine aP 3 [4,5,6,7] ?_)))
 | (((with_reducible refine Need.mk ?_)); focus (exact True.intro))
 | (with_reducible refine aK ?_)
 | ((with_reducible show bL _ _ _ _ _ _); first
 | ((with_reducible refine aN ?_ ?_) <;> (intro hc; (try simp only [zB, zC, reduceCtorEq] at hc); (try (exfalso; contradiction)))))
 | ((fail_if_success (with_reducible show AW _ _ _ _)); simp (maxSteps := 2000000) only [go_sem, reduceIte, reduceCtorEq, xA, xL, xD, xE, xM, xS, xB, Tryz.f224, hv, Bool.not_true])
 | ((with_reducible refine hK _ ?_); clear hK K))
theorem adG (ax ay bx by' cx cy dx dy : Int) (hv : (gL ax ay && gL bx by' && gL cx cy && gL dx dy) = false) : aA Tryz.prog 224 [.agg [.g (.int .i64 (ax)), .g (.int .i64 (ay))], .agg [.g (.int .i64 (bx)), .g (.int .i64 (by'))], .agg [.g (.int .i64 (cx)), .g (.int .i64 (cy))], .agg [.g (.int .i64 (dx)), .g (.int .i64 (dy))]] (.tup [.one (.g (.bool false)), .one (.g (.int .i64 (1)))]) := by
  refine ak Tryz.func224 rfl (by rw [Tryz.ntmps224]; simp) ?_
  simp only [Tryz.ntmps224, zM, PT.tv, au, Nat.zero_add, Nat.reduceAdd]
  repeat' (first
 | ((with_reducible show aZ _ _ _ _ _ _ _ _ _ _); first
 | ((refine aG (k := 236) qD (alE ax ay bx by' cx cy dx dy ?_) ?_ ?_); (focus (intro i o hi ho; rcases i with _ | _ | _ | _ | i <;> first | omega | (rcases o with _ | _ | o <;> first | omega | exact IV.bn _)))))
 | ((with_reducible show AW _ _ _ _); first
 | (with_reducible first | refine aS (fun K hK => ?_) | refine aT ?_ | refine aC ?_)
 | (first
 | (with_reducible first | refine aP 0 [0,1,2,3] ?_ | refine aP 1 [4,5,6,7] ?_ | refine aP 2 [] ?_)))
 | (((with_reducible refine Need.mk ?_)); focus (exact True.intro))
 | (with_reducible refine aK ?_)
 | ((with_reducible show bL _ _ _ _ _ _); first
 | ((with_reducible refine aN ?_ ?_) <;> (intro hc; (try simp only [zB, zC, reduceCtorEq] at hc); (try (exfalso; contradiction)))))
 | ((fail_if_success (with_reducible show AW _ _ _ _)); simp (maxSteps := 2000000) only [go_sem, reduceIte, reduceCtorEq, xA, xL, xD, xE, xM, xS, xB, Tryz.f224, hv, Bool.not_false])
 | ((with_reducible refine hK _ ?_); clear hK K))
theorem ahL (ax ay bx by' cx cy dx dy : Int) : aA Tryz.prog 224 [.agg [.g (.int .i64 (ax)), .g (.int .i64 (ay))], .agg [.g (.int .i64 (bx)), .g (.int .i64 (by'))], .agg [.g (.int .i64 (cx)), .g (.int .i64 (cy))], .agg [.g (.int .i64 (dx)), .g (.int .i64 (dy))]] (.tup [.one (.g (.bool (mvB ax ay bx by' cx cy dx dy))), .one (.g (.int .i64 (mvE ax ay bx by' cx cy dx dy)))]) := by
  unfold mvB mvE
  cases hv : (gL ax ay && gL bx by' && gL cx cy && gL dx dy) with
  | true => exact acW ax ay bx by' cx cy dx dy hv
  | false => exact adG ax ay bx by' cx cy dx dy hv
end Go.Proofs.YtcfechepbamhkaaGreat
