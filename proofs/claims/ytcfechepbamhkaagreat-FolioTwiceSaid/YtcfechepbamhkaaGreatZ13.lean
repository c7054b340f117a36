/- Part 13 of 17: contracts of functions and plain laws for the root text. No condition. -/
import Derived.Test.YtcfechepbamhkaaGreatZ01
import Derived.Test.YtcfechepbamhkaaGreatZ02
import Derived.Test.YtcfechepbamhkaaGreatZ03
import Derived.Test.YtcfechepbamhkaaGreatZ04
import Derived.Test.YtcfechepbamhkaaGreatZ05
import Derived.Test.YtcfechepbamhkaaGreatZ06
import Derived.Test.YtcfechepbamhkaaGreatZ07
import Derived.Test.YtcfechepbamhkaaGreatZ08
import Derived.Test.YtcfechepbamhkaaGreatZ09
import Derived.Test.YtcfechepbamhkaaGreatZ10
import Derived.Test.YtcfechepbamhkaaGreatZ11
import Derived.Test.YtcfechepbamhkaaGreatZ12
set_option linter.unusedVariables false
set_option linter.unusedSimpArgs false
namespace Go.Sea
open Go.RowKit
def LV.mv (a b : Nat) : LV -> LV
  | .ptr k o => .ptr (if k = a then b else k) o
  | .mp k => .mp (if k = a then b else k)
  | c => c
def CV.mv (a b : Nat) : CV -> CV
  | .slc k off n E => .slc (if k = a then b else k) off n E
  | .ptr k o => .ptr (if k = a then b else k) o
  | .fn f x y => .fn f (x.map (LV.mv a b)) (y.map (LV.mv a b))
  | .mp k => .mp (if k = a then b else k)
  | .it k => .it (if k = a then b else k)
  | .ml l => .ml (l.map fun x => (x.1, x.2.1, x.2.2.1.map (LV.mv a b), x.2.2.2.map (LV.mv a b)))
  | .mt j c p q => .mt (if j = a then b else j) c p q
  | c => c
def TV.mv (a b : Nat) : TV -> TV
  | .one c => .one (c.mv a b)
  | .agg cs => .agg (cs.map (CV.mv a b))
def AV.mv (a b : Nat) : AV -> AV
  | .t x => .t (x.mv a b)
  | .tup xs => .tup (xs.map (TV.mv a b))
  | .mb c x => .mb c (x.mv a b)
  | .any => .any
def Ug (a b : Nat) (e : List (Nat × AV)) : List (Nat × AV) := e.map fun p => (p.1, p.2.mv a b)
def mvG (a b : Nat) (g : List (Nat × List (Nat × AV))) : List (Nat × List (Nat × AV)) := g.map fun p => (p.1, Ug a b p.2)
def Ir (a b : Nat) (o : Option (List CV)) : Option (List CV) := o.map (List.map (CV.mv a b))
def mvH (a b : Nat) (h : List (Option (List CV))) : List (Option (List CV)) := hdel (h.map (Ir a b)) a ++ [Ir a b (hget h a)]
def AS.mv (a b : Nat) (s : AS) : AS := ⟨Ug a b s.env, mvH a b s.heap, s.N, mvG a b s.gh, s.lp⟩
theorem Zx (a b t : Nat) : ∀ env : List (Nat × AV), lk (Ug a b env) t = (lk env t).mv a b
  | [] => rfl
  | (k, v) :: r => by
    simp only [Ug, List.map_cons, lk]
    split
    · rfl
    · exact Zx a b t r
theorem afT (a b f : Nat) : ∀ g : List (Nat × List (Nat × AV)), gf (mvG a b g) f = Ug a b (gf g f)
  | [] => rfl
  | (k, v) :: r => by
    simp only [mvG, List.map_cons, gf]
    split
    · rfl
    · exact afT a b f r
theorem KA : ∀ (h : List (Option (List CV))) (i : Nat), (hdel h i).length = h.length
  | [], i => by simp [hdel]
  | x :: h, 0 => by simp [hdel]
  | x :: h, i + 1 => by simp [hdel, KA h i]
theorem OA (a : Nat) (h : List (Option (List CV))) (k : Nat) : hget (mvH a h.length h) k = if k = h.length then Ir a h.length (hget h a) else if k = a then none else Ir a h.length (hget h k) := by
  unfold mvH
  have hl : (hdel (h.map (Ir a h.length)) a).length = h.length := by rw [KA, List.length_map]
  by_cases hk : k = h.length
  · rw [if_pos hk]
    subst hk
    unfold hget
    rw [List.getElem?_append_right (by omega), hl]
    simp
  · rw [if_neg hk]
    have e1 : hget (hdel (h.map (Ir a h.length)) a ++ [Ir a h.length (hget h a)]) k = hget (hdel (h.map (Ir a h.length)) a) k := by
      unfold hget
      by_cases hlt : k < h.length
      · rw [List.getElem?_append_left (by omega)]
      · rw [List.getElem?_eq_none (by simp [hl]; omega), List.getElem?_eq_none (by omega)]
    rw [e1, qC]
    by_cases ha : k = a
    · rw [if_pos ha, if_pos ha]
    · rw [if_neg ha, if_neg ha]
      unfold hget Ir
      rw [List.getElem?_map]
      cases h[k]? <;> rfl
section
variable {w0 : World} {Z0 : Fr} {J J' : Nat -> Option Nat} {Z : Nat -> Prop} {s : AS} {ac : Act} {w : World} {a b : Nat}
theorem j6.mv (hJ : ∀ k x, J k = some x -> J' (if k = a then b else k) = some x) {v : Value} {l : LV} (h : j6 w J Z v l) : j6 w J' Z v (l.mv a b) := by
  cases l with
  | iv c => exact h
  | ptr k o => obtain ⟨x, e, hx, ho⟩ := h; exact ⟨x, e, hJ k x hx, ho⟩
  | mp k => obtain ⟨x, e, hx⟩ := h; exact ⟨x, e, hJ k x hx⟩
theorem bM.mv (hJ : ∀ k x, J k = some x -> J' (if k = a then b else k) = some x) {v : Value} {c : CV} (h : bM w J Z v c) : bM w J' Z v (c.mv a b) := by
  cases c with
  | iv c => exact h
  | ip m c => exact h
  | slc k off n E =>
    rcases h with h | ⟨x, cap, c, e, hv, hx, r⟩
    · exact Or.inl h
    · exact Or.inr ⟨x, cap, c, e, hv, hJ k x hx, r⟩
  | ptr k o => obtain ⟨x, e, hx, ho⟩ := h; exact ⟨x, e, hJ k x hx, ho⟩
  | mp k => obtain ⟨x, e, hx⟩ := h; exact ⟨x, e, hJ k x hx⟩
  | it k => obtain ⟨x, e, hx⟩ := h; exact ⟨x, e, hJ k x hx⟩
  | mi => exact h.elim
  | m2 => exact h.elim
  | ml => exact h.elim
  | mt => exact h.elim
  | fn f x y =>
    obtain ⟨A, B, e, h1, h2⟩ := h
    exact ⟨A, B, e, aU.dG.2 (h1.mono fun _ _ => j6.mv hJ), aU.dG.2 (h2.mono fun _ _ => j6.mv hJ)⟩
  | any => exact h
theorem jk.mv (hJ : ∀ k x, J k = some x -> J' (if k = a then b else k) = some x) {c : Nat} {cs : List CV} (h : jk w J Z c cs) : jk w J' Z c (cs.map (CV.mv a b)) := by
  unfold jk at h
  split at h
  · obtain ⟨rfl, h⟩ := h
    exact ⟨rfl, h⟩
  · obtain ⟨rfl, h⟩ := h
    exact ⟨rfl, h⟩
  · obtain ⟨rfl, es, clock, h1, h2, h3⟩ := h
    exact ⟨rfl, es, clock, h1, h2, (aU.dG (f := fun x : Int × Fn × List LV × List LV => (x.1, x.2.1, x.2.2.1.map (LV.mv a b), x.2.2.2.map (LV.mv a b)))).2 (h3.mono fun _ _ hr => ⟨hr.1, bM.mv hJ hr.2⟩)⟩
  · obtain ⟨rfl, m, seen, es, clock, h1, h2, h3⟩ := h
    exact ⟨rfl, m, seen, es, clock, h1, hJ _ _ h2, h3⟩
  · rcases h with ⟨c, e, h1, h2⟩ | ⟨⟨o, h1, h2⟩, h3⟩
    · refine jk.of h1 ?_
      rw [List.length_map]
      exact aU.dG.2 (h2.mono fun _ _ => bM.mv hJ)
    · refine jk.dead h1 h2 fun c hc => ?_
      obtain ⟨c', hc', rfl⟩ := List.mem_map.1 hc
      rw [h3 c' hc']; rfl
theorem cu.mv (hJ : ∀ k x, J k = some x -> J' (if k = a then b else k) = some x) {v : Value} {c : TV} (h : cu w J Z v c) : cu w J' Z v (c.mv a b) := by
  cases c with
  | one c => exact bM.mv hJ h
  | agg cs => obtain ⟨A, e, h⟩ := h; exact ⟨A, e, aU.dG.2 (h.mono fun _ _ => bM.mv hJ)⟩
theorem bD.mv (hJ : ∀ k x, J k = some x -> J' (if k = a then b else k) = some x) {v : Value} {c : AV} (h : bD w J Z v c) : bD w J' Z v (c.mv a b) := by
  cases c with
  | t x => exact cu.mv hJ h
  | tup xs => obtain ⟨A, e, h⟩ := h; exact ⟨A, e, aU.dG.2 (h.mono fun _ _ => cu.mv hJ)⟩
  | mb c x => exact ⟨fun hc => cu.mv hJ (h.1 hc), h.2⟩
  | any => trivial
theorem Rel.mv (R : Rel w0 Z0 J Z s ac w) (ha : (hget s.heap a).isSome = true) : Rel w0 Z0 (fun k => if k = s.heap.length then J a else if k = a then none else J k) Z (s.mv a s.heap.length) ac w := by
  have hla : a < s.heap.length := by
    refine Nat.lt_of_not_le fun h => ?_
    rw [ug _ _ h] at ha
    cases ha
  have hJ : ∀ k x, J k = some x -> (fun k => if k = s.heap.length then J a else if k = a then none else J k) (if k = a then s.heap.length else k) = some x := fun k x hx => by
    by_cases h : k = a
    · subst h; simp [hx]
    · simp only [if_neg h]
      rw [if_neg]
      · exact hx
      · rintro rfl
        rw [R.hole _ (ug _ _ (Nat.le_refl _))] at hx
        cases hx
  have sub : ∀ k x, (if k = s.heap.length then J a else if k = a then none else J k) = some x -> ∃ q, J q = some x /\ ((k = s.heap.length /\ q = a) \/ (k ≠ s.heap.length /\ k ≠ a /\ q = k)) := fun k x h => by
    split at h
    · rename_i e; exact ⟨a, h, Or.inl ⟨e, rfl⟩⟩
    · rename_i e1
      split at h
      · cases h
      · rename_i e2; exact ⟨k, h, Or.inr ⟨e1, e2, rfl⟩⟩
  refine ⟨R.nodef, R.size, R.below, R.zfrom, R.zlt, fun k x h => ?_, fun k j x hk hj => ?_, fun k h => ?_, fun k cs h hne => ?_, fun t => ?_, fun f t => ?_, R.loops, R.lnd, R.ro⟩
  · obtain ⟨q, hq, _⟩ := sub k x h
    exact R.jlt q x hq
  · obtain ⟨q1, h1, e1⟩ := sub k x hk
    obtain ⟨q2, h2, e2⟩ := sub j x hj
    have := R.inj q1 q2 x h1 h2
    omega
  · simp only [AS.mv] at h
    rw [OA] at h
    by_cases h1 : k = s.heap.length
    · rw [if_pos h1] at h
      cases hc : hget s.heap a with
      | none => rw [hc] at ha; cases ha
      | some cs => rw [hc] at h; simp [Ir] at h
    · rw [if_neg h1] at h ⊢
      by_cases h2 : k = a
      · rw [if_pos h2]
      · rw [if_neg h2] at h ⊢
        refine R.hole k ?_
        cases hc : hget s.heap k with
        | none => rfl
        | some cs => rw [hc] at h; simp [Ir] at h
  · simp only [AS.mv] at h
    rw [OA] at h
    have one : ∀ q, Ir a s.heap.length (hget s.heap q) = some cs -> ∃ b, J q = some b /\ jk w (fun k => if k = s.heap.length then J a else if k = a then none else J k) Z b cs := fun q hq => by
      cases hc : hget s.heap q with
      | none => rw [hc] at hq; simp [Ir] at hq
      | some c0 =>
        rw [hc] at hq
        simp only [Ir, Option.map_some, Option.some.injEq] at hq
        subst hq
        obtain ⟨b, g1, g2⟩ := R.blk q c0 hc (by rintro rfl; exact hne rfl)
        exact ⟨b, g1, g2.mv hJ⟩
    by_cases h1 : k = s.heap.length
    · rw [if_pos h1] at h
      obtain ⟨b, g1, g2⟩ := one a h
      exact ⟨b, by rw [if_pos h1]; exact g1, g2⟩
    · rw [if_neg h1] at h
      by_cases h2 : k = a
      · rw [if_pos h2] at h; cases h
      · rw [if_neg h2] at h
        obtain ⟨b, g1, g2⟩ := one k h
        exact ⟨b, by rw [if_neg h1, if_neg h2]; exact g1, g2⟩
  · show bD _ _ _ _ (lk (Ug a s.heap.length s.env) t)
    rw [Zx]; exact bD.mv hJ (R.slots t)
  · show bD _ _ _ _ (lk (gf (mvG a s.heap.length s.gh) f) t)
    rw [afT, Zx]; exact bD.mv hJ (R.ghost f t)
end
def wU (F : Nat -> Nat -> IV) (n : Nat) : List (Option (List CV)) := (List.range n).map fun k => some (G6 (F k) 64)
section
variable (F G : Nat -> Nat -> IV) (n k a b : Nat)
theorem Df : (wU F n).length = n := by simp [wU]
theorem QT : wU F 0 = [] := rfl
theorem FW {F : Nat -> Nat -> IV} {n k : Nat} (h : k < n) : (wU F n)[k]? = some (some (G6 (F k) 64)) := by simp [wU, h]
theorem SH : wU F n ++ [some (G6 (F n) 64)] = wU F (n + 1) := by simp [wU, List.range_succ]
theorem Ji {l : List (Option (List CV))} (hl : l.length = n) (h : ∀ j, j < n -> l[j]? = some (some (G6 (F j) 64))) : l = wU F n := by
  refine List.ext_getElem? fun j => ?_
  by_cases hj : j < n
  · rw [h j hj, FW hj]
  · rw [List.getElem?_eq_none (by omega), List.getElem?_eq_none (by rw [Df]; omega)]
theorem Mg : List.map (fun o => Option.map (iw a) o) (wU F n) = wU F n := by
  refine Ji _ _ (by simp [Df]) fun j hj => ?_
  rw [List.getElem?_map, FW hj]
  simp [iw, TF]
theorem adJ (f : Nat -> IV) : List.map (CV.mv a b) (G6 f n) = G6 f n := by
  refine (List.map_congr_left fun c hc => ?_).trans (List.map_id _)
  have := O5 f n c hc
  cases c <;> first | rfl | exact this.elim
theorem abl : List.map (Ir a b) (wU F n) = wU F n := by
  refine Ji _ _ (by simp [Df]) fun j hj => ?_
  rw [List.getElem?_map, FW hj]
  simp [Ir, adJ]
end
def afV {ι : Type} (N : Nat) (lp : LP) (g : List (Nat × List (Nat × AV))) (C : ι -> List (Nat × AV)) (H : ι -> List (Option (List CV))) (I : ι -> Prop) (μ : ι -> Nat) (e : List (Nat × AV)) (U : List Nat) (i j : ι) (s' : AS) : Prop :=
  N = s'.N /\ lp = s'.lp /\ g = s'.gh /\ I j /\ μ j < μ i /\ Qk (H j) s'.env (C j ++ bI e U) /\ Hq (okB (H j)) s'.heap (H j)
def zk (H : List (Option (List CV))) (g : List (Nat × List (Nat × AV))) : Prop := ∀ p, p ∈ g -> ∀ q, q ∈ p.2 -> q.2.ok (okB H)
theorem LV.je {p q : Nat -> Prop} (h : ∀ i, p i -> q i) {c : LV} (hc : c.ok p) : c.ok q := by cases c <;> first | trivial | exact h _ hc
theorem CV.je {p q : Nat -> Prop} (h : ∀ i, p i -> q i) {c : CV} (hc : c.ok p) : c.ok q := by
  cases c <;> first | trivial | exact h _ hc | exact ⟨fun l hl => LV.je h (hc.1 l hl), fun l hl => LV.je h (hc.2 l hl)⟩ | exact fun x hx => ⟨fun l hl => LV.je h ((hc x hx).1 l hl), fun l hl => LV.je h ((hc x hx).2 l hl)⟩
theorem TV.je {p q : Nat -> Prop} (h : ∀ i, p i -> q i) {c : TV} (hc : c.ok p) : c.ok q := by
  cases c with
  | one c => exact CV.je h hc
  | agg cs => exact fun c hm => CV.je h (hc c hm)
theorem AV.je {p q : Nat -> Prop} (h : ∀ i, p i -> q i) {c : AV} (hc : c.ok p) : c.ok q := by
  cases c with
  | t x => exact TV.je h hc
  | tup xs => exact fun c hm => TV.je h (hc c hm)
  | mb b x => exact TV.je h hc
  | any => trivial
theorem zk.mono {H H' : List (Option (List CV))} {g : List (Nat × List (Nat × AV))} (h : zk H g) (hs : ∀ i, okB H i -> okB H' i) : zk H' g := fun p hp q hq => AV.je hs (h p hp q hq)
def Qm : List (Option (List CV)) -> List (Option (List CV)) -> Prop
  | [], _ => True
  | none :: h, [] => Qm h []
  | some _ :: _, [] => False
  | none :: h, _ :: h' => Qm h h'
  | some _ :: h, some _ :: h' => Qm h h'
  | some _ :: _, none :: _ => False
theorem nQ : ∀ {h h' : List (Option (List CV))}, Qm h h' -> ∀ i, okB h i -> okB h' i
  | [], _, _, i, hi => by simp [okB, hget] at hi
  | none :: h, [], H, 0, hi => by simp [okB, hget] at hi
  | none :: h, [], H, i + 1, hi => by
    unfold okB at hi
    rw [eD] at hi
    have := nQ (h := h) (h' := []) H i hi
    simp [okB, hget] at this
  | some _ :: _, [], H, _, _ => H.elim
  | none :: h, y :: h', H, 0, hi => by simp [okB, hget] at hi
  | none :: h, y :: h', H, i + 1, hi => by unfold okB at hi ⊢; rw [eD] at hi ⊢; exact nQ (h := h) (h' := h') H i hi
  | some _ :: h, some _ :: h', H, 0, hi => by simp [okB, hget]
  | some _ :: h, some _ :: h', H, i + 1, hi => by unfold okB at hi ⊢; rw [eD] at hi ⊢; exact nQ (h := h) (h' := h') H i hi
  | some _ :: _, none :: _, H, _, _ => H.elim
theorem CV.pQ {p : Nat -> Prop} {i : Nat} (hi : ¬ p i) {c : CV} (hc : c.ok p) : c.has i = false := by
  cases c with
  | slc j off n E => exact beq_eq_false_iff_ne.2 fun e => hi (e ▸ hc)
  | ptr j o => exact beq_eq_false_iff_ne.2 fun e => hi (e ▸ hc)
  | mp j => exact beq_eq_false_iff_ne.2 fun e => hi (e ▸ hc)
  | it j => exact beq_eq_false_iff_ne.2 fun e => hi (e ▸ hc)
  | mt j c p q => exact beq_eq_false_iff_ne.2 fun e => hi (e ▸ hc)
  | ml l =>
    refine List.any_eq_false.2 fun x hx => ?_
    rw [Bool.not_eq_true]
    refine Bool.or_eq_false_iff.2 ⟨List.any_eq_false.2 fun l hl => ?_, List.any_eq_false.2 fun l hl => ?_⟩
    · have := (hc x hx).1 l hl
      cases l with
      | iv c => simp [LV.has]
      | ptr j o => simp only [LV.has, beq_iff_eq]; exact fun e => hi (e ▸ this)
      | mp j => simp only [LV.has, beq_iff_eq]; exact fun e => hi (e ▸ this)
    · have := (hc x hx).2 l hl
      cases l with
      | iv c => simp [LV.has]
      | ptr j o => simp only [LV.has, beq_iff_eq]; exact fun e => hi (e ▸ this)
      | mp j => simp only [LV.has, beq_iff_eq]; exact fun e => hi (e ▸ this)
  | fn f a b =>
    refine Bool.or_eq_false_iff.2 ⟨List.any_eq_false.2 fun l hl => ?_, List.any_eq_false.2 fun l hl => ?_⟩
    · have := hc.1 l hl
      cases l with
      | iv c => simp [LV.has]
      | ptr j o => simp only [LV.has, beq_iff_eq]; exact fun e => hi (e ▸ this)
      | mp j => simp only [LV.has, beq_iff_eq]; exact fun e => hi (e ▸ this)
    · have := hc.2 l hl
      cases l with
      | iv c => simp [LV.has]
      | ptr j o => simp only [LV.has, beq_iff_eq]; exact fun e => hi (e ▸ this)
      | mp j => simp only [LV.has, beq_iff_eq]; exact fun e => hi (e ▸ this)
  | _ => rfl
theorem TV.pQ {p : Nat -> Prop} {i : Nat} (hi : ¬ p i) {c : TV} (hc : c.ok p) : c.has i = false := by
  cases c with
  | one c => exact CV.pQ hi hc
  | agg cs => exact List.any_eq_false.2 fun c hm => by simp [CV.pQ hi (hc c hm)]
theorem AV.pQ {p : Nat -> Prop} {i : Nat} (hi : ¬ p i) {c : AV} (hc : c.ok p) : c.has i = false := by
  cases c with
  | t x => exact TV.pQ hi hc
  | tup xs => exact List.any_eq_false.2 fun c hm => by simp [TV.pQ hi (hc c hm)]
  | mb b x => exact TV.pQ hi hc
  | any => rfl
theorem LV.nP {p : Nat -> Prop} {i b : Nat} (hi : ¬ p i) {c : LV} (hc : c.ok p) : c.mv i b = c := by
  cases c with
  | iv c => rfl
  | ptr k o => simp only [LV.mv]; rw [if_neg]; rintro rfl; exact hi hc
  | mp k => simp only [LV.mv]; rw [if_neg]; rintro rfl; exact hi hc
theorem CV.nP {p : Nat -> Prop} {i b : Nat} (hi : ¬ p i) {c : CV} (hc : c.ok p) : c.mv i b = c := by
  cases c with
  | slc k off n E => simp only [CV.mv]; rw [if_neg]; rintro rfl; exact hi hc
  | ptr k o => simp only [CV.mv]; rw [if_neg]; rintro rfl; exact hi hc
  | mp k => simp only [CV.mv]; rw [if_neg]; rintro rfl; exact hi hc
  | it k => simp only [CV.mv]; rw [if_neg]; rintro rfl; exact hi hc
  | mt k c p q => simp only [CV.mv]; rw [if_neg]; rintro rfl; exact hi hc
  | ml l =>
    simp only [CV.mv]
    congr 1
    refine (List.map_congr_left fun x hx => ?_).trans (List.map_id _)
    rw [(List.map_congr_left fun l hl => LV.nP hi ((hc x hx).1 l hl)).trans (List.map_id _), (List.map_congr_left fun l hl => LV.nP hi ((hc x hx).2 l hl)).trans (List.map_id _)]
    rfl
  | fn f x y =>
    simp only [CV.mv]
    rw [(List.map_congr_left fun l hl => LV.nP hi (hc.1 l hl)).trans (List.map_id _), (List.map_congr_left fun l hl => LV.nP hi (hc.2 l hl)).trans (List.map_id _)]
  | _ => rfl
theorem TV.nP {p : Nat -> Prop} {i b : Nat} (hi : ¬ p i) {c : TV} (hc : c.ok p) : c.mv i b = c := by
  cases c with
  | one c => simp only [TV.mv]; rw [CV.nP hi hc]
  | agg cs => simp only [TV.mv]; rw [(List.map_congr_left fun l hl => CV.nP hi (hc l hl)).trans (List.map_id _)]
theorem AV.nP {p : Nat -> Prop} {i b : Nat} (hi : ¬ p i) {c : AV} (hc : c.ok p) : c.mv i b = c := by
  cases c with
  | t x => simp only [AV.mv]; rw [TV.nP hi hc]
  | tup xs => simp only [AV.mv]; rw [(List.map_congr_left fun l hl => TV.nP hi (hc l hl)).trans (List.map_id _)]
  | mb b x => simp only [AV.mv]; rw [TV.nP hi hc]
  | any => rfl
theorem zk.cZ {H : List (Option (List CV))} {g : List (Nat × List (Nat × AV))} (h : zk H g) {i : Nat} (hi : hget H i = none) : qj i g = g := by
  refine (List.map_congr_left fun p hp => ?_).trans (List.map_id _)
  have : mG i p.2 = p.2 := (List.map_congr_left fun q hq => by
    have hn : ¬ okB H i := by unfold okB; rw [hi]; simp
    simp only [AV.cZ, AV.pQ hn (h p hp q hq), cond_false]
    rfl).trans (List.map_id _)
  rw [this]; rfl
theorem zk.mv {H : List (Option (List CV))} {g : List (Nat × List (Nat × AV))} (h : zk H g) {i : Nat} (hi : hget H i = none) (b : Nat) : mvG i b g = g := by
  refine (List.map_congr_left fun p hp => ?_).trans (List.map_id _)
  have : Ug i b p.2 = p.2 := (List.map_congr_left fun q hq => by
    have hn : ¬ okB H i := by unfold okB; rw [hi]; simp
    rw [AV.nP hn (h p hp q hq)]
    rfl).trans (List.map_id _)
  rw [this]; rfl
theorem XQ : ∀ (e : List (Nat × AV)) (t : Nat), lk e t = .any \/ ∃ p, p ∈ e /\ lk e t = p.2
  | [], _ => Or.inl rfl
  | (k, v) :: r, t => by
    simp only [lk]
    split
    · exact Or.inr ⟨(k, v), by simp, rfl⟩
    · rcases XQ r t with h | ⟨p, hp, h⟩
      · exact Or.inl h
      · exact Or.inr ⟨p, by simp [hp], h⟩
theorem Zh : ∀ (g : List (Nat × List (Nat × AV))) (f : Nat), gf g f = [] \/ ∃ p, p ∈ g /\ gf g f = p.2
  | [], _ => Or.inl rfl
  | (k, v) :: r, t => by
    simp only [gf]
    split
    · exact Or.inr ⟨(k, v), by simp, rfl⟩
    · rcases Zh r t with h | ⟨p, hp, h⟩
      · exact Or.inl h
      · exact Or.inr ⟨p, by simp [hp], h⟩
theorem zk.wk {H : List (Option (List CV))} {g : List (Nat × List (Nat × AV))} (h : zk H g) (f t : Nat) : wkA (fun i => (hget H i).isSome = true) (gk g f t) (gk g f t) := by
  refine Or.inr (Or.inl ⟨rfl, ?_⟩)
  show (lk (gf g f) t).ok _
  rcases Zh g f with e | ⟨p, hp, e⟩
  · rw [e]; trivial
  · rw [e]
    rcases XQ p.2 t with e' | ⟨q, hq, e'⟩
    · rw [e']; trivial
    · rw [e']; exact h p hp q hq
theorem Weak.alY {s : AS} {E : List (Nat × AV)} {H : List (Option (List CV))} (hg : zk H s.gh) (h1 : Qk H s.env E) (h2 : Hq (okB H) s.heap H) : Weak s ⟨E, H, s.N, s.gh, s.lp⟩ :=
  ⟨rfl, G8 (Ox h1), fun f t => hg.wk f t, rfl, kN h2⟩
theorem qL {P : Program} {s : AS} {Q : Exit -> AS -> Prop} {c : Code} {ι : Type} (U : List Nat) (C : ι -> List (Nat × AV)) (H : ι -> List (Option (List CV))) (I : ι -> Prop) (μ : ι -> Nat) (i0 : ι)
    (hg : ∀ i, I i -> zk (H i) s.gh) (h1 : Told (Qk (H i0) s.env (C i0 ++ bI s.env U))) (h2 : Told (Hq (okB (H i0)) s.heap (H i0))) (hi : I i0)
    (round : ∀ i, I i -> ∀ K : AS -> Prop, (∀ s' j, Told (afV s.N s.lp s.gh C H I μ s.env U i j s') -> K s') -> AW P c ⟨C i ++ bI s.env U, H i, s.N, s.gh, s.lp⟩ (q9 K Q)) : AW P (.loop c) s Q := by
  refine NP (fun n s' => ∃ i, I i /\ n = μ i /\ s' = ⟨C i ++ bI s.env U, H i, s.N, s.gh, s.lp⟩) (μ i0) ⟨_, Weak.alY (hg i0 hi) h1.out h2.out, i0, hi, rfl, rfl⟩ ?_
  rintro n s' ⟨i, hI, rfl, rfl⟩
  refine (round i hI (fun s' => ∃ m s1, m < μ i /\ Weak s' s1 /\ ∃ i, I i /\ m = μ i /\ s1 = ⟨C i ++ bI s.env U, H i, s.N, s.gh, s.lp⟩) fun s' j h => ?_)
  obtain ⟨g1, g2, g3, g4, g5, g6, g7⟩ := h.out
  refine ⟨μ j, _, g5, ?_, j, g4, rfl, rfl⟩
  have := Weak.alY (s := s') (E := C j ++ bI s.env U) (H := H j) (g3 ▸ hg j g4) g6 g7
  rw [<- g1, <- g2, <- g3] at this
  exact this
def LV.here (H : List (Option (List CV))) : LV -> Bool
  | .ptr i _ | .mp i => (hget H i).isSome
  | _ => true
def CV.cl (H : List (Option (List CV))) : CV -> CV
  | .slc i off n E => if (hget H i).isSome = true then .slc i off n E else .any
  | .ptr i o => if (hget H i).isSome = true then .ptr i o else .any
  | .mp i => if (hget H i).isSome = true then .mp i else .any
  | .it i => if (hget H i).isSome = true then .it i else .any
  | .ml _ | .mt _ _ _ _ => .any
  | .fn f a b => if (a.all (LV.here H) && b.all (LV.here H)) = true then .fn f a b else .any
  | c => c
def TV.cl (H : List (Option (List CV))) : TV -> TV
  | .one c => .one (c.cl H)
  | .agg cs => .agg (cs.map (CV.cl H))
def AV.cl (H : List (Option (List CV))) : AV -> AV
  | .t x => .t (x.cl H)
  | .tup xs => .tup (xs.map (TV.cl H))
  | .mb b x => .mb b (x.cl H)
  | .any => .any
theorem LV.NZ {H : List (Option (List CV))} {l : LV} (h : l.here H = true) : l.ok (okB H) := by cases l <;> first | trivial | exact h
theorem CV.yS (H : List (Option (List CV))) (c : CV) : (c.cl H).ok (okB H) := by
  cases c with
  | slc i off n E => simp only [CV.cl]; split <;> first | assumption | trivial
  | ptr i o => simp only [CV.cl]; split <;> first | assumption | trivial
  | mp i => simp only [CV.cl]; split <;> first | assumption | trivial
  | it i => simp only [CV.cl]; split <;> first | assumption | trivial
  | fn f a b =>
    simp only [CV.cl]
    split
    · rename_i h
      rw [Bool.and_eq_true, List.all_eq_true, List.all_eq_true] at h
      exact ⟨fun l hl => LV.NZ (h.1 l hl), fun l hl => LV.NZ (h.2 l hl)⟩
    · trivial
  | _ => trivial
theorem TV.yS (H : List (Option (List CV))) (c : TV) : (c.cl H).ok (okB H) := by
  cases c with
  | one c => exact c.yS H
  | agg cs =>
    intro c hc
    obtain ⟨d, _, rfl⟩ := List.mem_map.1 hc
    exact d.yS H
theorem AV.yS (H : List (Option (List CV))) (c : AV) : (c.cl H).ok (okB H) := by
  cases c with
  | t x => exact x.yS H
  | tup xs =>
    intro c hc
    obtain ⟨d, _, rfl⟩ := List.mem_map.1 hc
    exact d.yS H
  | mb b x => exact x.yS H
  | any => trivial
def clE (H : List (Option (List CV))) (e : List (Nat × AV)) : List (Nat × AV) := e.map fun p => (p.1, p.2.cl H)
def clG (H : List (Option (List CV))) (g : List (Nat × List (Nat × AV))) : List (Nat × List (Nat × AV)) := g.map fun p => (p.1, clE H p.2)
theorem afv (H : List (Option (List CV))) (t : Nat) : ∀ e : List (Nat × AV), lk (clE H e) t = (lk e t).cl H
  | [] => rfl
  | (k, v) :: r => by
    simp only [clE, List.map_cons, lk]
    split
    · rfl
    · exact afv H t r
theorem afZ (H : List (Option (List CV))) (f : Nat) : ∀ g : List (Nat × List (Nat × AV)), gf (clG H g) f = clE H (gf g f)
  | [] => rfl
  | (k, v) :: r => by
    simp only [clG, List.map_cons, gf]
    split
    · rfl
    · exact afZ H f r
theorem zk.cl (H : List (Option (List CV))) (g : List (Nat × List (Nat × AV))) : zk H (clG H g) := fun p hp q hq => by
  obtain ⟨p', _, rfl⟩ := List.mem_map.1 hp
  obtain ⟨q', _, rfl⟩ := List.mem_map.1 hq
  exact q'.2.yS H
section
variable {H : List (Option (List CV))} {w w' : World} {J J' : Nat -> Option Nat} {Z Z' : Nat -> Prop}
theorem bM.cl {v : Value} {c : CV} (h : bM w J Z v c) : bM w J Z v (c.cl H) := by
  cases c with
  | slc i off n E => simp only [CV.cl]; split <;> first | exact h | exact bM.one h
  | ptr i o => simp only [CV.cl]; split <;> first | exact h | exact bM.one h
  | mp i => simp only [CV.cl]; split <;> first | exact h | exact bM.one h
  | it i => simp only [CV.cl]; split <;> first | exact h | exact bM.one h
  | ml => exact h.elim
  | mt => exact h.elim
  | fn f a b => simp only [CV.cl]; split <;> first | exact h | exact bM.one h
  | _ => exact h
theorem cu.cl {v : Value} {c : TV} (h : cu w J Z v c) : cu w J Z v (c.cl H) := by
  cases c with
  | one c => exact bM.cl h
  | agg cs => obtain ⟨A, e, h⟩ := h; exact ⟨A, e, aU.dG.2 (h.mono fun _ _ => bM.cl)⟩
theorem bD.cl {v : Value} {c : AV} (h : bD w J Z v c) : bD w J Z v (c.cl H) := by
  cases c with
  | t x => exact cu.cl h
  | tup xs => obtain ⟨A, e, h⟩ := h; exact ⟨A, e, aU.dG.2 (h.mono fun _ _ => cu.cl)⟩
  | mb b x => exact ⟨fun hb => cu.cl (h.1 hb), h.2⟩
  | any => trivial
theorem aU.both {α β : Type} {R S T : α -> β -> Prop} (h : ∀ a b, R a b -> S a b -> T a b) : ∀ {l : List α} {m : List β}, aU R l m -> aU S l m -> aU T l m
  | [], [], _, _ => trivial
  | _ :: _, _ :: _, ⟨h1, h2⟩, ⟨g1, g2⟩ => ⟨h _ _ h1 g1, aU.both h h2 g2⟩
theorem EY (hole : ∀ i, hget H i = none -> J i = none) : ∀ {l : List Value} {m : List LV}, aU (j6 w J Z) l m -> m.all (LV.here H) = true
  | [], [], _ => rfl
  | v :: l, c :: m, ⟨h1, h2⟩ => by
    rw [List.all_cons, EY hole h2, Bool.and_true]
    cases c with
    | iv c => rfl
    | ptr i o =>
      obtain ⟨b, _, hj, _⟩ := h1
      cases hh : hget H i with
      | none => rw [hole i hh] at hj; cases hj
      | some cs => simp [LV.here, hh]
    | mp i =>
      obtain ⟨b, _, hj⟩ := h1
      cases hh : hget H i with
      | none => rw [hole i hh] at hj; cases hj
      | some cs => simp [LV.here, hh]
theorem bM.Ga (hole : ∀ i, hget H i = none -> J i = none) {v : Value} {c : CV} (h : bM w J Z v c) (h' : bM w' J' Z' v (c.cl H)) : bM w' J' Z' v c := by
  cases c with
  | slc i off n E =>
    simp only [CV.cl] at h'
    split at h'
    · exact h'
    · rename_i hn
      rcases h with h | ⟨b, cap, c, e, hv, hj, r⟩
      · exact Or.inl h
      · rw [hole i (by simpa using hn)] at hj; cases hj
  | ptr i o =>
    simp only [CV.cl] at h'
    split at h'
    · exact h'
    · rename_i hn
      obtain ⟨b, hv, hj, _⟩ := h
      rw [hole i (by simpa using hn)] at hj; cases hj
  | mp i =>
    simp only [CV.cl] at h'
    split at h'
    · exact h'
    · rename_i hn
      obtain ⟨b, hv, hj⟩ := h
      rw [hole i (by simpa using hn)] at hj; cases hj
  | it i =>
    simp only [CV.cl] at h'
    split at h'
    · exact h'
    · rename_i hn
      obtain ⟨b, hv, hj⟩ := h
      rw [hole i (by simpa using hn)] at hj; cases hj
  | ml => exact h.elim
  | mt => exact h.elim
  | fn f a b =>
    simp only [CV.cl] at h'
    split at h'
    · exact h'
    · rename_i hn
      obtain ⟨A, B, e, h1, h2⟩ := h
      exact absurd (by rw [EY hole h1, EY hole h2]; rfl) hn
  | _ => exact h'
theorem cu.Ga (hole : ∀ i, hget H i = none -> J i = none) {v : Value} {c : TV} (h : cu w J Z v c) (h' : cu w' J' Z' v (c.cl H)) : cu w' J' Z' v c := by
  cases c with
  | one c => exact bM.Ga hole h h'
  | agg cs =>
    obtain ⟨A, e, h⟩ := h
    obtain ⟨A', e', h'⟩ := h'
    subst e
    cases e'
    exact ⟨A, rfl, aU.both (fun _ _ => bM.Ga hole) h (aU.dG.1 h')⟩
theorem bD.Ga (hole : ∀ i, hget H i = none -> J i = none) {v : Value} {c : AV} (h : bD w J Z v c) (h' : bD w' J' Z' v (c.cl H)) : bD w' J' Z' v c := by
  cases c with
  | t x => exact cu.Ga hole h h'
  | tup xs =>
    obtain ⟨A, e, h⟩ := h
    obtain ⟨A', e', h'⟩ := h'
    subst e
    cases e'
    exact ⟨A, rfl, aU.both (fun _ _ => cu.Ga hole) h (aU.dG.1 h')⟩
  | mb b x => exact ⟨fun hb => cu.Ga hole (h.1 hb) (h'.1 hb), h'.2⟩
  | any => trivial
end
def anT (g : List (Nat × List (Nat × AV))) (ls : List LS) (fr : Nat) : Prop := ∀ f, fr <= f -> jF ls f /\ ny g f = g
theorem H8 : ∀ g : List (Nat × List (Nat × AV)), ∃ n, ∀ f, n <= f -> ny g f = g
  | [] => ⟨0, fun _ _ => rfl⟩
  | (k, e) :: r => by
    obtain ⟨n, h⟩ := H8 r
    refine ⟨n + k + 1, fun f hf => ?_⟩
    simp only [ny]
    rw [if_neg (by omega), h f (by omega)]
theorem Bo {P : Program} {k : FuncId} {fn : Func} {c : Code} {args : List TV} {H H' : List (Option (List CV))} {r : AV} (hf : P.funcs[k]? = some fn) (hb : fn.body = some c) (hl : args.length <= fn.ntmps)
    (h : ∀ g ls fr, zk H g -> anT g ls fr -> AW P c ⟨au args 0, H, fn.ntmps, g, ⟨ls, fr, none⟩⟩ (agE P fn r H' g ⟨ls, fr, none⟩)) : iH P k args H r H' := by
  intro w0 Z0 J Z s a w vs R hH ha
  subst hH
  refine callsIn_wide.1 (callsIn_of_wp_marks (F := Fence.wide) (n := 0) hf hb trivial ?_)
  have hlen := ha.length
  simp only [Array.length_toList] at hlen
  obtain ⟨n1, f1⟩ := J9 s.gh
  obtain ⟨n2, f2⟩ := JF s.lp.ls
  obtain ⟨fid, hfid⟩ : ∃ fid, fid = n1 + n2 := ⟨_, rfl⟩
  obtain ⟨n3, f3⟩ := H8 (clG s.heap ((fid, s.env) :: s.gh))
  have e1 : gf s.gh fid = [] := f1 _ (by omega)
  have e2 := qU (f2 fid (by omega))
  obtain ⟨M, m1, m2, m3⟩ := R.nodef
  let Z1 : Fr := ⟨Z0.z, fun f t => if f = fid then a.tmps.getD t undef else Z0.g f t, none, M ++ Z0.pin⟩
  have hg0 : ∀ f t, gk (clG s.heap ((fid, s.env) :: s.gh)) f t = (if f = fid then s.get t else gk s.gh f t).cl s.heap := fun f t => by
    show lk (gf (clG s.heap ((fid, s.env) :: s.gh)) f) t = _
    rw [afZ, afv]
    congr 1
    exact oC _ _ _ _ _
  have R1 : Rel w0 Z1 J Z ⟨au args 0, s.heap, fn.ntmps, clG s.heap ((fid, s.env) :: s.gh), ⟨s.lp.ls, n2 + n3, none⟩⟩ { tmps := vs ++ Array.replicate (fn.ntmps - vs.size) undef, defers := [] } w := by
    refine ⟨⟨[], rfl, by simpa [Z1] using m2, fun b hb => m3 b (by simpa [Z1] using hb)⟩, ?_, R.below, R.zfrom, R.zlt, R.jlt, R.inj, R.hole, R.blk, fun t => ?_, fun f t => ?_, fun y hy => ?_, R.lnd, rfl⟩
    · simp; omega
    · simp only [AS.get, nO, Nat.zero_le, if_true, Nat.sub_zero]
      cases hx : args[t]? with
      | none => simp; trivial
      | some x =>
        obtain ⟨u, hu, hr⟩ := ha.get hx
        have : (vs ++ Array.replicate (fn.ntmps - vs.size) undef).getD t undef = u := by
          rw [Array.getElem?_toList] at hu
          have hlt : t < vs.size := (Array.getElem?_eq_some_iff.1 hu).1
          simp only [Array.getD_eq_getD_getElem?, Array.getElem?_append_left hlt, hu, Option.getD_some]
        rw [this]
        exact hr
    · rw [hg0]
      refine bD.cl ?_
      by_cases hf : f = fid
      · simp only [Z1, if_pos hf]; exact R.slots t
      · simp only [Z1, if_neg hf]; exact R.ghost f t
    · obtain ⟨fn', tmps', dd', k0, k1, k2, k3⟩ := R.loops y hy
      refine ⟨fn', tmps', dd', k0, k1, k2, fun t => ?_⟩
      simp only [Z1, if_neg (e2 y hy)]; exact k3 t
  refine wpIn_mono (h _ _ _ (zk.cl _ _) (fun f hf => ⟨f2 f (by omega), f3 f (by omega)⟩) w0 Z1 _ w 0 ⟨_, _, R1⟩) fun e a' w' ⟨s', ⟨J', Z', R'⟩, he, hh, hgg, hlp, q⟩ => ?_
  have fin : LeavesInM Fence.wide 0 P fn a'.tmps (fun e w' => ∃ v J' Z', e = .returned v /\ Rel w0 Z0 J' Z' { s with heap := H' } a w' /\ bD w' J' Z' v r) a'.defers .returning w' := by
    obtain ⟨M', m1', _⟩ := R'.nodef
    refine R'.leaves M' m1' fun a2 w2 R2 h2 h3 => ?_
    split at q
    · rename_i nd l h1
      obtain ⟨hn, rfl⟩ := q
      obtain ⟨vs', hvs, hr⟩ := kS R2 h1 hn
      rw [h2] at hvs
      have hres : (results fn a'.tmps).run P w2 = .ok (if h : vs'.toArray.size = 1 then vs'.toArray[0] else .tuple vs'.toArray) w2 := by
        rw [sM, <- Array.toArray_toList (xs := fn.results), List.mapM_toArray]
        simp only [Sem.run_bind, Sem.run_map, hvs, Result.andThen_ok, Sem.run_pure]
      refine ⟨_, hres, _, J', Z', rfl, ?_, I9 hr⟩
      subst hh
      refine ⟨⟨M, m1, m2, fun b hb => ?_⟩, R.size, R2.below, R2.zfrom, R2.zlt, R2.jlt, R2.inj, R2.hole, R2.blk, fun t => ?_, fun f t => ?_, fun y hy => ?_, R.lnd, R.ro⟩
      · obtain ⟨M4, _, _, n3⟩ := R2.nodef
        exact n3 b (List.mem_append_right _ hb)
      · have := R2.ghost fid t
        rw [hgg, hg0] at this
        simp only [Z1, if_true] at this
        exact bD.Ga R.hole (R.slots t) this
      · have := R2.ghost f t
        rw [hgg, hg0] at this
        by_cases hf : f = fid
        · subst hf
          show bD _ _ _ _ (lk (gf s.gh f) t)
          rw [e1]; trivial
        · simp only [Z1, if_neg hf] at this
          exact bD.Ga R.hole (R.ghost f t) this
      · obtain ⟨fn', tmps', dd', k0, k1, k2, k3⟩ := R2.loops y (by rw [hlp]; exact hy)
        refine ⟨fn', tmps', dd', k0, k1, k2, fun t => ?_⟩
        have := k3 t
        simpa only [Z1, if_neg (e2 y hy)] using this
    · exact q.elim
  cases e <;> simp at he <;> exact fin
theorem zk.cons {H : List (Option (List CV))} {g : List (Nat × List (Nat × AV))} {f : Nat} {e : List (Nat × AV)} (he : ∀ q, q ∈ e -> q.2.ok (okB H)) (h : zk H g) : zk H ((f, e) :: g) := fun p hp => by
  rcases List.mem_cons.1 hp with rfl | hp
  · exact he
  · exact h p hp
theorem zk.nil (H : List (Option (List CV))) : zk H [] := fun p hp => by cases hp
attribute [go_sem] afV AS.mv Ug mvG mvH Ir AV.mv TV.mv CV.mv LV.mv abl Mg SH QT
end Go.Sea
set_option maxRecDepth 100000
set_option maxHeartbeats 4000000
namespace Go.Proofs.YtcfechepbamhkaaGreat
open Go.RowKit Go.Sea
open Nat renaming reduceAdd -> xA, reduceLT -> xL, reduceLeDiff -> xD, reduceEqDiff -> xE, reduceMul -> xM, reduceSub -> xS, reduceBEq -> xB
theorem JR : aN Tryz.prog 131 = true := by kernel_rfl
theorem zu : aN Tryz.prog 16 = true := by kernel_rfl
theorem tJ : aN Tryz.prog 46 = true := by kernel_rfl
theorem qG : aN Tryz.prog 70 = true := by kernel_rfl
theorem zX : aN Tryz.prog 91 = true := by kernel_rfl
theorem uK : aN Tryz.prog 92 = true := by kernel_rfl
attribute [go_sem] JR zu tJ qG uK
theorem JQ {L : List aH} {i : Nat} (hi : i < L.length) : List.take 13 (List.drop (i * 13) (eZ L)) = c13 (L.getD i bq) := by
  refine List.ext_getElem? fun o => ?_
  rw [List.getElem?_take, List.getElem?_drop]
  by_cases ho : o < 13
  · rw [if_pos ho]
    have h := uU L i o hi ho
    have hl : i * 13 + o < (eZ L).length := by rw [eX]; omega
    have hc : o < (c13 (L.getD i bq)).length := ho
    rw [List.getD, List.getD, List.getElem?_eq_getElem hl, List.getElem?_eq_getElem hc] at h
    rw [List.getElem?_eq_getElem hl, List.getElem?_eq_getElem hc]
    exact congrArg some h
  · rw [if_neg ho, List.getElem?_eq_none (by show 13 <= o; omega)]
theorem Ko (a b : List aH) : eZ (a ++ b) = eZ a ++ eZ b := by simp [eZ]
theorem JM {L : List aH} {i : Nat} (hi : i < L.length) (X : aH) : List.take (i * 13) (eZ L) ++ c13 X ++ List.drop (i * 13 + 13) (eZ L) = eZ (L.set i X) := by
  have e : L = L.take i ++ L.getD i bq :: L.drop (i + 1) := by
    rw [List.getD, List.getElem?_eq_getElem hi, Option.getD_some, <- List.drop_eq_getElem_cons hi, List.take_append_drop]
  have hl : (eZ (L.take i)).length = i * 13 := by rw [eX, List.length_take]; omega
  have e2 : eZ L = eZ (L.take i) ++ (c13 (L.getD i bq) ++ eZ (L.drop (i + 1))) := by
    conv => lhs; rw [e]
    rw [Ko]; rfl
  have e3 : L.set i X = L.take i ++ X :: L.drop (i + 1) := List.set_eq_take_append_cons_drop.trans (by rw [if_pos hi])
  rw [e3, Ko]
  have h1 : List.take (i * 13) (eZ L) = eZ (L.take i) := by rw [e2, <- hl, List.take_left]
  have h2 : List.drop (i * 13 + 13) (eZ L) = eZ (L.drop (i + 1)) := by
    rw [e2, <- List.drop_drop, <- hl, List.drop_left]
    exact List.drop_left (l₁ := c13 (L.getD i bq))
  rw [h1, h2, List.append_assoc]; rfl
theorem Vv {s : aH} {N : ah} (h : kD N s.ch = true /\ gq s.q s.dn N.nu = false) : nJ s N = true := by unfold nJ; rw [h.1, h.2]; rfl
theorem akP {s : aH} {N : ah} (h : kD N s.ch = false \/ gq s.q s.dn N.nu = true) : (nJ s N && decide (oW s N = 0)) = false := by
  unfold nJ; rcases h with h | h <;> rw [h] <;> simp
theorem Hf (q : Nat) (a : Nat -> Int) (x : Int) (hq : q <= 9223372036854775807) : aA Tryz.prog 92 [.one (.lst 1 q (bn a)), .one (.g (.int .i64 x))] (.t (.one (.g (.bool (gq q a x))))) := by
  refine ak Tryz.func92 rfl (by rw [Tryz.ntmps92]; simp) ?_
  simp only [Tryz.ntmps92, zM, PT.tv, au, Nat.zero_add, Nat.reduceAdd]
  repeat' (first
 | ((with_reducible show AW _ _ _ _); first
 | (with_reducible first | refine aS (fun K hK => ?_) | refine aI ?_ | refine aX ?_ | refine aT ?_ | refine aC ?_ | refine aB ?_)
 | (first
 | (with_reducible first | refine aP 0 [0,1] ?_ | refine aP (ops := #[⟨some 5, _, _, _, _, _⟩, _, _, _, _]) 1 [0,1] ?_ | refine aP (ops := #[⟨some 6, _, _, _, _, _⟩, _, _]) 1 [0,1] ?_ | refine aP 2 [0,1,7,8] ?_ | refine aP 3 [0,1,7,8] ?_ | refine aP 4 [0,1,5,7,8] ?_ | refine aP 5 [5] ?_ | refine aP 6 [0,1,7,8] ?_ | refine aP 7 [] ?_))
 | ((with_reducible show AW _ (Code.loop _) _ _); first
 | ((with_reducible refine aL (c := (Code.seq (Code.region 2 _ _) _)) (ι := Nat) [0,1,7] (fun i => [(8, iA .i64 (i : Int))]) (fun i => []) (fun i => i <= q /\ (∀ j, j < i -> a j ≠ x)) (fun i => q - i) 0 ?lg2 ?l12 ?l22 ?li2 ?lr2); (case' lg2 => rintro i _); (case' li2 => try (exact ⟨Nat.zero_le _, fun i hi => absurd hi (Nat.not_lt_zero _)⟩)); (case' lr2 => rintro i ⟨hi, hai⟩ KR hR2; simp only [bI, dI, hset, lk, if_true, if_false, xE, reduceIte, zN]))))
 | (((with_reducible refine And.intro ?_ ?_)); focus (omega))
 | (with_reducible refine aJ ?_)
 | ((with_reducible show bL _ _ _ _ _ _); first
 | ((with_reducible refine aM ?_ ?_) <;> (intro hc; (try simp only [zB, zC, reduceCtorEq] at hc); (try (exfalso; contradiction)))))
 | ((with_reducible refine hR2 _ (i + 1) ?_); (try clear hR2 KR))
 | ((with_reducible refine Told.mk ?_); simp only [go_sem, reduceIte, reduceCtorEq, xA, xL, xD, xE, xM, xS, xB, bn] <;> ((((try simp (disch := omega) only [aV, Int.natCast_add, Int.cast_ofNat_Int, and_true, true_and, and_self]); (repeat' (first | omega | (with_reducible refine And.intro ?_ ?_) | ((exact all_succ (by assumption) (by omega))))); done))))
 | ((fail_if_success (with_reducible show AW _ _ _ _)); simp (maxSteps := 2000000) only [go_sem, reduceIte, reduceCtorEq, xA, xL, xD, xE, xM, xS, xB, Tryz.f92, Tryz.f131, bn])
 | ((with_reducible show aQ _ _ _ _ _ _ _ _ _ _); first
 | ((refine dA (k := 131) Tryz.func131 rfl JR (by rw [Tryz.ntmps131]; simp) ?_ ?_ (fun K hK => ?_)); (focus (exact True.intro)); (focus ((simp [jF]; done))); simp only [Tryz.ntmps131, List.map_cons, List.map_nil, List.nil_append, List.cons_append, List.append_nil, LV.tv, au, Nat.zero_add, Nat.reduceAdd]))
 | ((with_reducible refine hK _ ?_); clear hK K)
 | (with_reducible apply_assumption -exfalso only [*]))
  all_goals first
    | (have e : gq q a x = true := decide_eq_true ⟨i, by omega, by omega⟩; rw [e]; exact decide_eq_true (by omega))
    | (have e : gq q a x = false := decide_eq_false (fun ⟨j, h1, h2⟩ => hai j (by omega) h2); rw [e]; rfl)
theorem agK (f : aj) (hf : f.Ok) (L : List aH) (i : Nat) (hL : L.length = f.k) (hi : i < f.k) (hk : f.k <= 1000) (hS : (L.getD i bq).Ok) (hw : dH (L.getD i bq) f.n f.N < f.n) : iH Tryz.prog 88 [.one (.ptr 0 0), .one (.ptr 3 0)] ([some [.slc 2 0 f.k 13, .iv (.lst 7 f.n (eP f.N))], some [.iv (.g (.slice none 0 0)), .iv (.g (.slice none 0 0))], some (eZ (L)), some [.iv (.g (.int .i64 (i : Int)))]]) (.t (.one (.iv (.g (.bool true))))) ([some [.slc 2 0 f.k 13, .iv (.lst 7 f.n (eP f.N))], some [.iv (.g (.slice none 0 0)), .iv (.g (.slice none 0 0))], some (eZ (L.set i (mU (L.getD i bq) (f.N (dH (L.getD i bq) f.n f.N))))), some [.iv (.g (.int .i64 (i : Int)))], some [.iv (.g (.bool true))], some [.iv (.g (.int .i64 (L.getD i bq).ch)), .iv (.g (.int .i64 (L.getD i bq).sc)), .iv (.g (.int .i64 (L.getD i bq).ed)), .iv (.g (.int .i64 (L.getD i bq).m.A)), .iv (.g (.int .i64 (L.getD i bq).m.B)), .iv (.g (.int .i64 (L.getD i bq).m.C)), .iv (.g (.int .i64 (L.getD i bq).m.D)), .iv (.g (.int .i64 (L.getD i bq).m.E)), .iv (.g (.int .i64 (L.getD i bq).m.F)), .iv (.g (.int .i64 (L.getD i bq).m.R)), .iv (.g (.int .i64 (L.getD i bq).cap)), .iv (.lst 1 (L.getD i bq).q (bn (L.getD i bq).dn)), .iv (.lst 9 (L.getD i bq).n (dN (L.getD i bq).f))], some [.iv (.lst 7 f.n (eP f.N))], some [.iv (.g (.int .i64 (f.N (dH (L.getD i bq) f.n f.N)).oc)), .iv (.g (.int .i64 (f.N (dH (L.getD i bq) f.n f.N)).nu)), .iv (.g (.int .i64 (f.N (dH (L.getD i bq) f.n f.N)).kd)), .iv (.g (.int .i64 (f.N (dH (L.getD i bq) f.n f.N)).fr)), .iv (.g (.int .i64 (f.N (dH (L.getD i bq) f.n f.N)).un)), .iv (.g (.int .i64 (f.N (dH (L.getD i bq) f.n f.N)).ca)), .iv (.lst 3 (f.N (dH (L.getD i bq) f.n f.N)).n (dK (f.N (dH (L.getD i bq) f.n f.N)).p))], some [.iv (.g (.int .i64 (f.N (dH (L.getD i bq) f.n f.N)).oc)), .iv (.g (.int .i64 (f.N (dH (L.getD i bq) f.n f.N)).nu)), .iv (.g (.int .i64 (f.N (dH (L.getD i bq) f.n f.N)).kd)), .iv (.g (.int .i64 (f.N (dH (L.getD i bq) f.n f.N)).fr)), .iv (.g (.int .i64 (f.N (dH (L.getD i bq) f.n f.N)).un)), .iv (.g (.int .i64 (f.N (dH (L.getD i bq) f.n f.N)).ca)), .iv (.lst 3 (f.N (dH (L.getD i bq) f.n f.N)).n (dK (f.N (dH (L.getD i bq) f.n f.N)).p))], none, none, none, none, none, none, none, none, none, none, some [.iv (.g (.int .i64 (mU (L.getD i bq) (f.N (dH (L.getD i bq) f.n f.N))).ch)), .iv (.g (.int .i64 (mU (L.getD i bq) (f.N (dH (L.getD i bq) f.n f.N))).sc)), .iv (.g (.int .i64 (mU (L.getD i bq) (f.N (dH (L.getD i bq) f.n f.N))).ed)), .iv (.g (.int .i64 (mU (L.getD i bq) (f.N (dH (L.getD i bq) f.n f.N))).m.A)), .iv (.g (.int .i64 (mU (L.getD i bq) (f.N (dH (L.getD i bq) f.n f.N))).m.B)), .iv (.g (.int .i64 (mU (L.getD i bq) (f.N (dH (L.getD i bq) f.n f.N))).m.C)), .iv (.g (.int .i64 (mU (L.getD i bq) (f.N (dH (L.getD i bq) f.n f.N))).m.D)), .iv (.g (.int .i64 (mU (L.getD i bq) (f.N (dH (L.getD i bq) f.n f.N))).m.E)), .iv (.g (.int .i64 (mU (L.getD i bq) (f.N (dH (L.getD i bq) f.n f.N))).m.F)), .iv (.g (.int .i64 (mU (L.getD i bq) (f.N (dH (L.getD i bq) f.n f.N))).m.R)), .iv (.g (.int .i64 (mU (L.getD i bq) (f.N (dH (L.getD i bq) f.n f.N))).cap)), .iv (.lst 1 (mU (L.getD i bq) (f.N (dH (L.getD i bq) f.n f.N))).q (bn (mU (L.getD i bq) (f.N (dH (L.getD i bq) f.n f.N))).dn)), .iv (.lst 9 (mU (L.getD i bq) (f.N (dH (L.getD i bq) f.n f.N))).n (dN (mU (L.getD i bq) (f.N (dH (L.getD i bq) f.n f.N))).f))]]) := by
  have hn := hf.n
  have hsub := JQ (L := L) (i := i) (by omega)
  have hupd2 := JM (L := L) (i := i) (by omega)
  simp only [c13] at hupd2
  refine Bo Tryz.func88 rfl (by rw [Tryz.ntmps88]; simp) fun g ls fr hG hFr => ?_
  obtain ⟨f0, d0⟩ := hFr fr (Nat.le_refl _)
  obtain ⟨f1, d1⟩ := hFr (fr + 1) (by omega)
  obtain ⟨f2, d2⟩ := hFr (fr + 2) (by omega)
  simp only [Tryz.ntmps88, au, Nat.zero_add, Nat.reduceAdd]
  repeat' (first
 | ((refine iV ?_ ?_) <;> (intro hc; (try rw [hc]); (try simp only [zB, zC, reduceCtorEq] at hc); (try (exfalso; contradiction))))
 | ((with_reducible show AW _ _ _ _); first
 | (with_reducible first | refine aS (fun K hK => ?_) | refine aI ?_ | refine aX ?_ | refine aT ?_ | refine aC ?_ | refine aB ?_)
 | ((refine eT (k := 91) rfl Tryz.func91 rfl zX (by rw [Tryz.ntmps91]; simp) ?_ ?_ (fun l hlne A B hA hB => ?_)); (focus (simp (maxSteps := 2000000) only [go_sem, reduceIte, reduceCtorEq, xA, xL, xD, xE, xM, xS, xB, Tryz.f88, Tryz.f91, Tryz.f46, bR, bP, bV, bU, bX, bY, bQ, bS, bW, bT, bC, bB, bF, bn, hsub, hupd2, c13, eX, gZ, hL, f0, d0, f1, d1, f2, d2, Nat.add_eq_left, Nat.left_eq_add]; try exact True.intro)); (focus (simp (maxSteps := 2000000) only [go_sem, reduceIte, reduceCtorEq, xA, xL, xD, xE, xM, xS, xB, Tryz.f88, Tryz.f91, Tryz.f46, bR, bP, bV, bU, bX, bY, bQ, bS, bW, bT, bC, bB, bF, bn, hsub, hupd2, c13, eX, gZ, hL, f0, d0, f1, d1, f2, d2, Nat.add_eq_left, Nat.left_eq_add]; try exact True.intro)); simp only [Tryz.ntmps91, List.map_cons, List.map_nil, LV.tv, au, yV, Nat.zero_add, Nat.reduceAdd]; clear hlne)
 | (with_reducible refine u7 (by assumption) ?_)
 | (first
 | (with_reducible first | refine aP (ops := #[⟨some 2, _, _, _, _, _⟩]) 0 [0,1,14] ?_ | refine aP (ops := #[⟨some 6, _, _, _, _, _⟩, _, _]) 0 [0,1,2] ?_ | refine aP (ops := #[⟨some 2, _, _, _, _, _⟩, _, _]) 0 [0,1] ?_ | refine aP (ops := #[⟨some 9, _, _, _, _, _⟩]) 1 [0,2,6,7,8] ?_ | refine aP (ops := #[⟨some 5, _, _, _, _, _⟩, _]) 1 [2,3] ?_)
 | ((with_reducible refine aR (c := Code.region 1 _ true) [0,1,2,14] ?_); (with_reducible refine mH 7 ?_ ?_ ?_ ?_ ?_); (focus kernel_rfl); (focus kernel_rfl); (focus kernel_rfl); (focus kernel_rfl))
 | (with_reducible first | refine aP (ops := #[⟨some 3, _, _, _, _, _⟩, _]) 2 [0,1,2,14] ?_ | refine aP (ops := #[⟨some 10, _, _, _, _, _⟩, _, _, _]) 2 [0,2,6,7,8] ?_ | refine aP 3 [0,2,5,6,7,8] ?_)
 | ((with_reducible refine aR (c := Code.region 3 _ true) [0,1,2,3,14] ?_); (with_reducible refine aD ?_ ?_ ?_ ?_); (focus kernel_rfl); (focus kernel_rfl); (focus kernel_rfl))
 | (with_reducible first | refine aP (ops := #[⟨some 25, _, _, _, _, _⟩, _]) 4 [0,1,2,4,5,14] ?_ | refine aP (ops := #[⟨some 30, _, _, _, _, _⟩, _]) 4 [0,2,6,7,8] ?_ | refine aP 5 [0,1,2,4] ?_ | refine aP 6 [2] ?_ | refine aP 7 [2] ?_))
 | ((with_reducible show AW _ (Code.loop _) _ _); first
 | ((with_reducible refine qL (c := (Code.seq (Code.region 1 _ _) _)) (ι := Nat) [0,2,6,7] (fun v => [(8, iA .i64 (v : Int))]) (fun v => [some [.slc 2 0 f.k 13, .iv (.lst 7 f.n (eP f.N))], some [.iv (.g (.slice none 0 0)), .iv (.g (.slice none 0 0))], some (eZ (L)), some [.iv (.g (.int .i64 (i : Int)))], some [.iv (.g (.bool false))], some [.iv (.g (.int .i64 (L.getD i bq).ch)), .iv (.g (.int .i64 (L.getD i bq).sc)), .iv (.g (.int .i64 (L.getD i bq).ed)), .iv (.g (.int .i64 (L.getD i bq).m.A)), .iv (.g (.int .i64 (L.getD i bq).m.B)), .iv (.g (.int .i64 (L.getD i bq).m.C)), .iv (.g (.int .i64 (L.getD i bq).m.D)), .iv (.g (.int .i64 (L.getD i bq).m.E)), .iv (.g (.int .i64 (L.getD i bq).m.F)), .iv (.g (.int .i64 (L.getD i bq).m.R)), .iv (.g (.int .i64 (L.getD i bq).cap)), .iv (.lst 1 (L.getD i bq).q (bn (L.getD i bq).dn)), .iv (.lst 9 (L.getD i bq).n (dN (L.getD i bq).f))], some [.iv (.lst 7 f.n (eP f.N))]]) (fun v => v <= f.n /\ (∀ t, t < v -> (nJ (L.getD i bq) (f.N t) && decide (oW (L.getD i bq) (f.N t) = 0)) = false)) (fun v => f.n - v) 0 ?lg1 ?l11 ?l21 ?li1 ?lr1); (case' lg1 => rintro v _; exact zk.cons (by simp only [List.mem_cons, forall_eq_or_imp, List.not_mem_nil, false_or, or_false, forall_eq, false_implies, implies_true, and_true, AV.ok, TV.ok, CV.ok, LV.ok, okB, hget, Option.isSome_some]; (repeat' (first | exact True.intro | (with_reducible refine And.intro ?_ ?_) | rfl))) (hG.mono (nQ (by simp only [Qm])))); (case' li1 => try (exact ⟨Nat.zero_le _, fun i hi => absurd hi (Nat.not_lt_zero _)⟩)); (case' lr1 => rintro v ⟨hv, hav⟩ KR hR1; simp only [bI, dI, hset, lk, if_true, if_false, xE, reduceIte, zN, bR, bP, bV, bU, bX, bY, bQ, bS, bW, bT, bC, bB, bF, hsub, hupd2, c13, eX, gZ, hL, f0, d0, f1, d1, f2, d2, Nat.add_eq_left, Nat.left_eq_add]))))
 | ((first | (with_reducible refine And.intro ?_ ?_) | (with_reducible refine Need.mk ?_)); focus (first | exact True.intro | omega | (intro _; (with_reducible assumption))))
 | (with_reducible refine wB rfl rfl rfl ?_)
 | ((with_reducible show bL _ _ _ _ _ _); first
 | ((with_reducible refine aM ?_ ?_) <;> (intro hc; (try simp only [zB, zC, reduceCtorEq] at hc); ((try (have e := Tm (s := (L.getD i bq)) (n := f.n) (N := f.N) (i := v) (by omega) (Vv (by assumption)) (by assumption) hav; subst e))); (try (exfalso; contradiction)))))
 | ((with_reducible show ∀ _ : AS -> Prop, _ -> _); intro K hK)
 | ((with_reducible refine And.intro ?_ ?_); focus (((with_reducible show yZ _ _ _ _ = true); kernel_rfl)))
 | ((with_reducible refine And.intro ?_ ?_); focus ((with_reducible show gW _ _ _ = true); kernel_rfl))
 | ((with_reducible show aQ _ _ _ _ _ _ _ _ _ _); first
 | (refine aF (k := 70) qG (DF (f.N v) (L.getD i bq).ch (hf.nn v (by omega))) ?_ ?_)
 | ((refine dA (k := 46) Tryz.func46 rfl tJ (by rw [Tryz.ntmps46]; simp) ?_ ?_ (fun K hK => ?_)); (focus (exact True.intro)); (focus (assumption)); simp only [Tryz.ntmps46, List.map_cons, List.map_nil, List.nil_append, List.cons_append, List.append_nil, LV.tv, au, Nat.zero_add, Nat.reduceAdd]))
 | ((with_reducible show bG _ _ _ _ _ _ _ _ _ _); first
 | (refine aO (k := 92) uK (fun hg => Hf (L.getD i bq).q (L.getD i bq).dn (f.N v).nu hS.q) ?_ ?_))
 | ((with_reducible show eu _ _ _ _ _ _ _ _ _ _ _ _ _); first
 | (refine cB (k := 16) zu (LA (L.getD i bq) (f.N v) hS (hf.nn v (by omega))) ?_ ?_))
 | ((with_reducible refine hR1 _ (v + 1) ?_); (try clear hR1 KR))
 | ((with_reducible refine Told.mk ?_); simp only [go_sem, reduceIte, reduceCtorEq, xA, xL, xD, xE, xM, xS, xB, bR, bP, bV, bU, bX, bY, bQ, bS, bW, bT, bC, bB, bF, bn, hsub, hupd2, c13, eX, gZ, hL, f0, d0, f1, d1, f2, d2, Nat.add_eq_left, Nat.left_eq_add] <;> ((((try simp (disch := omega) only [aV, Int.natCast_add, Int.cast_ofNat_Int, and_true, true_and, and_self]); (repeat' (first | omega | (with_reducible refine And.intro ?_ ?_) | ((exact all_succ (by assumption) (akP (by assumption)))) | ((exact all_succ (by assumption) (akO (by assumption)))) | ((exact kY rfl (mW _))))); done))))
 | ((fail_if_success (with_reducible show AW _ _ _ _)); simp (maxSteps := 2000000) only [go_sem, reduceIte, reduceCtorEq, xA, xL, xD, xE, xM, xS, xB, Tryz.f88, Tryz.f91, Tryz.f46, bR, bP, bV, bU, bX, bY, bQ, bS, bW, bT, bC, bB, bF, bn, hsub, hupd2, c13, eX, gZ, hL, f0, d0, f1, d1, f2, d2, Nat.add_eq_left, Nat.left_eq_add])
 | ((with_reducible show aQ _ _ _ _ _ _ (.yld _) _ _ _); (refine lS (by simp only [EG, if_true]; exact rfl) ?_ (by simp) ?_ ?_ (fun K hK => ?_)); (focus (exact True.intro)); (focus (simp [ng])); (focus (exact ⟨Nat.ne_of_lt (Nat.lt_succ_self _), by assumption⟩)); simp only [jm, gf, if_true, Nat.reduceAdd])
 | ((with_reducible refine hK _ ?_); clear hK K)
 | (with_reducible apply_assumption -exfalso only [*]))
  all_goals (exfalso; (have e := VW (s := (L.getD i bq)) (n := f.n) (N := f.N) (fun j hj => hav j (by omega)); omega))
theorem agm (f : aj) (hf : f.Ok) (L : List aH) (i : Nat) (hL : L.length = f.k) (hi : i < f.k) (hk : f.k <= 1000) (hS : (L.getD i bq).Ok) (hw : dH (L.getD i bq) f.n f.N = f.n) : iH Tryz.prog 88 [.one (.ptr 0 0), .one (.ptr 3 0)] ([some [.slc 2 0 f.k 13, .iv (.lst 7 f.n (eP f.N))], some [.iv (.g (.slice none 0 0)), .iv (.g (.slice none 0 0))], some (eZ (L)), some [.iv (.g (.int .i64 (i : Int)))]]) (.t (.one (.iv (.g (.bool false))))) ([some [.slc 2 0 f.k 13, .iv (.lst 7 f.n (eP f.N))], some [.iv (.g (.slice none 0 0)), .iv (.g (.slice none 0 0))], some (eZ (L)), some [.iv (.g (.int .i64 (i : Int)))], some [.iv (.g (.bool false))], some [.iv (.g (.int .i64 (L.getD i bq).ch)), .iv (.g (.int .i64 (L.getD i bq).sc)), .iv (.g (.int .i64 (L.getD i bq).ed)), .iv (.g (.int .i64 (L.getD i bq).m.A)), .iv (.g (.int .i64 (L.getD i bq).m.B)), .iv (.g (.int .i64 (L.getD i bq).m.C)), .iv (.g (.int .i64 (L.getD i bq).m.D)), .iv (.g (.int .i64 (L.getD i bq).m.E)), .iv (.g (.int .i64 (L.getD i bq).m.F)), .iv (.g (.int .i64 (L.getD i bq).m.R)), .iv (.g (.int .i64 (L.getD i bq).cap)), .iv (.lst 1 (L.getD i bq).q (bn (L.getD i bq).dn)), .iv (.lst 9 (L.getD i bq).n (dN (L.getD i bq).f))], some [.iv (.lst 7 f.n (eP f.N))]]) := by
  have hn := hf.n
  have hsub := JQ (L := L) (i := i) (by omega)
  have hupd2 := JM (L := L) (i := i) (by omega)
  simp only [c13] at hupd2
  refine Bo Tryz.func88 rfl (by rw [Tryz.ntmps88]; simp) fun g ls fr hG hFr => ?_
  obtain ⟨f0, d0⟩ := hFr fr (Nat.le_refl _)
  obtain ⟨f1, d1⟩ := hFr (fr + 1) (by omega)
  obtain ⟨f2, d2⟩ := hFr (fr + 2) (by omega)
  simp only [Tryz.ntmps88, au, Nat.zero_add, Nat.reduceAdd]
  repeat' (first
 | ((refine iV ?_ ?_) <;> (intro hc; (try rw [hc]); (try simp only [zB, zC, reduceCtorEq] at hc); (try (exfalso; contradiction))))
 | ((with_reducible show AW _ _ _ _); first
 | (with_reducible first | refine aS (fun K hK => ?_) | refine aI ?_ | refine aX ?_ | refine aT ?_ | refine aC ?_ | refine aB ?_)
 | ((refine eT (k := 91) rfl Tryz.func91 rfl zX (by rw [Tryz.ntmps91]; simp) ?_ ?_ (fun l hlne A B hA hB => ?_)); (focus (simp (maxSteps := 2000000) only [go_sem, reduceIte, reduceCtorEq, xA, xL, xD, xE, xM, xS, xB, Tryz.f88, Tryz.f91, Tryz.f46, bR, bP, bV, bU, bX, bY, bQ, bS, bW, bT, bC, bB, bF, bn, hsub, hupd2, c13, eX, gZ, hL, f0, d0, f1, d1, f2, d2, Nat.add_eq_left, Nat.left_eq_add]; try exact True.intro)); (focus (simp (maxSteps := 2000000) only [go_sem, reduceIte, reduceCtorEq, xA, xL, xD, xE, xM, xS, xB, Tryz.f88, Tryz.f91, Tryz.f46, bR, bP, bV, bU, bX, bY, bQ, bS, bW, bT, bC, bB, bF, bn, hsub, hupd2, c13, eX, gZ, hL, f0, d0, f1, d1, f2, d2, Nat.add_eq_left, Nat.left_eq_add]; try exact True.intro)); simp only [Tryz.ntmps91, List.map_cons, List.map_nil, LV.tv, au, yV, Nat.zero_add, Nat.reduceAdd]; clear hlne)
 | (with_reducible refine u7 (by assumption) ?_)
 | (first
 | (with_reducible first | refine aP (ops := #[⟨some 2, _, _, _, _, _⟩]) 0 [0,1,14] ?_ | refine aP (ops := #[⟨some 6, _, _, _, _, _⟩, _, _]) 0 [0,1,2] ?_ | refine aP (ops := #[⟨some 2, _, _, _, _, _⟩, _, _]) 0 [0,1] ?_ | refine aP (ops := #[⟨some 9, _, _, _, _, _⟩]) 1 [0,2,6,7,8] ?_ | refine aP (ops := #[⟨some 5, _, _, _, _, _⟩, _]) 1 [2,3] ?_)
 | ((with_reducible refine aR (c := Code.region 1 _ true) [0,1,2,14] ?_); (with_reducible refine mH 7 ?_ ?_ ?_ ?_ ?_); (focus kernel_rfl); (focus kernel_rfl); (focus kernel_rfl); (focus kernel_rfl))
 | (with_reducible first | refine aP (ops := #[⟨some 3, _, _, _, _, _⟩, _]) 2 [0,1,2,14] ?_ | refine aP (ops := #[⟨some 10, _, _, _, _, _⟩, _, _, _]) 2 [0,2,6,7,8] ?_ | refine aP 3 [0,2,5,6,7,8] ?_)
 | ((with_reducible refine aR (c := Code.region 3 _ true) [0,1,2,3,14] ?_); (with_reducible refine aD ?_ ?_ ?_ ?_); (focus kernel_rfl); (focus kernel_rfl); (focus kernel_rfl))
 | (with_reducible first | refine aP (ops := #[⟨some 25, _, _, _, _, _⟩, _]) 4 [0,1,2,4,5,14] ?_ | refine aP (ops := #[⟨some 30, _, _, _, _, _⟩, _]) 4 [0,2,6,7,8] ?_ | refine aP 7 [2] ?_))
 | ((with_reducible show AW _ (Code.loop _) _ _); first
 | ((with_reducible refine qL (c := (Code.seq (Code.region 1 _ _) _)) (ι := Nat) [0,2,6,7] (fun v => [(8, iA .i64 (v : Int))]) (fun v => [some [.slc 2 0 f.k 13, .iv (.lst 7 f.n (eP f.N))], some [.iv (.g (.slice none 0 0)), .iv (.g (.slice none 0 0))], some (eZ (L)), some [.iv (.g (.int .i64 (i : Int)))], some [.iv (.g (.bool false))], some [.iv (.g (.int .i64 (L.getD i bq).ch)), .iv (.g (.int .i64 (L.getD i bq).sc)), .iv (.g (.int .i64 (L.getD i bq).ed)), .iv (.g (.int .i64 (L.getD i bq).m.A)), .iv (.g (.int .i64 (L.getD i bq).m.B)), .iv (.g (.int .i64 (L.getD i bq).m.C)), .iv (.g (.int .i64 (L.getD i bq).m.D)), .iv (.g (.int .i64 (L.getD i bq).m.E)), .iv (.g (.int .i64 (L.getD i bq).m.F)), .iv (.g (.int .i64 (L.getD i bq).m.R)), .iv (.g (.int .i64 (L.getD i bq).cap)), .iv (.lst 1 (L.getD i bq).q (bn (L.getD i bq).dn)), .iv (.lst 9 (L.getD i bq).n (dN (L.getD i bq).f))], some [.iv (.lst 7 f.n (eP f.N))]]) (fun v => v <= f.n /\ (∀ t, t < v -> (nJ (L.getD i bq) (f.N t) && decide (oW (L.getD i bq) (f.N t) = 0)) = false)) (fun v => f.n - v) 0 ?lg1 ?l11 ?l21 ?li1 ?lr1); (case' lg1 => rintro v _; exact zk.cons (by simp only [List.mem_cons, forall_eq_or_imp, List.not_mem_nil, false_or, or_false, forall_eq, false_implies, implies_true, and_true, AV.ok, TV.ok, CV.ok, LV.ok, okB, hget, Option.isSome_some]; (repeat' (first | exact True.intro | (with_reducible refine And.intro ?_ ?_) | rfl))) (hG.mono (nQ (by simp only [Qm])))); (case' li1 => try (exact ⟨Nat.zero_le _, fun i hi => absurd hi (Nat.not_lt_zero _)⟩)); (case' lr1 => rintro v ⟨hv, hav⟩ KR hR1; simp only [bI, dI, hset, lk, if_true, if_false, xE, reduceIte, zN, bR, bP, bV, bU, bX, bY, bQ, bS, bW, bT, bC, bB, bF, hsub, hupd2, c13, eX, gZ, hL, f0, d0, f1, d1, f2, d2, Nat.add_eq_left, Nat.left_eq_add]))))
 | ((first | (with_reducible refine And.intro ?_ ?_) | (with_reducible refine Need.mk ?_)); focus (first | exact True.intro | omega | (intro _; (with_reducible assumption))))
 | (with_reducible refine wB rfl rfl rfl ?_)
 | ((with_reducible show bL _ _ _ _ _ _); first
 | ((with_reducible refine aM ?_ ?_) <;> (intro hc; (try simp only [zB, zC, reduceCtorEq] at hc); ((try (have e := Tm (s := (L.getD i bq)) (n := f.n) (N := f.N) (i := v) (by omega) (Vv (by assumption)) (by assumption) hav; subst e))); (try (exfalso; omega)))))
 | ((with_reducible show ∀ _ : AS -> Prop, _ -> _); intro K hK)
 | ((with_reducible refine And.intro ?_ ?_); focus (((with_reducible show yZ _ _ _ _ = true); kernel_rfl)))
 | ((with_reducible refine And.intro ?_ ?_); focus ((with_reducible show gW _ _ _ = true); kernel_rfl))
 | ((with_reducible show aQ _ _ _ _ _ _ _ _ _ _); first
 | (refine aF (k := 70) qG (DF (f.N v) (L.getD i bq).ch (hf.nn v (by omega))) ?_ ?_)
 | ((refine dA (k := 46) Tryz.func46 rfl tJ (by rw [Tryz.ntmps46]; simp) ?_ ?_ (fun K hK => ?_)); (focus (exact True.intro)); (focus (assumption)); simp only [Tryz.ntmps46, List.map_cons, List.map_nil, List.nil_append, List.cons_append, List.append_nil, LV.tv, au, Nat.zero_add, Nat.reduceAdd]))
 | ((with_reducible show bG _ _ _ _ _ _ _ _ _ _); first
 | (refine aO (k := 92) uK (fun hg => Hf (L.getD i bq).q (L.getD i bq).dn (f.N v).nu hS.q) ?_ ?_))
 | ((with_reducible show eu _ _ _ _ _ _ _ _ _ _ _ _ _); first
 | (refine cB (k := 16) zu (LA (L.getD i bq) (f.N v) hS (hf.nn v (by omega))) ?_ ?_))
 | ((with_reducible refine hR1 _ (v + 1) ?_); (try clear hR1 KR))
 | ((with_reducible refine Told.mk ?_); simp only [go_sem, reduceIte, reduceCtorEq, xA, xL, xD, xE, xM, xS, xB, bR, bP, bV, bU, bX, bY, bQ, bS, bW, bT, bC, bB, bF, bn, hsub, hupd2, c13, eX, gZ, hL, f0, d0, f1, d1, f2, d2, Nat.add_eq_left, Nat.left_eq_add] <;> ((((try simp (disch := omega) only [aV, Int.natCast_add, Int.cast_ofNat_Int, and_true, true_and, and_self]); (repeat' (first | omega | (with_reducible refine And.intro ?_ ?_) | ((exact all_succ (by assumption) (akP (by assumption)))) | ((exact all_succ (by assumption) (akO (by assumption)))) | ((exact kY rfl (mW _))))); done))))
 | ((fail_if_success (with_reducible show AW _ _ _ _)); simp (maxSteps := 2000000) only [go_sem, reduceIte, reduceCtorEq, xA, xL, xD, xE, xM, xS, xB, Tryz.f88, Tryz.f91, Tryz.f46, bR, bP, bV, bU, bX, bY, bQ, bS, bW, bT, bC, bB, bF, bn, hsub, hupd2, c13, eX, gZ, hL, f0, d0, f1, d1, f2, d2, Nat.add_eq_left, Nat.left_eq_add])
 | ((with_reducible show aQ _ _ _ _ _ _ (.yld _) _ _ _); (refine lS (by simp only [EG, if_true]; exact rfl) ?_ (by simp) ?_ ?_ (fun K hK => ?_)); (focus (exact True.intro)); (focus (simp [ng])); (focus (exact ⟨Nat.ne_of_lt (Nat.lt_succ_self _), by assumption⟩)); simp only [jm, gf, if_true, Nat.reduceAdd])
 | ((with_reducible refine hK _ ?_); clear hK K)
 | (with_reducible apply_assumption -exfalso only [*]))
  all_goals (exfalso; (have e := VW (s := (L.getD i bq)) (n := f.n) (N := f.N) (fun j hj => hav j (by omega)); omega))
end Go.Proofs.YtcfechepbamhkaaGreat
namespace Go.Proofs.YtcfechepbamhkaaGreat
open Go.RowKit Go.Sea Go.Lib
theorem U9 : Tryz.prog.underlying 22 = some (.slice 39) := by kernel_rfl
theorem amL : (Tryz.prog.info? 39).map (fun i => (i.size, i.bytes, i.zero.map (·.cells.size))) = some (13, 136, some 13) := by kernel_rfl
set_option maxHeartbeats 4000000 in
set_option maxRecDepth 100000 in
set_option maxHeartbeats 2000000 in
theorem Lj (cap : Nat) (w : World) : Calls Tryz.prog 80 #[.slice none 0 cap] w fun e w' => e = .returned (.slice none 0 0) /\ w' = w := by
  have q : (binOp .eql 22 (.slice none 0 cap) (.slice none 0 0)).run Tryz.prog w = .ok (.bool true) w := run_eql_slice_nil w 22 39 none 0 cap U9
  go_enter Tryz.func80, Tryz.ntmps80
  go_wp2
  go_ret
  exact ⟨rfl, rfl⟩
set_option maxHeartbeats 4000000 in
set_option maxRecDepth 100000 in
theorem yQ (p : Addr) (n cap : Nat) (w w' : World) (u : Value) (h : ∀ ty, (Builtin.append_ #[22,22] ty #[.slice (some ⟨w.heap.size, 0, none⟩) 0 0, .slice (some p) n cap]).run Tryz.prog (w.alloc (.cells #[] 39)) = .ok u w') : Calls Tryz.prog 80 #[.slice (some p) n cap] w fun e w'' => e = .returned u /\ w'' = w' := by
  have q : (binOp .eql 22 (.slice (some p) n cap) (.slice none 0 0)).run Tryz.prog w = .ok (.bool false) w := run_eql_slice_nil w 22 39 (some p) n cap U9
  go_enter Tryz.func80, Tryz.ntmps80
  go_wp2_with (at_builtin; refine Lib.wpList_append_run _ rfl _ _ _ _ rfl _ _ rfl rfl _ _ (h _) ?_)
  all_goals (go_ret; exact ⟨rfl, rfl⟩)
set_option maxHeartbeats 2000000 in
theorem aax (n : Nat) (f : Nat -> Nat -> IV) (hn : n <= 1000) : l8 Tryz.prog 80 [.one (.iv (.lst 13 n f))] (eG f 13 n 0) (fun i => .t (.one (.slc i 0 n 13))) := by
  intro H i hH w0 Z0 J Z s a w vs R hs hv
  subst hs
  obtain ⟨vs⟩ := vs
  match vs, hv with
  | [v], ⟨hv, _⟩ =>
    have hv : Rd w Z v (.lst 13 n f) := hv
    have hlen : (eG f 13 n 0).length = n * 13 := gI f 13 n 0
    have empty : ∀ (p : Addr) (cap : Nat), n = 0 -> v = .slice (some p) 0 cap -> Calls Tryz.prog 80 #[v] w fun e w' => ∃ v J' Z', e = .returned v /\ Rel w0 Z0 J' Z' { s with heap := hset s.heap i (eG f 13 n 0) } a w' /\ bD w' J' Z' v (.t (.one (.slc i 0 n 13))) := fun p cap h0 ev => by
      subst h0; subst ev
      obtain ⟨ii, h33⟩ : ∃ ii, Tryz.prog.info? 39 = some ii := by
        have := amL
        cases h : Tryz.prog.info? 39 with
        | none => rw [h] at this; cases this
        | some i => exact ⟨i, rfl⟩
      refine (yQ p 0 cap w _ _ fun ty => gX U9 h33 _ _ 0 0 cap (Nat.le_refl _)).mono fun e w' ⟨he, hw⟩ => ?_
      subst hw
      have R1 := R.new (nid := i) (cs := []) (c := #[]) (e := 39) (H := hset s.heap i []) hH (aG _ _ _) (fun q hq => aK _ _ _ _ hq) (by simp [aU])
      exact ⟨_, _, _, he, R1, Or.inr ⟨w.heap.size, 0, #[], 39, rfl, by simp [gy], Nat.zero_le _, Nat.zero_le _, heap_alloc_new w _, by simp⟩⟩
    have hv0 := hv
    cases hv with
    | nil p cap =>
      cases p with
      | none =>
        refine (Lj cap w).mono fun e w' ⟨he, hw⟩ => ?_
        subst hw
        exact ⟨_, J, Z, he, R.pV (nid := i) hH (by rw [aG]; rfl) (fun q hq => aK _ _ _ _ hq), Or.inl ⟨rfl, rfl⟩⟩
      | some p => exact empty p cap rfl rfl
    | lst b off _ cap _ _ X hz hc hm h1 h2 =>
      by_cases h0 : n = 0
      · exact empty ⟨b, off, none⟩ cap h0 (by rw [h0])
      · obtain ⟨hR1, G⟩ := R.call (mX w (.cells #[] 39))
        have hv1 : cu (w.alloc (.cells #[] 39)) J (fun b => Z b \/ (w.heap.size <= b /\ b < (w.alloc (.cells #[] 39)).heap.size)) (.slice (some ⟨b, off, none⟩) n cap) (.one (.iv (.lst 13 n f))) := bM.grow G (CV.bZ (.iv (.lst 13 n f))) hv0
        obtain ⟨ii, z, t1, t2, t3, t4, t5, t6, t7⟩ := gY (P := Tryz.prog) (t := 22) (e := 39) (n := 13) (b := 136) (by kernel_rfl)
        rcases ko hR1 (size := 13) (m := n) (nd := True) (x := .one (.iv (.lst 13 n f))) (ns := eG f 13 n 0) (by simp [x9]) trivial hv1 with ⟨h, _⟩ | ⟨hpos, b2, off2, cap2, news, e2, n1, n2, n3, n4⟩
        · exact absurd h h0
        · cases e2
          have hrun := fun ty => run_append_grow (P := Tryz.prog) (w.alloc (.cells #[] 39)) 22 ty 39 ii z t1 t2 t3 ⟨w.heap.size, 0, none⟩ 0 0 [] (by simp) (fun j v h => by simp at h) ⟨b, off, none⟩ n cap news (by rw [n1, t5]) n2 (by omega) (by omega) (by
            rw [t6]; exact growslice_fits (by omega) (by omega))
          simp only [Nat.zero_add] at hrun
          have hsz := grownCap_ge (w.alloc (.cells #[] 39)) n 0 39
          have hmx := grownCap_le_maxLen (w.alloc (.cells #[] 39)) n 0 39 (by unfold maxLen; omega)
          generalize grownCap (w.alloc (.cells #[] 39)) n 0 39 = G at hrun hsz hmx
          have hC : G * 13 <= (([] : List Value).toArray ++ news.toArray ++ Builtin.zeroCells z.cells (G - n)).size := by
            simp only [Array.size_append, size_zeroCells, t4, List.size_toArray, n1, List.length_nil]
            omega
          have hD : aU (bM (w.alloc (.cells #[] 39)) J (fun b => Z b \/ (w.heap.size <= b /\ b < (w.alloc (.cells #[] 39)).heap.size))) ((([] : List Value).toArray ++ news.toArray ++ Builtin.zeroCells z.cells (G - n)).toList.take (eG f 13 n 0).length) (eG f 13 n 0) := by
            rw [Array.toList_append, Array.toList_append, List.nil_append, List.take_append_of_le_length (by simp; omega), List.take_of_length_le (by simp; omega)]
            exact n4
          generalize ([] : List Value).toArray ++ news.toArray ++ Builtin.zeroCells z.cells (G - n) = C at hrun hC hD
          have cl := yQ ⟨b, off, none⟩ n cap w _ _ hrun
          have R2 := (hR1.drew).new (nid := i) (cs := eG f 13 n 0) (c := C) (e := 39) (H := hset s.heap i (eG f 13 n 0)) hH (aG _ _ _) (fun q hq => aK _ _ _ _ hq) (lX hD)
          have hA := heap_alloc_new (w.alloc (.cells #[] 39)).drew (.cells C 39)
          generalize hw1 : w.alloc (.cells #[] 39) = w1 at cl R2 hA
          refine cl.mono fun e w' ⟨he, hw⟩ => ?_
          subst hw
          exact ⟨_, _, _, he, R2, Or.inr ⟨_, _, _, 39, rfl, by simp [gy], hsz, hmx, hA, by rw [Nat.zero_add]; exact hC⟩⟩
end Go.Proofs.YtcfechepbamhkaaGreat
set_option maxRecDepth 100000
set_option maxHeartbeats 4000000
namespace Go.Proofs.YtcfechepbamhkaaGreat
open Go.RowKit Go.Sea
open Nat renaming reduceAdd -> xA, reduceLT -> xL, reduceLeDiff -> xD, reduceEqDiff -> xE, reduceMul -> xM, reduceSub -> xS, reduceBEq -> xB
theorem ZM : aN Tryz.prog 119 = true := by kernel_rfl
theorem OD : aN Tryz.prog 80 = true := by kernel_rfl
theorem O4 : aN Tryz.prog 88 = true := by kernel_rfl
theorem ale : fM Tryz.prog 25 = true := by kernel_rfl
theorem afh : dz Tryz.prog 25 1 = some (1, 1) := by kernel_rfl
theorem akd : fV Tryz.prog 25 = some [.iv (.g (.slice none 0 0)), .iv (.g (.slice none 0 0))] := by kernel_rfl
attribute [go_sem] ZM OD ale afh akd
theorem Ba {P : Program} {k : FuncId} {ts : List TV} {cs : List CV} {r : Nat -> AV} (h : l8 P k ts cs r) {H : List (Option (List CV))} {i : Nat} (hi : hget H i = none) : iH P k ts H (r i) (hset H i cs) := h H i hi
def jM (f : aj) (i : Nat) : List aH := (List.range f.k).map fun j => if j < i then rQ (f.S j) f.n f.N else f.S j
theorem iW (f : aj) (i : Nat) : (jM f i).length = f.k := by simp [jM]
theorem TD {f : aj} {i j : Nat} (h : j < f.k) : (jM f i).getD j bq = if j < i then rQ (f.S j) f.n f.N else f.S j := by
  simp [jM, List.getD, h]
theorem Oh {f : aj} {i : Nat} (h : i < f.k) (X : aH) : ((jM f i).set i X).getD i bq = X := by
  rw [List.getD, List.getElem?_set_self (by rw [iW]; exact h)]; rfl
theorem ag5 {f : aj} {i : Nat} (h : i < f.k) : (jM f i).set i (qZ (f.S i) f.n f.N 0) = jM f i := by
  have e : (jM f i)[i]'(by rw [iW]; exact h) = f.S i := by simp [jM]
  show (jM f i).set i (f.S i) = _
  rw [<- e]; exact List.set_getElem_self _
theorem ail {f : aj} {i j : Nat} (h : i < f.k) (hg : goW (f.S i) f.n f.N j) (hw : dH (qZ (f.S i) f.n f.N j) f.n f.N = f.n) : (jM f i).set i (qZ (f.S i) f.n f.N j) = jM f (i + 1) := by
  rw [<- agX hg hw]
  refine List.ext_getElem (by rw [List.length_set, iW, iW]) fun u h1 h2 => ?_
  rw [List.getElem_set]
  by_cases hu : i = u
  · rw [if_pos hu]; subst hu; simp [jM]
  · rw [if_neg hu]
    simp only [jM, List.getElem_map, List.getElem_range]
    by_cases g : u < i
    · rw [if_pos g, if_pos (by omega)]
    · rw [if_neg g, if_neg (by omega)]
theorem YW {f : aj} {i : Nat} (hi : (f.k : Int) <= i) : ∀ j o, j < f.k -> o < 13 -> (IE ((eZ (jM f i)).getD (j * 13 + o) .any)).eqv (jq (BG f).S j o) := fun j o hj ho => by
  have h := YQ (jM f i) j o (by rw [iW]; exact hj) ho
  rw [TD hj, if_pos (by omega)] at h; exact h
theorem Vy (S : Nat -> aH) : ∀ (n : Nat), Go.Sea.eG (jq S) 13 n 0 = eZ ((List.range n).map S) := fun n => by
  have hl : (Go.Sea.eG (jq S) 13 n 0).length = (eZ ((List.range n).map S)).length := by rw [gI, eX]; simp
  refine List.ext_getElem? fun i => ?_
  by_cases h : i < n * 13
  · have e : i = i / 13 * 13 + i % 13 := by omega
    have h1 := pz (jq S) 13 n 0 (i / 13) (i % 13) (by omega) (Nat.mod_lt _ (by decide))
    rw [Nat.zero_add, <- e] at h1
    rw [h1]
    have h2 := uU ((List.range n).map S) (i / 13) (i % 13) (by simp; omega) (Nat.mod_lt _ (by decide))
    rw [<- e] at h2
    have hlt : i < (eZ ((List.range n).map S)).length := by rw [eX]; simp; omega
    rw [List.getD, List.getElem?_eq_getElem hlt, Option.getD_some] at h2
    rw [List.getElem?_eq_getElem hlt, h2]
    have e3 : ((List.range n).map S).getD (i / 13) bq = S (i / 13) := by
      have : i / 13 < n := by omega
      simp [List.getD, this]
    rw [e3]
    have hm := Nat.mod_lt i (show 0 < 13 by decide)
    generalize i % 13 = o at hm
    generalize i / 13 = q
    rcases (by omega : o = 0 \/ o = 1 \/ o = 2 \/ o = 3 \/ o = 4 \/ o = 5 \/ o = 6 \/ o = 7 \/ o = 8 \/ o = 9 \/ o = 10 \/ o = 11 \/ o = 12) with rfl | rfl | rfl | rfl | rfl | rfl | rfl | rfl | rfl | rfl | rfl | rfl | rfl <;> rfl
  · rw [List.getElem?_eq_none (by rw [gI]; omega), List.getElem?_eq_none (by rw [eX]; simp; omega)]
theorem qM (f : aj) : Go.Sea.eG (jq f.S) 13 f.k 0 = eZ (jM f 0) := by
  rw [Vy]; congr 1
theorem adV (f : aj) (hf : f.Ok) (L : List aH) (i : Nat) (hL : L.length = f.k) (hi : i < f.k) (hk : f.k <= 1000) (X : aH) (hX : L.getD i bq = X) (hS : X.Ok) (hw : dH X f.n f.N < f.n) : iH Tryz.prog 88 [.one (.ptr 0 0), .one (.ptr 3 0)] ([some [.slc 2 0 f.k 13, .iv (.lst 7 f.n (eP f.N))], some [.iv (.g (.slice none 0 0)), .iv (.g (.slice none 0 0))], some (eZ (L)), some [.iv (.g (.int .i64 (i : Int)))]]) (.t (.one (.iv (.g (.bool true))))) ([some [.slc 2 0 f.k 13, .iv (.lst 7 f.n (eP f.N))], some [.iv (.g (.slice none 0 0)), .iv (.g (.slice none 0 0))], some (eZ (L.set i (mU X (f.N (dH X f.n f.N))))), some [.iv (.g (.int .i64 (i : Int)))], some [.iv (.g (.bool true))], some [.iv (.g (.int .i64 X.ch)), .iv (.g (.int .i64 X.sc)), .iv (.g (.int .i64 X.ed)), .iv (.g (.int .i64 X.m.A)), .iv (.g (.int .i64 X.m.B)), .iv (.g (.int .i64 X.m.C)), .iv (.g (.int .i64 X.m.D)), .iv (.g (.int .i64 X.m.E)), .iv (.g (.int .i64 X.m.F)), .iv (.g (.int .i64 X.m.R)), .iv (.g (.int .i64 X.cap)), .iv (.lst 1 X.q (bn X.dn)), .iv (.lst 9 X.n (dN X.f))], some [.iv (.lst 7 f.n (eP f.N))], some [.iv (.g (.int .i64 (f.N (dH X f.n f.N)).oc)), .iv (.g (.int .i64 (f.N (dH X f.n f.N)).nu)), .iv (.g (.int .i64 (f.N (dH X f.n f.N)).kd)), .iv (.g (.int .i64 (f.N (dH X f.n f.N)).fr)), .iv (.g (.int .i64 (f.N (dH X f.n f.N)).un)), .iv (.g (.int .i64 (f.N (dH X f.n f.N)).ca)), .iv (.lst 3 (f.N (dH X f.n f.N)).n (dK (f.N (dH X f.n f.N)).p))], some [.iv (.g (.int .i64 (f.N (dH X f.n f.N)).oc)), .iv (.g (.int .i64 (f.N (dH X f.n f.N)).nu)), .iv (.g (.int .i64 (f.N (dH X f.n f.N)).kd)), .iv (.g (.int .i64 (f.N (dH X f.n f.N)).fr)), .iv (.g (.int .i64 (f.N (dH X f.n f.N)).un)), .iv (.g (.int .i64 (f.N (dH X f.n f.N)).ca)), .iv (.lst 3 (f.N (dH X f.n f.N)).n (dK (f.N (dH X f.n f.N)).p))], none, none, none, none, none, none, none, none, none, none, some [.iv (.g (.int .i64 (mU X (f.N (dH X f.n f.N))).ch)), .iv (.g (.int .i64 (mU X (f.N (dH X f.n f.N))).sc)), .iv (.g (.int .i64 (mU X (f.N (dH X f.n f.N))).ed)), .iv (.g (.int .i64 (mU X (f.N (dH X f.n f.N))).m.A)), .iv (.g (.int .i64 (mU X (f.N (dH X f.n f.N))).m.B)), .iv (.g (.int .i64 (mU X (f.N (dH X f.n f.N))).m.C)), .iv (.g (.int .i64 (mU X (f.N (dH X f.n f.N))).m.D)), .iv (.g (.int .i64 (mU X (f.N (dH X f.n f.N))).m.E)), .iv (.g (.int .i64 (mU X (f.N (dH X f.n f.N))).m.F)), .iv (.g (.int .i64 (mU X (f.N (dH X f.n f.N))).m.R)), .iv (.g (.int .i64 (mU X (f.N (dH X f.n f.N))).cap)), .iv (.lst 1 (mU X (f.N (dH X f.n f.N))).q (bn (mU X (f.N (dH X f.n f.N))).dn)), .iv (.lst 9 (mU X (f.N (dH X f.n f.N))).n (dN (mU X (f.N (dH X f.n f.N))).f))]]) := by
  subst hX; exact agK f hf L i hL hi hk hS hw
theorem adn (f : aj) (hf : f.Ok) (L : List aH) (i : Nat) (hL : L.length = f.k) (hi : i < f.k) (hk : f.k <= 1000) (X : aH) (hX : L.getD i bq = X) (hS : X.Ok) (hw : dH X f.n f.N = f.n) : iH Tryz.prog 88 [.one (.ptr 0 0), .one (.ptr 3 0)] ([some [.slc 2 0 f.k 13, .iv (.lst 7 f.n (eP f.N))], some [.iv (.g (.slice none 0 0)), .iv (.g (.slice none 0 0))], some (eZ (L)), some [.iv (.g (.int .i64 (i : Int)))]]) (.t (.one (.iv (.g (.bool false))))) ([some [.slc 2 0 f.k 13, .iv (.lst 7 f.n (eP f.N))], some [.iv (.g (.slice none 0 0)), .iv (.g (.slice none 0 0))], some (eZ (L)), some [.iv (.g (.int .i64 (i : Int)))], some [.iv (.g (.bool false))], some [.iv (.g (.int .i64 X.ch)), .iv (.g (.int .i64 X.sc)), .iv (.g (.int .i64 X.ed)), .iv (.g (.int .i64 X.m.A)), .iv (.g (.int .i64 X.m.B)), .iv (.g (.int .i64 X.m.C)), .iv (.g (.int .i64 X.m.D)), .iv (.g (.int .i64 X.m.E)), .iv (.g (.int .i64 X.m.F)), .iv (.g (.int .i64 X.m.R)), .iv (.g (.int .i64 X.cap)), .iv (.lst 1 X.q (bn X.dn)), .iv (.lst 9 X.n (dN X.f))], some [.iv (.lst 7 f.n (eP f.N))]]) := by
  subst hX; exact agm f hf L i hL hi hk hS hw
theorem ahV (f : aj) (hf : f.Ok) (hk : f.k <= 1000) : aA Tryz.prog 44 [jJ f] (.t (jJ (BG f))) := by
  have hn := hf.n
  refine ak Tryz.func44 rfl (by rw [Tryz.ntmps44]; simp) ?_
  simp only [Tryz.ntmps44, zM, PT.tv, au, Nat.zero_add, Nat.reduceAdd]
  repeat' (first
 | ((with_reducible show AW _ _ _ _); first
 | (with_reducible first | refine aS (fun K hK => ?_) | refine aI ?_ | refine aX ?_ | refine aT ?_ | refine aC ?_ | refine aB ?_)
 | (first
 | (with_reducible first | refine aP 0 [0] ?_ | refine aP 1 [1,2] ?_ | refine aP 2 [1,2] ?_ | refine aP 3 [1,2,11,12] ?_ | refine aP 4 [1,2,11,12] ?_ | refine aP 5 [1,2,3,11,12] ?_ | refine aP 6 [1,2,4,11,12] ?_ | refine aP 7 [1,2,11,12] ?_ | refine vH (c := Code.region 8 _ false) [2] ?_ (aP 8 [1,2] ?_)))
 | ((with_reducible show AW _ (Code.loop _) _ _); first
 | ((with_reducible refine qL (c := (Code.seq (Code.region 3 _ _) _)) (ι := Nat) [1,2,11] (fun i => [(12, iA .i64 (i : Int))]) (fun i => [some [.slc 2 0 f.k 13, .iv (.lst 7 f.n (eP f.N))], some [.iv (.g (.slice none 0 0)), .iv (.g (.slice none 0 0))], some (eZ (jM f i))]) (fun i => i <= f.k) (fun i => f.k - i) 0 ?lg3 ?l13 ?l23 ?li3 ?lr3); (case' lg3 => rintro i _; exact zk.nil _); (case' li3 => try (omega)); (case' lr3 => rintro i hi KR hR3; simp only [bI, dI, hset, lk, if_true, if_false, xE, reduceIte, zN, bR, bP, bV, bU, bX, bY, bQ, bS, bW, bT, bC, bB, bF, qM, gZ, uR, eX, iW, List.set_set, List.length_set]))
 | ((with_reducible refine qL (c := (Code.seq (Code.seq (Code.region 6 _ _) _) _)) (ι := Nat) [1,2,4,11,12] (fun j => []) (fun j => [some [.slc 2 0 f.k 13, .iv (.lst 7 f.n (eP f.N))], some [.iv (.g (.slice none 0 0)), .iv (.g (.slice none 0 0))], some (eZ (((jM f i).set i (qZ (f.S i) f.n f.N j)))), some [.iv (.g (.int .i64 (i : Int)))]]) (fun j => goW (f.S i) f.n f.N j) (fun j => 201 - j) 0 ?lg6 ?l16 ?l26 ?li6 ?lr6); (case' lg6 => rintro j _; exact zk.nil _); (case' li6 => try (exact fun i hi => absurd hi (Nat.not_lt_zero i))); (case' lr6 => rintro j hg KR hR6; have hgl := VX hg; rcases Nat.lt_or_ge (dH (qZ (f.S i) f.n f.N j) f.n f.N) f.n with hw | hw; all_goals (try (have hw := Nat.le_antisymm (OX (qZ (f.S i) f.n f.N j) f.n f.N) hw)); simp only [bI, dI, hset, lk, if_true, if_false, xE, reduceIte, zN, bR, bP, bV, bU, bX, bY, bQ, bS, bW, bT, bC, bB, bF, qM, gZ, uR, eX, iW, List.set_set, List.length_set]))))
 | ((first | (with_reducible refine And.intro ?_ ?_) | (with_reducible refine Need.mk ?_)); focus (first | exact mW _ | exact True.intro))
 | (with_reducible refine aJ ?_)
 | ((with_reducible show bL _ _ _ _ _ _); first
 | ((with_reducible refine aM ?_ ?_) <;> (intro hc; (try simp only [zB, zC, reduceCtorEq] at hc); ((try (have e0 : f.k = i := (by omega)))); (try (exfalso; contradiction)))))
 | ((with_reducible show aQ _ _ _ _ _ _ _ _ _ _); first
 | (refine nK (k := 80) OD (Ba (aax f.k (jq f.S) hk) (i := 2) rfl) ?_ ?_)
 | (refine J4 (k := 88) O4 (adV f hf ((jM f i).set i (qZ (f.S i) f.n f.N j)) i (by rw [List.length_set, iW]) (by omega) hk (qZ (f.S i) f.n f.N j) (Oh (by omega) _) (KQ (hf.s i (by omega)) j) (by assumption)) ?_ ?_)
 | (refine J4 (k := 88) O4 (adn f hf ((jM f i).set i (qZ (f.S i) f.n f.N j)) i (by rw [List.length_set, iW]) (by omega) hk (qZ (f.S i) f.n f.N j) (Oh (by omega) _) (KQ (hf.s i (by omega)) j) (by assumption)) ?_ ?_))
 | ((with_reducible refine hR3 _ (i + 1) ?_); (try clear hR3 KR))
 | ((with_reducible refine hR6 _ (j + 1) ?_); (try clear hR6 KR))
 | ((with_reducible refine Told.mk ?_); simp only [go_sem, reduceIte, reduceCtorEq, xA, xL, xD, xE, xM, xS, xB, bR, bP, bV, bU, bX, bY, bQ, bS, bW, bT, bC, bB, bF, bn, qM, gZ, uR, eX, iW, List.set_set, List.length_set] <;> (first | (((try simp (disch := omega) only [aV, Int.natCast_add, Int.cast_ofNat_Int, and_true, true_and, and_self]); (repeat' (first | omega | (with_reducible refine And.intro ?_ ?_) | (exact all_succ (by assumption) (by assumption)) | ((exact kY rfl (mW _))) | ((exact kY (congrArg eZ (ail (by omega) hg (by assumption))) (mW _))))); done)) | (((try simp (disch := omega) only [aV, Int.natCast_add, Int.cast_ofNat_Int, and_true, true_and, and_self]); (repeat' (((exact kY (congrArg eZ (ag5 (by omega)).symm) (mW _))))); done))))
 | ((fail_if_success (with_reducible show AW _ _ _ _)); simp (maxSteps := 2000000) only [go_sem, reduceIte, reduceCtorEq, xA, xL, xD, xE, xM, xS, xB, Tryz.f44, bR, bP, bV, bU, bX, bY, bQ, bS, bW, bT, bC, bB, bF, bn, qM, gZ, uR, eX, iW, List.set_set, List.length_set])
 | ((with_reducible refine hK _ ?_); clear hK K)
 | (with_reducible apply_assumption -exfalso only [*]))
  all_goals (exact ⟨⟨rfl, YW (by assumption)⟩, rfl, fun i o hi ho => IV.bf _⟩)
end Go.Proofs.YtcfechepbamhkaaGreat
