/- A region that draws its order, by an invariant: one step for each operation, whatever the order. -/
import Derived.Test.YtifoncmlelinjaaSeaI
import Derived.WalkKit
import Derived.WalkSpells
import Derived.Lib.Hide
import Derived.Deep.RegionHeld3
import Derived.Handy
set_option linter.unusedVariables false
set_option linter.unusedSimpArgs false
namespace Go.Sea
open Go.RowKit

def upd (L : Nat → Bool) (i : Nat) : Nat → Bool := fun k => if k = i then true else L k
theorem upd_same (L : Nat → Bool) (i : Nat) : upd L i i = true := by simp [upd]
theorem upd_ne (L : Nat → Bool) {i k : Nat} (h : k ≠ i) : upd L i k = L k := by simp [upd, h]
theorem upd_lit (L : Nat → Bool) (i k : Nat) : upd L i k = if k = i then true else L k := rfl

section
variable {P : Program} {ops : Array Oper} {Q : Exit → Act → World → Prop} {md : Region.Mode}

def Closed (md : Region.Mode) (ops : Array Oper) (L : Nat → Bool) : Prop := ∀ k o, ops[k]? = some o → L k = true → (o.after.toList.all fun e => !Region.binds md e || L e.on) = true
def Steps (P : Program) (md : Region.Mode) (ops : Array Oper) (Q : Exit → Act → World → Prop) (Inv : (Nat → Bool) → Act → World → Prop) : Nat → List Oper → Prop
  | _, [] => True
  | i, o :: os => (∀ L a w, Inv L a w → L i = false → (o.after.toList.all fun e => !Region.binds md e || L e.on) = true → Closed md ops L →
      ∀ K : Act → World → Prop, (∀ a' w', Inv (upd L i) a' w' → K a' w') → if Region.wanted o (yielded ops a.tmps) = true then Oper.wp P o a w K Q else K (a.put o.dst undef) w) ∧ Steps P md ops Q Inv (i + 1) os

theorem Steps.at {Inv : (Nat → Bool) → Act → World → Prop} : ∀ (os : List Oper) (i : Nat), Steps P md ops Q Inv i os → ∀ k o, os[k]? = some o →
    ∀ L a w, Inv L a w → L (i + k) = false → (o.after.toList.all fun e => !Region.binds md e || L e.on) = true → Closed md ops L →
      ∀ K : Act → World → Prop, (∀ a' w', Inv (upd L (i + k)) a' w' → K a' w') → if Region.wanted o (yielded ops a.tmps) = true then Oper.wp P o a w K Q else K (a.put o.dst undef) w
  | [], _, _, k, o, h => by simp at h
  | x :: xs, i, hs, 0, o, h => by
    simp at h; subst h
    exact hs.1
  | x :: xs, i, hs, k + 1, o, h => by
    have := Steps.at xs (i + 1) hs.2 k o (by simpa using h)
    rw [show i + 1 + k = i + (k + 1) by omega] at this
    exact this

/-- How many operations have not come up. -/
def left (n : Nat) (listed : Array Bool) : Nat := ((List.range n).filter fun k => !listed.getD k false).length

theorem left_set {n i : Nat} {listed : Array Bool} (hs : listed.size = n) (hi : i < n) (h : listed.getD i true = false) : left n (listed.setIfInBounds i true) < left n listed := by
  unfold left
  have hsub : ((List.range n).filter fun k => !(listed.setIfInBounds i true).getD k false) = (((List.range n).filter fun k => !listed.getD k false).filter fun k => k != i) := by
    rw [List.filter_filter]
    apply List.filter_congr
    intro k hk
    by_cases hki : k = i
    · subst hki; simp [hs, hi]
    · simp [Array.getElem?_setIfInBounds_ne (Ne.symm hki), hki]
  rw [hsub]
  have hmem : i ∈ (List.range n).filter fun k => !listed.getD k false := by
    rw [List.mem_filter]
    refine ⟨List.mem_range.2 hi, ?_⟩
    have : listed.getD i false = false := by
      simp [hs, hi] at h ⊢; exact h
    simp [this]
  exact List.length_filter_lt_length_iff_exists.2 ⟨i, hmem, by simp⟩

theorem wpAny_inv (Inv : (Nat → Bool) → Act → World → Prop) (hback : ∀ i o, ops[i]? = some o → ∀ e ∈ o.after, Region.binds md e = true → e.on < i)
    (hs : Steps P md ops Q Inv 0 ops.toList) (hend : ∀ L a w, (∀ k, k < ops.size → L k = true) → Inv L a w → Q .normal a w) :
    ∀ (fuel : Nat) (listed : Array Bool) (a : Act) (w : World), listed.size = ops.size → left ops.size listed ≤ fuel → Inv (fun k => listed.getD k false) a w → Closed md ops (fun k => listed.getD k false) → wpAny P md ops Q fuel listed a w := by
  have hall : ∀ listed : Array Bool, listed.size = ops.size → Region.ready md ops listed = [] → ∀ k, k < ops.size → listed.getD k false = true := by
    intro listed hsz hr k
    induction k using Nat.strongRecOn with
    | ind k ih =>
      intro hk
      cases hv : listed.getD k false with
      | true => rfl
      | false =>
        exfalso
        have hm : k ∈ Region.ready md ops listed := by
          refine mem_ready.2 ⟨?_, ops[k], by simp [hk], fun e he hb => ?_⟩
          · simp [hsz, hk] at hv ⊢; exact hv
          · have := hback k ops[k] (by simp [hk]) e he hb
            exact ih e.on this (by omega)
        rw [hr] at hm; cases hm
  intro fuel
  induction fuel with
  | zero =>
    intro listed a w hsz hl hI hcl
    have hr : Region.ready md ops listed = [] := by
      apply List.eq_nil_iff_forall_not_mem.2
      intro i hi
      obtain ⟨h1, o, ho, _⟩ := mem_ready.1 hi
      have hlt : i < ops.size := by
        rcases Nat.lt_or_ge i ops.size with h | h
        · exact h
        · simp [Array.getElem?_eq_none h] at ho
      have := left_set hsz hlt h1
      omega
    exact ⟨hr, hend _ a w (hall listed hsz hr) hI⟩
  | succ fuel ih =>
    intro listed a w hsz hl hI hcl
    refine ⟨fun hr => hend _ a w (hall listed hsz hr) hI, fun i hi => ?_⟩
    obtain ⟨h1, o, ho, hdep⟩ := mem_ready.1 hi
    have hlt : i < ops.size := by
      rcases Nat.lt_or_ge i ops.size with h | h
      · exact h
      · simp [Array.getElem?_eq_none h] at ho
    have hst := Steps.at ops.toList 0 hs i o (by simpa using ho)
    rw [Nat.zero_add] at hst
    have hLi : (fun k => listed.getD k false) i = false := by
      simp [hsz, hlt] at h1 ⊢; exact h1
    have hdeps : (o.after.toList.all fun e => !Region.binds md e || (fun k => listed.getD k false) e.on) = true := by
      rw [List.all_eq_true]
      intro e he
      cases hb : Region.binds md e with
      | false => rfl
      | true => simpa using hdep e (by simpa using he) hb
    have hf : (fun k => (listed.setIfInBounds i true).getD k false) = upd (fun k => listed.getD k false) i := by
      funext k
      by_cases hki : k = i
      · subst hki; simp [upd, hsz, hlt]
      · simp [upd, hki, Array.getElem?_setIfInBounds_ne (Ne.symm hki)]
    refine wpOp_step ho fun K' hK => hst _ a w hI hLi hdeps hcl K' fun a' w' hI' => hK a' w' ?_
    refine ih _ a' w' (by simp [hsz]) (by have := left_set hsz hlt h1; omega) ?_ ?_
    · rw [hf]; exact hI'
    · rw [hf]
      intro k o' ho' hk
      rw [List.all_eq_true]
      intro e he
      by_cases hki : k = i
      · subst hki
        have : o' = o := by rw [ho] at ho'; exact (Option.some.inj ho').symm
        subst this
        have := List.all_eq_true.1 hdeps e he
        cases hb : Region.binds md e with
        | false => rfl
        | true =>
          rw [hb] at this
          simp only [Bool.not_true, Bool.false_or] at this ⊢
          simp only [upd]
          split
          · rfl
          · exact this
      · have hk' : listed.getD k false = true := by simpa [upd, hki] using hk
        have := List.all_eq_true.1 (hcl k o' ho' hk') e he
        cases hb : Region.binds md e with
        | false => rfl
        | true =>
          rw [hb] at this
          simp only [Bool.not_true, Bool.false_or] at this ⊢
          simp only [upd]
          split
          · rfl
          · exact this

def backB (md : Region.Mode) (ops : Array Oper) : Bool := (List.range ops.size).all fun i => match ops[i]? with | some o => o.after.toList.all fun e => !Region.binds md e || decide (e.on < i) | none => true
theorem back_of {md : Region.Mode} {ops : Array Oper} (h : backB md ops = true) : ∀ i o, ops[i]? = some o → ∀ e ∈ o.after, Region.binds md e = true → e.on < i := by
  intro i o ho e he hb
  have hlt : i < ops.size := by
    rcases Nat.lt_or_ge i ops.size with h | h
    · exact h
    · simp [Array.getElem?_eq_none h] at ho
  have := List.all_eq_true.1 h i (List.mem_range.2 hlt)
  rw [ho] at this
  have := List.all_eq_true.1 this e (by simpa using he)
  simpa [hb] using this

/-- A region that draws its order: the invariant at the start, kept by each operation, enough at the end. -/
theorem wp_region_inv {id : Nat} {a : Act} {w : World} (Inv : (Nat → Bool) → Act → World → Prop) (hm : P.follows .mixedOrders = true) (hback : backB .any ops = true)
    (h0 : Inv (fun _ => false) a w.drew) (hs : Steps P .any ops Q Inv 0 ops.toList) (hend : ∀ L a w, (∀ k, k < ops.size → L k = true) → Inv L a w → Q .normal a w) : (Code.region id ops true).wp P Q a w := by
  refine wp_region_any hm (wpAny_inv Inv (back_of hback) hs hend ops.size _ a _ (by simp) ?_ ?_ ?_)
  · exact Nat.le_trans (List.length_filter_le _ _) (by simp)
  · have : (fun k => (Array.replicate ops.size false).getD k false) = fun _ => false := by
      funext k; simp [Array.getElem?_replicate]; split <;> rfl
    rw [this]; exact h0
  · intro k o _ hk
    simp [Array.getElem?_replicate] at hk
    split at hk <;> simp at hk

end
def noDefer (ops : Array Oper) : Bool := ops.toList.all fun o => match o.op with | .defer _ => false | _ => true
section
variable {P : Program} {ops : Array Oper} {Q : Exit → Act → World → Prop} {md : Region.Mode} {F : Fence} {n : Nat}
theorem opsIn_inv (hF : Free F) (hd : noDefer ops = true) (Inv : (Nat → Bool) → Act → World → Prop) (hback : ∀ i o, ops[i]? = some o → ∀ e ∈ o.after, Region.binds md e = true → e.on < i)
    (hs : Steps P md ops Q Inv 0 ops.toList) (hend : ∀ L a w, (∀ k, k < ops.size → L k = true) → Inv L a w → Q .normal a w) :
    ∀ (fuel : Nat) (listed : Array Bool) (a : Act) (w : World), listed.size = ops.size → left ops.size listed ≤ fuel → Inv (fun k => listed.getD k false) a w → Closed md ops (fun k => listed.getD k false) → wpAnyIn F n P md ops Q fuel listed a w := by
  have hall : ∀ listed : Array Bool, listed.size = ops.size → Region.ready md ops listed = [] → ∀ k, k < ops.size → listed.getD k false = true := by
    intro listed hsz hr k
    induction k using Nat.strongRecOn with
    | ind k ih =>
      intro hk
      cases hv : listed.getD k false with
      | true => rfl
      | false =>
        exfalso
        have hm : k ∈ Region.ready md ops listed := by
          refine mem_ready.2 ⟨?_, ops[k], by simp [hk], fun e he hb => ?_⟩
          · simp [hsz, hk] at hv ⊢; exact hv
          · have := hback k ops[k] (by simp [hk]) e he hb
            exact ih e.on this (by omega)
        rw [hr] at hm; cases hm
  intro fuel
  induction fuel with
  | zero =>
    intro listed a w hsz hl hI hcl
    have hr : Region.ready md ops listed = [] := by
      apply List.eq_nil_iff_forall_not_mem.2
      intro i hi
      obtain ⟨h1, o, ho, _⟩ := mem_ready.1 hi
      have hlt : i < ops.size := by
        rcases Nat.lt_or_ge i ops.size with h | h
        · exact h
        · simp [Array.getElem?_eq_none h] at ho
      have := left_set hsz hlt h1
      omega
    exact ⟨hr, hend _ a w (hall listed hsz hr) hI⟩
  | succ fuel ih =>
    intro listed a w hsz hl hI hcl
    refine ⟨fun hr => hend _ a w (hall listed hsz hr) hI, fun i hi => ?_⟩
    obtain ⟨h1, o, ho, hdep⟩ := mem_ready.1 hi
    have hlt : i < ops.size := by
      rcases Nat.lt_or_ge i ops.size with h | h
      · exact h
      · simp [Array.getElem?_eq_none h] at ho
    have hst := Steps.at ops.toList 0 hs i o (by simpa using ho)
    rw [Nat.zero_add] at hst
    have hLi : (fun k => listed.getD k false) i = false := by
      simp [hsz, hlt] at h1 ⊢; exact h1
    have hdeps : (o.after.toList.all fun e => !Region.binds md e || (fun k => listed.getD k false) e.on) = true := by
      rw [List.all_eq_true]
      intro e he
      cases hb : Region.binds md e with
      | false => rfl
      | true => simpa using hdep e (by simpa using he) hb
    have hf : (fun k => (listed.setIfInBounds i true).getD k false) = upd (fun k => listed.getD k false) i := by
      funext k
      by_cases hki : k = i
      · subst hki; simp [upd, hsz, hlt]
      · simp [upd, hki, Array.getElem?_setIfInBounds_ne (Ne.symm hki)]
    have hdo : ∀ c, o.op ≠ .defer c := by
      intro c hc
      have := List.all_eq_true.1 hd o (by have := Array.mem_of_getElem? ho; simpa using this)
      rw [hc] at this; cases this
    have fin := hst _ a w hI hLi hdeps hcl (wpAnyIn F n P md ops Q fuel (listed.setIfInBounds i true)) fun a' w' hI' => by
      refine ih _ a' w' (by simp [hsz]) (by have := left_set hsz hlt h1; omega) ?_ ?_
      · rw [hf]; exact hI'
      · rw [hf]
        intro k o' ho' hk
        rw [List.all_eq_true]
        intro e he
        by_cases hki : k = i
        · subst hki
          have : o' = o := by rw [ho] at ho'; exact (Option.some.inj ho').symm
          subst this
          have := List.all_eq_true.1 hdeps e he
          cases hb : Region.binds md e with
          | false => rfl
          | true =>
            rw [hb] at this
            simp only [Bool.not_true, Bool.false_or] at this ⊢
            simp only [upd]
            split
            · rfl
            · exact this
        · have hk' : listed.getD k false = true := by simpa [upd, hki] using hk
          have := List.all_eq_true.1 (hcl k o' ho' hk') e he
          cases hb : Region.binds md e with
          | false => rfl
          | true =>
            rw [hb] at this
            simp only [Bool.not_true, Bool.false_or] at this ⊢
            simp only [upd]
            split
            · rfl
            · exact this
    unfold wpOpIn
    simp only [ho]
    split
    · rename_i hw
      rw [if_pos hw] at fin
      exact opIn_of_wp hF hdo fin
    · rename_i hw
      rw [if_neg hw] at fin
      exact ⟨fun f _ => hF.fn f, fin⟩
theorem regionIn_by {id : Nat} {a : Act} {w : World} (hF : Free F) (Inv : Act → (Nat → Bool) → Act → World → Prop) (hm : P.follows .mixedOrders = true) (hd : noDefer ops = true) (hback : backB .any ops = true)
    (h0 : Inv a (fun _ => false) a w.drew) (hs : Steps P .any ops Q (Inv a) 0 ops.toList) (hend : ∀ L a' w', (∀ k, k < ops.size → L k = true) → Inv a L a' w' → Q .normal a' w') : (Code.region id ops true).wpIn F n P Q a w := by
  refine wpIn_region_any hm (opsIn_inv hF hd (Inv a) (back_of hback) hs hend ops.size _ a _ (by simp) ?_ ?_ ?_)
  · exact Nat.le_trans (List.length_filter_le _ _) (by simp)
  · have : (fun k => (Array.replicate ops.size false).getD k false) = fun _ => false := by
      funext k; simp [Array.getElem?_replicate]; split <;> rfl
    rw [this]; exact h0
  · intro k o _ hk
    simp [Array.getElem?_replicate] at hk
    split at hk <;> simp at hk
end
end Go.Sea
