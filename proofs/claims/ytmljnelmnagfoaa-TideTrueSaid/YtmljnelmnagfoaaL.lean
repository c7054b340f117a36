/- A region that draws its order, by an invariant: one step for each operation, whatever the order. -/
import Derived.WalkKit
import Derived.WalkSpells
import Derived.Lib.Hide
import Derived.Deep.RegionHeld3
import Derived.Handy
set_option linter.unusedVariables false
set_option linter.unusedSimpArgs false
namespace Go.Proofs.Ytmljnelmnagfoaa
open Go.RowKit

def upd (L : Nat → Bool) (i : Nat) : Nat → Bool := fun k => if k = i then true else L k
theorem upd_same (L : Nat → Bool) (i : Nat) : upd L i i = true := by simp [upd]
theorem upd_ne (L : Nat → Bool) {i k : Nat} (h : k ≠ i) : upd L i k = L k := by simp [upd, h]
theorem upd_lit (L : Nat → Bool) (i k : Nat) : upd L i k = if k = i then true else L k := rfl

section
variable {P : Program} {ops : Array Oper} {Q : Exit → Act → World → Prop} {md : Region.Mode}

def Closed (md : Region.Mode) (ops : Array Oper) (L : Nat → Bool) : Prop := ∀ k o, ops[k]? = some o → L k = true → (o.after.toList.all fun e => !Region.binds md e || L e.on) = true
def Steps (P : Program) (md : Region.Mode) (ops : Array Oper) (Q : Exit → Act → World → Prop) (Inv : (Nat → Bool) → Act → World → Prop) : Nat → List Oper → Prop
  | _, [] => True
  | i, o :: os => (∀ L a w, Inv L a w → L i = false → (o.after.toList.all fun e => !Region.binds md e || L e.on) = true → Closed md ops L →
      ∀ K : Act → World → Prop, (∀ a' w', Inv (upd L i) a' w' → K a' w') → if Region.wanted o (yielded ops a.tmps) = true then Oper.wp P o a w K Q else K (a.put o.dst undef) w) ∧ Steps P md ops Q Inv (i + 1) os

theorem Steps.at {Inv : (Nat → Bool) → Act → World → Prop} : ∀ (os : List Oper) (i : Nat), Steps P md ops Q Inv i os → ∀ k o, os[k]? = some o →
    ∀ L a w, Inv L a w → L (i + k) = false → (o.after.toList.all fun e => !Region.binds md e || L e.on) = true → Closed md ops L →
      ∀ K : Act → World → Prop, (∀ a' w', Inv (upd L (i + k)) a' w' → K a' w') → if Region.wanted o (yielded ops a.tmps) = true then Oper.wp P o a w K Q else K (a.put o.dst undef) w
  | [], _, _, k, o, h => by simp at h
  | x :: xs, i, hs, 0, o, h => by
    simp at h; subst h
    exact hs.1
  | x :: xs, i, hs, k + 1, o, h => by
    have := Steps.at xs (i + 1) hs.2 k o (by simpa using h)
    rw [show i + 1 + k = i + (k + 1) by omega] at this
    exact this

/-- How many operations have not come up. -/
def left (n : Nat) (listed : Array Bool) : Nat := ((List.range n).filter fun k => !listed.getD k false).length

theorem left_set {n i : Nat} {listed : Array Bool} (hs : listed.size = n) (hi : i < n) (h : listed.getD i true = false) : left n (listed.setIfInBounds i true) < left n listed := by
  unfold left
  have hsub : ((List.range n).filter fun k => !(listed.setIfInBounds i true).getD k false) = (((List.range n).filter fun k => !listed.getD k false).filter fun k => k != i) := by
    rw [List.filter_filter]
    apply List.filter_congr
    intro k hk
    by_cases hki : k = i
    · subst hki; simp [hs, hi]
    · simp [Array.getElem?_setIfInBounds_ne (Ne.symm hki), hki]
  rw [hsub]
  have hmem : i ∈ (List.range n).filter fun k => !listed.getD k false := by
    rw [List.mem_filter]
    refine ⟨List.mem_range.2 hi, ?_⟩
    have : listed.getD i false = false := by
      simp [hs, hi] at h ⊢; exact h
    simp [this]
  exact List.length_filter_lt_length_iff_exists.2 ⟨i, hmem, by simp⟩

theorem wpAny_inv (Inv : (Nat → Bool) → Act → World → Prop) (hback : ∀ i o, ops[i]? = some o → ∀ e ∈ o.after, Region.binds md e = true → e.on < i)
    (hs : Steps P md ops Q Inv 0 ops.toList) (hend : ∀ L a w, (∀ k, k < ops.size → L k = true) → Inv L a w → Q .normal a w) :
    ∀ (fuel : Nat) (listed : Array Bool) (a : Act) (w : World), listed.size = ops.size → left ops.size listed ≤ fuel → Inv (fun k => listed.getD k false) a w → Closed md ops (fun k => listed.getD k false) → wpAny P md ops Q fuel listed a w := by
  have hall : ∀ listed : Array Bool, listed.size = ops.size → Region.ready md ops listed = [] → ∀ k, k < ops.size → listed.getD k false = true := by
    intro listed hsz hr k
    induction k using Nat.strongRecOn with
    | ind k ih =>
      intro hk
      cases hv : listed.getD k false with
      | true => rfl
      | false =>
        exfalso
        have hm : k ∈ Region.ready md ops listed := by
          refine mem_ready.2 ⟨?_, ops[k], by simp [hk], fun e he hb => ?_⟩
          · simp [hsz, hk] at hv ⊢; exact hv
          · have := hback k ops[k] (by simp [hk]) e he hb
            exact ih e.on this (by omega)
        rw [hr] at hm; cases hm
  intro fuel
  induction fuel with
  | zero =>
    intro listed a w hsz hl hI hcl
    have hr : Region.ready md ops listed = [] := by
      apply List.eq_nil_iff_forall_not_mem.2
      intro i hi
      obtain ⟨h1, o, ho, _⟩ := mem_ready.1 hi
      have hlt : i < ops.size := by
        rcases Nat.lt_or_ge i ops.size with h | h
        · exact h
        · simp [Array.getElem?_eq_none h] at ho
      have := left_set hsz hlt h1
      omega
    exact ⟨hr, hend _ a w (hall listed hsz hr) hI⟩
  | succ fuel ih =>
    intro listed a w hsz hl hI hcl
    refine ⟨fun hr => hend _ a w (hall listed hsz hr) hI, fun i hi => ?_⟩
    obtain ⟨h1, o, ho, hdep⟩ := mem_ready.1 hi
    have hlt : i < ops.size := by
      rcases Nat.lt_or_ge i ops.size with h | h
      · exact h
      · simp [Array.getElem?_eq_none h] at ho
    have hst := Steps.at ops.toList 0 hs i o (by simpa using ho)
    rw [Nat.zero_add] at hst
    have hLi : (fun k => listed.getD k false) i = false := by
      simp [hsz, hlt] at h1 ⊢; exact h1
    have hdeps : (o.after.toList.all fun e => !Region.binds md e || (fun k => listed.getD k false) e.on) = true := by
      rw [List.all_eq_true]
      intro e he
      cases hb : Region.binds md e with
      | false => rfl
      | true => simpa using hdep e (by simpa using he) hb
    have hf : (fun k => (listed.setIfInBounds i true).getD k false) = upd (fun k => listed.getD k false) i := by
      funext k
      by_cases hki : k = i
      · subst hki; simp [upd, hsz, hlt]
      · simp [upd, hki, Array.getElem?_setIfInBounds_ne (Ne.symm hki)]
    refine wpOp_step ho fun K' hK => hst _ a w hI hLi hdeps hcl K' fun a' w' hI' => hK a' w' ?_
    refine ih _ a' w' (by simp [hsz]) (by have := left_set hsz hlt h1; omega) ?_ ?_
    · rw [hf]; exact hI'
    · rw [hf]
      intro k o' ho' hk
      rw [List.all_eq_true]
      intro e he
      by_cases hki : k = i
      · subst hki
        have : o' = o := by rw [ho] at ho'; exact (Option.some.inj ho').symm
        subst this
        have := List.all_eq_true.1 hdeps e he
        cases hb : Region.binds md e with
        | false => rfl
        | true =>
          rw [hb] at this
          simp only [Bool.not_true, Bool.false_or] at this ⊢
          simp only [upd]
          split
          · rfl
          · exact this
      · have hk' : listed.getD k false = true := by simpa [upd, hki] using hk
        have := List.all_eq_true.1 (hcl k o' ho' hk') e he
        cases hb : Region.binds md e with
        | false => rfl
        | true =>
          rw [hb] at this
          simp only [Bool.not_true, Bool.false_or] at this ⊢
          simp only [upd]
          split
          · rfl
          · exact this

def backB (md : Region.Mode) (ops : Array Oper) : Bool := (List.range ops.size).all fun i => match ops[i]? with | some o => o.after.toList.all fun e => !Region.binds md e || decide (e.on < i) | none => true
theorem back_of {md : Region.Mode} {ops : Array Oper} (h : backB md ops = true) : ∀ i o, ops[i]? = some o → ∀ e ∈ o.after, Region.binds md e = true → e.on < i := by
  intro i o ho e he hb
  have hlt : i < ops.size := by
    rcases Nat.lt_or_ge i ops.size with h | h
    · exact h
    · simp [Array.getElem?_eq_none h] at ho
  have := List.all_eq_true.1 h i (List.mem_range.2 hlt)
  rw [ho] at this
  have := List.all_eq_true.1 this e (by simpa using he)
  simpa [hb] using this

/-- A region that draws its order: the invariant at the start, kept by each operation, enough at the end. -/
theorem wp_region_inv {id : Nat} {a : Act} {w : World} (Inv : (Nat → Bool) → Act → World → Prop) (hm : P.follows .mixedOrders = true) (hback : backB .any ops = true)
    (h0 : Inv (fun _ => false) a w.drew) (hs : Steps P .any ops Q Inv 0 ops.toList) (hend : ∀ L a w, (∀ k, k < ops.size → L k = true) → Inv L a w → Q .normal a w) : (Code.region id ops true).wp P Q a w := by
  refine wp_region_any hm (wpAny_inv Inv (back_of hback) hs hend ops.size _ a _ (by simp) ?_ ?_ ?_)
  · exact Nat.le_trans (List.length_filter_le _ _) (by simp)
  · have : (fun k => (Array.replicate ops.size false).getD k false) = fun _ => false := by
      funext k; simp [Array.getElem?_replicate]; split <;> rfl
    rw [this]; exact h0
  · intro k o _ hk
    simp [Array.getElem?_replicate] at hk
    split at hk <;> simp at hk

/-- The frame a0 with the slots of the operations that have come up. -/
def pcs (a0 : Act) (us : List (Nat × Bool × Value)) : Act := us.foldl (fun a u => a.put (some u.1) (cond u.2.1 u.2.2 (a0.tmps.getD u.1 undef))) a0
theorem act_put_self (a : Act) (d : Nat) : a.put (some d) (a.tmps.getD d undef) = a := by
  obtain ⟨t, df⟩ := a
  simp only [Act.put]
  congr 1
  apply Array.ext
  · simp
  · intro i h1 h2
    by_cases h : d = i
    · subst h; simp [h2]
    · rw [Array.getElem_setIfInBounds_ne (h := h)]
theorem pcs_start (a0 : Act) : ∀ us : List (Nat × Bool × Value), (∀ u ∈ us, u.2.1 = false) → pcs a0 us = a0 := by
  intro us h
  unfold pcs
  induction us with
  | nil => rfl
  | cons u us ih =>
    rw [List.foldl_cons, h u (by simp), cond_false, act_put_self]
    exact ih fun x hx => h x (by simp [hx])
theorem wp_region_by {id : Nat} {a : Act} {w : World} (Inv : Act → (Nat → Bool) → Act → World → Prop) (hm : P.follows .mixedOrders = true) (hback : backB .any ops = true)
    (h0 : Inv a (fun _ => false) a w.drew) (hs : Steps P .any ops Q (Inv a) 0 ops.toList) (hend : ∀ L a' w', (∀ k, k < ops.size → L k = true) → Inv a L a' w' → Q .normal a' w') : (Code.region id ops true).wp P Q a w :=
  wp_region_inv (Inv a) hm hback h0 hs hend
/-- The cell at offset o of block b holds v and may be written. -/
abbrev Cel (w : World) (b o : Nat) (v : Value) : Prop := w.cell? ⟨b, o, none⟩ = some v ∧ w.frozen? ⟨b, o, none⟩ = false
theorem Cel.lt {w : World} {b o : Nat} {v : Value} (h : Cel w b o v) : b < w.heap.size := World.block_lt_of_cell? w _ h.1
theorem Cel.keep {W w1 : World} {b o : Nat} {v : Value} (hb : Below W.heap.size W w1) (h : Cel W b o v) : Cel w1 b o v :=
  ⟨(hb.cell (p := ⟨b, o, none⟩) h.lt).trans h.1, (hb.frozen (p := ⟨b, o, none⟩) h.lt).trans h.2⟩
theorem Cel.alloc {w : World} {b o : Nat} {v : Value} (h : Cel w b o v) (x : Obj) : Cel (w.alloc x) b o v := h.keep ((Below.refl _ _).alloc (Nat.le_refl _) x)
theorem Cel.drew {w : World} {b o : Nat} {v : Value} (h : Cel w b o v) : Cel w.drew b o v := h
theorem Cel.new {w : World} {b o : Nat} {v : Value} {c : Array Value} {t : TypeId} (hb : b = w.heap.size) (hv : c[o]? = some v) : Cel (w.alloc (.cells c t)) b o v := by
  subst hb
  exact ⟨(World.cell?_alloc_new w c t o).trans hv, World.frozen?_alloc_new w c t o⟩
/-- There is a cell that may be written. -/
def Has (w : World) (b o : Nat) : Prop := ∃ v, Cel w b o v
theorem Cel.setS {w : World} {b o : Nat} (h : Has w b o) (u : Value) : Cel (w.setCell ⟨b, o, none⟩ u) b o u := h.elim fun _ h => ⟨World.cell?_setCell_same w _ u h.1, by rw [World.frozen?_setCell]; exact h.2⟩
theorem Cel.setO {w : World} {b o b' o' : Nat} {v : Value} (h : Cel w b o v) (hne : b ≠ b' ∨ o ≠ o') (u : Value) : Cel (w.setCell ⟨b', o', none⟩ u) b o v :=
  ⟨by rw [World.cell?_setCell_other _ _ _ _ (fun e => by injection e; omega)]; exact h.1, by rw [World.frozen?_setCell]; exact h.2⟩
theorem Has.of {w : World} {b o : Nat} {v : Value} (h : Cel w b o v) : Has w b o := ⟨v, h⟩
theorem Has.set {w : World} {b o : Nat} (h : Has w b o) (a : Addr) (u : Value) : Has (w.setCell a u) b o := by
  obtain ⟨v, h⟩ := h
  by_cases ha : a = ⟨b, o, none⟩
  · subst ha; exact ⟨u, Cel.setS ⟨v, h⟩ u⟩
  · exact ⟨v, by rw [World.cell?_setCell_other _ _ _ _ ha]; exact h.1, by rw [World.frozen?_setCell]; exact h.2⟩
theorem below_keep {n : Nat} {w W w1 : World} (h : Below n w W) (hn : n ≤ W.heap.size) (hb : Below W.heap.size W w1) : Below n w w1 := h.trans (hb.mono hn)
def Cels (w : World) : List (Nat × Nat × Value) → Prop
  | [] => True
  | x :: l => Cel w x.1 x.2.1 x.2.2 ∧ Cels w l
theorem Cels.nil (w : World) : Cels w [] := trivial
theorem Cels.cons {w : World} {b o : Nat} {v : Value} {l : List (Nat × Nat × Value)} (h : Cel w b o v) (hl : Cels w l) : Cels w ((b, o, v) :: l) := ⟨h, hl⟩
theorem Cels.keep {W w1 : World} (hb : Below W.heap.size W w1) : ∀ {l : List (Nat × Nat × Value)}, Cels W l → Cels w1 l
  | [], _ => trivial
  | _ :: _, h => ⟨Cel.keep hb h.1, Cels.keep hb h.2⟩
theorem Cels.alloc {w : World} {l : List (Nat × Nat × Value)} (h : Cels w l) (x : Obj) : Cels (w.alloc x) l := h.keep ((Below.refl _ _).alloc (Nat.le_refl _) x)
theorem Cels.drew {w : World} : ∀ {l : List (Nat × Nat × Value)}, Cels w l → Cels w.drew l
  | [], _ => trivial
  | _ :: _, h => ⟨Cel.drew h.1, Cels.drew h.2⟩
theorem Cels.setO {w : World} {b o : Nat} (u : Value) : ∀ {l : List (Nat × Nat × Value)}, Cels w l → (∀ x ∈ l, x.1 ≠ b) → Cels (w.setCell ⟨b, o, none⟩ u) l
  | [], _, _ => trivial
  | x :: _, h, hn => ⟨Cel.setO h.1 (Or.inl (hn x (by simp))) u, Cels.setO u h.2 fun y hy => hn y (by simp [hy])⟩
/-- What the call has made of memory: below it nothing has changed, the blocks below m lie, and the cells hold what is listed. -/
structure Own (w0 : World) (m : Nat) (W : World) (l : List (Nat × Nat × Value)) : Prop where
  below : Below w0.heap.size w0 W
  size : m ≤ W.heap.size
  cels : Cels W l
  le : w0.heap.size ≤ m
theorem Own.keep {w0 W w1 : World} {m : Nat} {l : List (Nat × Nat × Value)} (h : Own w0 m W l) (hb : Below W.heap.size W w1) : Own w0 m w1 l :=
  ⟨below_keep h.below (Nat.le_trans h.le h.size) hb, Nat.le_trans h.size hb.size, h.cels.keep hb, h.le⟩
theorem Own.drew {w0 W : World} {m : Nat} {l : List (Nat × Nat × Value)} (h : Own w0 m W l) : Own w0 m W.drew l := ⟨h.below.drew, h.size, h.cels.drew, h.le⟩
theorem Own.alloc {w0 W : World} {m : Nat} {l : List (Nat × Nat × Value)} (h : Own w0 m W l) (x : Obj) : Own w0 m (W.alloc x) l := h.keep ((Below.refl _ _).alloc (Nat.le_refl _) x)
theorem Own.setO {w0 W : World} {m b o : Nat} {l : List (Nat × Nat × Value)} (h : Own w0 m W l) (u : Value) (hb : m ≤ b) (hl : ∀ x ∈ l, x.1 < m) : Own w0 m (W.setCell ⟨b, o, none⟩ u) l :=
  ⟨h.below.setCell (Nat.le_trans h.le hb) u, by simpa using h.size, h.cels.setO u fun x hx => by have := hl x hx; omega, h.le⟩
theorem isSome_alloc (w : World) (c : Array Value) (t : TypeId) (b o : Nat) : ((w.alloc (.cells c t)).cell? ⟨b, o, none⟩).isSome = ((w.cell? ⟨b, o, none⟩).isSome || (decide (b = w.heap.size) && decide (o < c.size))) := by
  by_cases h : b = w.heap.size
  · subst h
    rw [World.cell?_alloc_new]
    have : w.cell? ⟨w.heap.size, o, none⟩ = none := by simp [World.cell?]
    rw [this]
    by_cases ho : o < c.size
    · simp [ho]
    · simp [ho]
  · rw [World.cell?_alloc_old _ _ _ (by simpa using h)]
    simp [h]
theorem isSome_setCell (w : World) (a : Addr) (v : Value) (b o : Nat) : ((w.setCell a v).cell? ⟨b, o, none⟩).isSome = (w.cell? ⟨b, o, none⟩).isSome := by
  by_cases ha : a = ⟨b, o, none⟩
  · subst ha
    cases h : w.cell? ⟨b, o, none⟩ with
    | some u => rw [World.cell?_setCell_same w _ v h]; rfl
    | none =>
      cases h2 : (w.setCell ⟨b, o, none⟩ v).cell? ⟨b, o, none⟩ with
      | none => rfl
      | some u =>
        exfalso
        simp only [World.setCell, World.cell?, Array.getElem?_modify] at h h2
        cases hb : w.heap[b]? with
        | none => simp [hb] at h2
        | some x =>
          cases x with
          | cells c e f =>
            simp [hb] at h h2
            rw [Array.getElem?_eq_none (by simpa using h)] at h2; cases h2
          | map _ _ => simp [hb] at h2
          | _ => simp [hb] at h2
  · rw [World.cell?_setCell_other _ _ _ _ ha]
theorem gomax (a b : Int) : (if a < b then b else a) = max a b := by omega
theorem gomin (a b : Int) : (if b < a then b else a) = min a b := by omega
end
end Go.Proofs.Ytmljnelmnagfoaa
