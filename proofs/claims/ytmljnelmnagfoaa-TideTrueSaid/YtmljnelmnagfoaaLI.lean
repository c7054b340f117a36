/- A region that draws its order, in a round of a loop over a function or in its iterator: by the same invariant. -/
import Derived.Test.YtmljnelmnagfoaaL
import Derived.OrdersIn
import Derived.RangeFuncNested
import Derived.RangeFuncBox
import Derived.OwnWalkIn
set_option linter.unusedVariables false
set_option linter.unusedSimpArgs false
namespace Go.Proofs.Ytmljnelmnagfoaa
open Go.RowKit

/-- A fence that lets every function by. -/
def Free (F : Fence) : Prop := F = Fence.wide ∨ ∃ l, F = Fence.wide.inRound l
theorem Free.fn {F : Fence} (h : Free F) (f : FuncId) : F.fn f := by
  rcases h with rfl | ⟨l, rfl⟩ <;> trivial
theorem Free.depth {F : Fence} (h : Free F) : F.depth = none := by
  rcases h with rfl | ⟨l, rfl⟩ <;> rfl
theorem Free.calls {F : Fence} (h : Free F) {n : Nat} {P : Program} {f : FuncId} {args : Array Value} {w : World} {R : Ending → World → Prop} (hc : Calls P f args w R) : CallsIn F n P f args w R := by
  rcases h with rfl | ⟨l, rfl⟩
  · exact callsIn_wide.2 hc
  · exact CallsIn.inRound l (callsIn_wide.2 hc)
theorem Free.wide : Free Fence.wide := Or.inl rfl
theorem Free.round (l : Nat) : Free (Fence.wide.inRound l) := Or.inr ⟨l, rfl⟩

def noDefer (ops : Array Oper) : Bool := ops.toList.all fun o => match o.op with | .defer _ => false | _ => true
section
variable {P : Program} {ops : Array Oper} {Q : Exit → Act → World → Prop} {md : Region.Mode} {F : Fence} {n : Nat}
theorem Free.rows {F : Fence} (h : Free F) {row : String} {args : Array Value} {w : World} {R : Value → World → Prop} (hc : Rows P row args w R) : RowsIn F n P row args w R := by
  have hw : RowsIn Fence.wide n P row args w R := fun c cs _ => let ⟨v, w', r, s⟩ := hc c cs; ⟨v, w', r, stepsIn_wide.2 s⟩
  rcases h with rfl | ⟨l, rfl⟩
  · exact hw
  · exact hw
theorem opIn_of_wp (hF : Free F) {o : Oper} (hd : ∀ c, o.op ≠ .defer c) {a : Act} {w : World} {K : Act → World → Prop} (h : o.wp P a w K Q) : o.wpIn F n P a w K Q := by
  refine ⟨fun f _ => hF.fn f, ?_⟩
  rw [Oper.semAt_eq _ _ _ hd]
  unfold Oper.wp at h
  generalize (execOp a.eval o).run P w = r at *
  cases r with
  | ok x w' =>
    cases x <;> simp only [Oper.upon, Oper.uponIn] at h ⊢ <;> first | exact h | exact ⟨fun hx => (by rw [hF.depth] at hx; cases hx), CallsIn.mono (hF.calls h) (fun e w'' he => by cases e <;> exact he)⟩ | exact ⟨fun hx => (by rw [hF.depth] at hx; cases hx), Free.rows (n := n - 1) hF h⟩
  | halt x w' => cases x <;> simp only [Oper.upon, Oper.uponIn] at h ⊢ <;> exact h
theorem opsIn_inv (hF : Free F) (hd : noDefer ops = true) (Inv : (Nat → Bool) → Act → World → Prop) (hback : ∀ i o, ops[i]? = some o → ∀ e ∈ o.after, Region.binds md e = true → e.on < i)
    (hs : Steps P md ops Q Inv 0 ops.toList) (hend : ∀ L a w, (∀ k, k < ops.size → L k = true) → Inv L a w → Q .normal a w) :
    ∀ (fuel : Nat) (listed : Array Bool) (a : Act) (w : World), listed.size = ops.size → left ops.size listed ≤ fuel → Inv (fun k => listed.getD k false) a w → Closed md ops (fun k => listed.getD k false) → wpAnyIn F n P md ops Q fuel listed a w := by
  have hall : ∀ listed : Array Bool, listed.size = ops.size → Region.ready md ops listed = [] → ∀ k, k < ops.size → listed.getD k false = true := by
    intro listed hsz hr k
    induction k using Nat.strongRecOn with
    | ind k ih =>
      intro hk
      cases hv : listed.getD k false with
      | true => rfl
      | false =>
        exfalso
        have hm : k ∈ Region.ready md ops listed := by
          refine mem_ready.2 ⟨?_, ops[k], by simp [hk], fun e he hb => ?_⟩
          · simp [hsz, hk] at hv ⊢; exact hv
          · have := hback k ops[k] (by simp [hk]) e he hb
            exact ih e.on this (by omega)
        rw [hr] at hm; cases hm
  intro fuel
  induction fuel with
  | zero =>
    intro listed a w hsz hl hI hcl
    have hr : Region.ready md ops listed = [] := by
      apply List.eq_nil_iff_forall_not_mem.2
      intro i hi
      obtain ⟨h1, o, ho, _⟩ := mem_ready.1 hi
      have hlt : i < ops.size := by
        rcases Nat.lt_or_ge i ops.size with h | h
        · exact h
        · simp [Array.getElem?_eq_none h] at ho
      have := left_set hsz hlt h1
      omega
    exact ⟨hr, hend _ a w (hall listed hsz hr) hI⟩
  | succ fuel ih =>
    intro listed a w hsz hl hI hcl
    refine ⟨fun hr => hend _ a w (hall listed hsz hr) hI, fun i hi => ?_⟩
    obtain ⟨h1, o, ho, hdep⟩ := mem_ready.1 hi
    have hlt : i < ops.size := by
      rcases Nat.lt_or_ge i ops.size with h | h
      · exact h
      · simp [Array.getElem?_eq_none h] at ho
    have hst := Steps.at ops.toList 0 hs i o (by simpa using ho)
    rw [Nat.zero_add] at hst
    have hLi : (fun k => listed.getD k false) i = false := by
      simp [hsz, hlt] at h1 ⊢; exact h1
    have hdeps : (o.after.toList.all fun e => !Region.binds md e || (fun k => listed.getD k false) e.on) = true := by
      rw [List.all_eq_true]
      intro e he
      cases hb : Region.binds md e with
      | false => rfl
      | true => simpa using hdep e (by simpa using he) hb
    have hf : (fun k => (listed.setIfInBounds i true).getD k false) = upd (fun k => listed.getD k false) i := by
      funext k
      by_cases hki : k = i
      · subst hki; simp [upd, hsz, hlt]
      · simp [upd, hki, Array.getElem?_setIfInBounds_ne (Ne.symm hki)]
    have hdo : ∀ c, o.op ≠ .defer c := by
      intro c hc
      have := List.all_eq_true.1 hd o (by have := Array.mem_of_getElem? ho; simpa using this)
      rw [hc] at this; cases this
    have fin := hst _ a w hI hLi hdeps hcl (wpAnyIn F n P md ops Q fuel (listed.setIfInBounds i true)) fun a' w' hI' => by
      refine ih _ a' w' (by simp [hsz]) (by have := left_set hsz hlt h1; omega) ?_ ?_
      · rw [hf]; exact hI'
      · rw [hf]
        intro k o' ho' hk
        rw [List.all_eq_true]
        intro e he
        by_cases hki : k = i
        · subst hki
          have : o' = o := by rw [ho] at ho'; exact (Option.some.inj ho').symm
          subst this
          have := List.all_eq_true.1 hdeps e he
          cases hb : Region.binds md e with
          | false => rfl
          | true =>
            rw [hb] at this
            simp only [Bool.not_true, Bool.false_or] at this ⊢
            simp only [upd]
            split
            · rfl
            · exact this
        · have hk' : listed.getD k false = true := by simpa [upd, hki] using hk
          have := List.all_eq_true.1 (hcl k o' ho' hk') e he
          cases hb : Region.binds md e with
          | false => rfl
          | true =>
            rw [hb] at this
            simp only [Bool.not_true, Bool.false_or] at this ⊢
            simp only [upd]
            split
            · rfl
            · exact this
    unfold wpOpIn
    simp only [ho]
    split
    · rename_i hw
      rw [if_pos hw] at fin
      exact opIn_of_wp hF hdo fin
    · rename_i hw
      rw [if_neg hw] at fin
      exact ⟨fun f _ => hF.fn f, fin⟩
theorem regionIn_by {id : Nat} {a : Act} {w : World} (hF : Free F) (Inv : Act → (Nat → Bool) → Act → World → Prop) (hm : P.follows .mixedOrders = true) (hd : noDefer ops = true) (hback : backB .any ops = true)
    (h0 : Inv a (fun _ => false) a w.drew) (hs : Steps P .any ops Q (Inv a) 0 ops.toList) (hend : ∀ L a' w', (∀ k, k < ops.size → L k = true) → Inv a L a' w' → Q .normal a' w') : (Code.region id ops true).wpIn F n P Q a w := by
  refine wpIn_region_any hm (opsIn_inv hF hd (Inv a) (back_of hback) hs hend ops.size _ a _ (by simp) ?_ ?_ ?_)
  · exact Nat.le_trans (List.length_filter_le _ _) (by simp)
  · have : (fun k => (Array.replicate ops.size false).getD k false) = fun _ => false := by
      funext k; simp [Array.getElem?_replicate]; split <;> rfl
    rw [this]; exact h0
  · intro k o _ hk
    simp [Array.getElem?_replicate] at hk
    split at hk <;> simp at hk
end
theorem below_new' (w : World) (o : Obj) : Below w.heap.size w (w.alloc o) := (Below.refl _ _).alloc (Nat.le_refl _) o
/-- What a slice in a variable's box lies in. -/
def rowAt (bO : Nat) (W : World) : Option Nat := ((W.cell? ⟨bO, 0, none⟩).getD undef).ownBlock
def Safe (bO : Nat) (W : World) : Prop := ∀ k, rowAt bO W = some k → k < W.heap.size
/-- What a round keeps: all below n₀, and all cells from B on but those of the slice in the box bO. -/
structure Kp (n₀ bO B : Nat) (W W' : World) : Prop where
  below : Below n₀ W W'
  safe : Safe bO W → Safe bO W'
  row : Safe bO W → ∀ k, rowAt bO W' = some k → rowAt bO W = some k ∨ W.heap.size ≤ k
  same : Safe bO W → ∀ k c t f, B ≤ k → t ≠ 62 → rowAt bO W ≠ some k → W.heap[k]? = some (.cells c t f) → W'.heap[k]? = W.heap[k]?
theorem Kp.trans {n₀ bO B : Nat} {X Y Z : World} (h : Kp n₀ bO B X Y) (k : Kp n₀ bO B Y Z) : Kp n₀ bO B X Z := by
  refine ⟨h.below.trans k.below, fun s => k.safe (h.safe s), fun s j hj => ?_, fun s j c t f hB ht hr hc => ?_⟩
  · rcases k.row (h.safe s) j hj with h1 | h1
    · exact h.row s j h1
    · exact Or.inr (Nat.le_trans h.below.size h1)
  · have h1 := h.same s j c t f hB ht hr hc
    refine (k.same (h.safe s) j c t f hB ht ?_ (h1.trans hc)).trans h1
    intro hj
    rcases h.row s j hj with h2 | h2
    · exact hr h2
    · have := (Array.getElem?_eq_some_iff.1 hc).1; omega
theorem rowAt_below {bO : Nat} {W W' : World} (h : Below W.heap.size W W') (hb : bO < W.heap.size) : rowAt bO W' = rowAt bO W := by
  unfold rowAt; rw [h.cell (p := ⟨bO, 0, none⟩) hb]
theorem Kp.of_below {n₀ bO B : Nat} {W W' : World} (h : Below W.heap.size W W') (hb : bO < W.heap.size) (hn : n₀ ≤ W.heap.size) : Kp n₀ bO B W W' := by
  have hr := rowAt_below h hb
  refine ⟨h.mono hn, fun s k hk => ?_, fun s k hk => Or.inl (hr ▸ hk), fun s k c t f _ _ _ hc => h.block k (Array.getElem?_eq_some_iff.1 hc).1⟩
  rw [hr] at hk; exact Nat.lt_of_lt_of_le (s k hk) h.size
theorem Kp.refl {n₀ bO B : Nat} (W : World) : Kp n₀ bO B W W := ⟨Below.refl _ _, id, fun _ _ h => Or.inl h, fun _ _ _ _ _ _ _ _ _ => rfl⟩
theorem rowAt_other {bO : Nat} {W : World} {b o : Nat} (u : Value) (hne : b ≠ bO ∨ o ≠ 0) : rowAt bO (W.setCell ⟨b, o, none⟩ u) = rowAt bO W := by
  unfold rowAt; rw [World.cell?_setCell_other _ _ _ _ (fun e => by injection e; omega)]
theorem setCell_block (W : World) (b o : Nat) (u : Value) (k : Nat) (hk : k ≠ b) : (W.setCell ⟨b, o, none⟩ u).heap[k]? = W.heap[k]? := Below.heap_setCell _ _ _ k hk
/-- A store into a block that no round needs to keep. -/
theorem Kp.setLoop {n₀ bO B : Nat} {W : World} {b o : Nat} (u : Value) {c : Array Value} {f : Nat × Nat} (hn : n₀ ≤ b) (hc : W.heap[b]? = some (.cells c 62 f)) (hne : b ≠ bO ∨ o ≠ 0) : Kp n₀ bO B W (W.setCell ⟨b, o, none⟩ u) := by
  have hr := rowAt_other (W := W) u hne
  refine ⟨(Below.refl _ _).setCell (p := ⟨b, o, none⟩) hn u, fun s k hk => ?_, fun s k hk => Or.inl (hr ▸ hk), fun s k c' t f' hk ht _ h => setCell_block _ _ _ _ _ (fun e => ?_)⟩
  · rw [hr] at hk; have := s k hk; simpa using this
  · subst e; rw [hc] at h; cases h; exact ht rfl
/-- A store into a variable's own cell. -/
theorem Kp.setCell {n₀ bO B : Nat} {W : World} {b o : Nat} (u : Value) (hn : n₀ ≤ b) (hB : b < B) (hne : b ≠ bO ∨ o ≠ 0) : Kp n₀ bO B W (W.setCell ⟨b, o, none⟩ u) := by
  have hr := rowAt_other (W := W) u hne
  refine ⟨(Below.refl _ _).setCell (p := ⟨b, o, none⟩) hn u, fun s k hk => ?_, fun s k hk => Or.inl (hr ▸ hk), fun s k c t f hk _ _ _ => setCell_block _ _ _ _ _ (by omega)⟩
  rw [hr] at hk; have := s k hk; simpa using this
theorem Kp.putObj {n₀ bO B : Nat} {w : World} (hn : n₀ ≤ w.heap.size) (hb : bO < w.heap.size) (W : World) (l : Nat) (o o' : Obj) (hl : w.heap.size ≤ l) (h : W.heap[l]? = some o) (hc : o.isCells = false) (hw : o.isWalk = false) : Kp n₀ bO B W (W.putObj l o') := by
  have hg := grownBy_putObj' W l o'
  have hr : rowAt bO (W.putObj l o') = rowAt bO W := by
    have h1 := (Array.getElem?_eq_some_iff.1 h).1
    unfold rowAt; rw [World.cell?_of_block (hg.block bO (by omega) (by intro e; cases e; omega))]
  refine ⟨belowK_b hn W l o o' hl h hc hw, fun s k hk => ?_, fun s k hk => Or.inl (hr ▸ hk), fun s k c t f _ _ _ hk => hg.block k (Array.getElem?_eq_some_iff.1 hk).1 (fun e => ?_)⟩
  · rw [hr] at hk; exact Nat.lt_of_lt_of_le (s k hk) hg.size
  · cases e; rw [h] at hk; cases hk; cases hc
section
variable {P : Program}
/-- The loop over an iterator whose variable lies in a block of its own. -/
theorem range_box {α : Type} {g : Operand} {ps : Array Tmp} {assign body : Code} {Q : Exit → Act → World → Prop} {a : Act} {w : World} {gf : Nat} {lb : Array Value} {n₀ bO B : Nat}
    (hg : a.eval g = .func (.func gf) #[] lb) (eg : ∀ args w, (callFunc gf args).run P w = .ok (.enter gf args) w) {encs : α → Array Value} {S Sp : List α → Prop} {N : Nat}
    (hseq : SeqStopsK Fence.wide 1 P gf lb encs (Kp n₀ bO B) S Sp N w) (hn0 : n₀ ≤ w.heap.size) (hbO : bO < w.heap.size) (hps : ∀ x, (encs x).size = ps.size)
    (I : List α → World → Prop) (hI : OwnFrom w.heap.size I) (hsz : ∀ pre W, I pre W → w.heap.size ≤ W.heap.size) (h0 : I [] w) (slot : Nat) (T : TypeId) (cs : α → Array Value)
    (hassign : ∀ (l : Nat) (x : α) (W : World) (K : Act → World → Prop), K { tmps := ((ps.zip (encs x)).foldl (fun t (p, v) => t.setIfInBounds p v) a.tmps).setIfInBounds slot (.pointer (some ⟨W.heap.size, 0, none⟩)), defers := [] } (W.alloc (.cells (cs x) T)) →
      assign.wpIn (Fence.wide.inRound l) (2 - 1 - 1) P (Exit.then K (fun _ _ _ => False)) { tmps := (ps.zip (encs x)).foldl (fun t (p, v) => t.setIfInBounds p v) a.tmps, defers := [] } W)
    (hbody : ∀ (l : Nat) (pre : List α) (x : α) (Bx : Nat) (W : World), I pre W → W.heap[Bx]? = some (.cells (cs x) T (0, 0)) → w.heap.size ≤ Bx → pre.length < N →
      body.wpIn (Fence.wide.inRound l) (2 - 1 - 1) P (ownPostG w.heap.size (Kp n₀ bO B) I (fun _ _ _ => False) (pre ++ [x]) W) { tmps := ((ps.zip (encs x)).foldl (fun t (p, v) => t.setIfInBounds p v) a.tmps).setIfInBounds slot (.pointer (some ⟨Bx, 0, none⟩)), defers := [] } W)
    (hdone : ∀ (D : Nat) (xs : List α) (W : World), w.heap.size ≤ D → S xs → I xs W → W.heap[D]? = some (.deferred (some [])) → Q .normal { a with defers := { target := .collected D, args := #[] } :: a.defers } W) :
    (Code.rangeFunc g ps assign body).wpIn Fence.wide 2 P Q a w := by
  refine wpIn_rangeFunc_ownH rfl (by omega) hg trivial eg hseq Kp.trans (Kp.putObj hn0 hbO) (Below.refl _ _) hps I (fun _ _ _ => False) hI (fun _ _ _ _ _ hs _ _ => hs) h0
    (fun x a' W => ∃ Bx, w.heap.size ≤ Bx ∧ W.heap[Bx]? = some (.cells (cs x) T (0, 0)) ∧ a' = { tmps := ((ps.zip (encs x)).foldl (fun t (p, v) => t.setIfInBounds p v) a.tmps).setIfInBounds slot (.pointer (some ⟨Bx, 0, none⟩)), defers := [] })
    ?_ ?_ ?_ hdone ?_
  · rintro x a' _ X Y row ⟨Bx, h1, h2, h3⟩ hg' hr
    exact ⟨Bx, h1, (grownBy_keeps_cells hg' (fun r e => (hr r e).2) h2 rfl).trans h2, h3⟩
  · intro l pre x W K hi hK
    have hs := hsz _ _ hi
    refine hassign l x W K (hK _ _ ((KeepsOthers.alloc _ _).from _) (Kp.of_below (below_new' _ _) (by omega) (by omega)) (hI.alloc _ hi) ⟨W.heap.size, hs, World.alloc_heap_new _ _, rfl⟩)
  · rintro l pre x a' W hl _ hi ⟨Bx, h1, h2, rfl⟩ hlen
    exact hbody l pre x Bx W hi h2 h1 hlen
  · intro D c pre W _ _ h _
    exact h.elim
end
/-- What the call's own memory holds stays so behind the loop's bookkeeping. -/
theorem Cel.kept {W W' : World} {row : Option Nat} {b o : Nat} {v : Value} (h : Cel W b o v) (hg : W.grownBy W' row) (hrow : ∀ r, row = some r → ∃ o : Obj, W.heap[r]? = some o ∧ o.isCells = false) : Cel W' b o v :=
  ⟨cell_kept h.1 hg hrow, (frozen_kept h.1 hg hrow).trans h.2⟩
theorem Cels.kept {W W' : World} {row : Option Nat} (hg : W.grownBy W' row) (hrow : ∀ r, row = some r → ∃ o : Obj, W.heap[r]? = some o ∧ o.isCells = false) : ∀ {l : List (Nat × Nat × Value)}, Cels W l → Cels W' l
  | [], _ => trivial
  | _ :: _, h => ⟨Cel.kept h.1 hg hrow, Cels.kept hg hrow h.2⟩
theorem own_from {β : Type} {w0 : World} {m B : Nat} (hB : w0.heap.size ≤ B) (l : β → List (Nat × Nat × Value)) : OwnFrom B (fun s W => Own w0 m W (l s)) :=
  fun s W W' row hs hg hr => ⟨ownFrom_below (β := Unit) (Nat.le_refl _) hB () W W' row hs.below hg hr, Nat.le_trans hs.size hg.size, hs.cels.kept hg (fun r e => (hr r e).2), hs.le⟩
theorem own_putObj {w0 W : World} {m D : Nat} {l : List (Nat × Nat × Value)} {o : Obj} (o' : Obj) (h : Own w0 m W l) (hB : w0.heap.size ≤ D) (hD : W.heap[D]? = some o) (ho : o.isCells = false) : Own w0 m (W.putObj D o') l :=
  own_from (β := Unit) (w0 := w0) (m := m) (Nat.le_refl _) (fun _ => l) () W _ (some D) h (grownBy_putObj' W D o') (fun r e => by cases e; exact ⟨hB, o, hD, ho⟩)
theorem KeepsFrom.of_below {B : Nat} {W W' : World} (h : Below W.heap.size W W') : KeepsFrom B W W' := ⟨h.size, fun k o _ hk _ => (h.block k (Array.getElem?_eq_some_iff.1 hk).1).trans hk⟩
/-- Both words that a round owes. -/
def KK (n₀ bO B Bk : Nat) (W W' : World) : Prop := KeepsFrom Bk W W' ∧ Kp n₀ bO B W W'
theorem KK.refl {n₀ bO B Bk : Nat} (W : World) : KK n₀ bO B Bk W W := ⟨KeepsFrom.refl _ _, Kp.refl _⟩
theorem KK.trans {n₀ bO B Bk : Nat} {X Y Z : World} (h : KK n₀ bO B Bk X Y) (k : KK n₀ bO B Bk Y Z) : KK n₀ bO B Bk X Z := ⟨h.1.trans k.1, h.2.trans k.2⟩
theorem KK.below {n₀ bO B Bk : Nat} {X Y Z : World} (h : KK n₀ bO B Bk X Y) (hb : Below Y.heap.size Y Z) (hn : n₀ ≤ Y.heap.size) (hbO : bO < Y.heap.size) : KK n₀ bO B Bk X Z := h.trans ⟨KeepsFrom.of_below hb, Kp.of_below hb hbO hn⟩
theorem KK.set {n₀ bO B Bk : Nat} {X Y : World} (h : KK n₀ bO B Bk X Y) {b o : Nat} (u : Value) (hn : n₀ ≤ b) (hB : b < B) (hne : b ≠ bO ∨ o ≠ 0) : KK n₀ bO B Bk X (Y.setCell ⟨b, o, none⟩ u) := h.trans ⟨(KeepsOthers.setCell _ _ _).from _, Kp.setCell u hn hB hne⟩
theorem KK.loop {n₀ bO B Bk : Nat} {X Y : World} (h : KK n₀ bO B Bk X Y) {b o : Nat} (u : Value) {c : Array Value} {f : Nat × Nat} (hn : n₀ ≤ b) (hc : Y.heap[b]? = some (.cells c 62 f)) (hne : b ≠ bO ∨ o ≠ 0) : KK n₀ bO B Bk X (Y.setCell ⟨b, o, none⟩ u) := h.trans ⟨(KeepsOthers.setCell _ _ _).from _, Kp.setLoop u hn hc hne⟩
/-- A block of cells of type t. -/
def IsT (Y : World) (b : Nat) (t : TypeId) : Prop := ∃ c f, Y.heap[b]? = some (.cells c t f)
theorem IsT.set {Y : World} {b : Nat} {t : TypeId} (h : IsT Y b t) (b' o : Nat) (u : Value) : IsT (Y.setCell ⟨b', o, none⟩ u) b t := by
  obtain ⟨c, f, h⟩ := h
  by_cases e : b = b'
  · subst e
    obtain ⟨hlt, hk⟩ := Array.getElem?_eq_some_iff.1 h
    have e2 : (Y.setCell ⟨b, o, none⟩ u).heap[b]? = some (.cells (c.setIfInBounds o u) t f) := by
      show (Y.heap.modify b _)[b]? = _
      rw [Array.getElem?_eq_getElem (by rw [Array.size_modify]; exact hlt), Array.getElem_modify_self, hk]
      rfl
    exact ⟨_, f, e2⟩
  · exact ⟨c, f, (setCell_block Y b' o u b e).trans h⟩
theorem IsT.keep {Y Z : World} {b : Nat} {t : TypeId} (h : IsT Y b t) (hb : Below Y.heap.size Y Z) : IsT Z b t := by
  obtain ⟨c, f, h⟩ := h
  exact ⟨c, f, (hb.block b (Array.getElem?_eq_some_iff.1 h).1).trans h⟩
theorem KK.loopT {n₀ bO B Bk : Nat} {X Y : World} (h : KK n₀ bO B Bk X Y) {b o : Nat} (u : Value) (hn : n₀ ≤ b) (hc : IsT Y b 62) (hne : b ≠ bO ∨ o ≠ 0) : KK n₀ bO B Bk X (Y.setCell ⟨b, o, none⟩ u) := by
  obtain ⟨c, f, hc⟩ := hc
  exact h.loop u hn hc hne
theorem rowAt_none {bO : Nat} {W : World} {k : IntKind} {x : Int} (h : W.cell? ⟨bO, 0, none⟩ = some (.int k x)) : rowAt bO W = none := by unfold rowAt; rw [h]; rfl
theorem abides_below {β : Type} {B : Nat} {J : β → World → Prop} (hJ : AbidesFrom B J) {s : β} {W W' : World} (hj : J s W) (h : Below W.heap.size W W') : J s W' :=
  hJ s W W' none hj ⟨h.os, h.tape, h.output, h.size, fun k hk _ => h.block k hk⟩ (fun r e => by cases e)
end Go.Proofs.Ytmljnelmnagfoaa
