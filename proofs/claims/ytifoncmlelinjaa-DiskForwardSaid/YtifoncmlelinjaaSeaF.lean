/- All operations of an abstract state together. -/
import Derived.Test.YtifoncmlelinjaaSeaX
set_option linter.unusedVariables false
set_option linter.unusedSimpArgs false
namespace Go.Sea
open Go.RowKit
section
variable {w0 : World} {Z0 : Fr} {J J' : Nat → Option Nat} {Z Z' : Nat → Prop} {s s' : AS} {a : Act} {w w' : World} {P : Program} {o : Oper} {nid : Nat} {v : AV} {ef : Eff}
theorem optI_rel (R : Rel w0 Z0 J Z s a w) {x : Option Operand} {nd : Prop} {n : Option Int} (h : optI s.ev x = some (nd, n)) (hn : nd) : (x = none ∧ n = none) ∨ ∃ y k m, x = some y ∧ n = some m ∧ a.eval y = .int k m := by
  cases x with
  | none => simp only [optI, Option.some.injEq, Prod.mk.injEq] at h; exact Or.inl ⟨rfl, h.2.symm⟩
  | some y =>
    simp only [optI] at h
    split at h
    · rename_i k m h1
      simp only [Option.some.injEq, Prod.mk.injEq] at h
      obtain ⟨rfl, rfl⟩ := h
      obtain ⟨t, ht, hu⟩ := tv_of_bind h1
      exact Or.inr ⟨y, k, m, rfl, rfl, (ARel.tv (R.ev y) ht hn).int hu⟩
    · cases h
theorem bounds_run (w : World) (len cap : Nat) (lo hi : Option Value) (l h : Option Int) (hl : (lo = none ∧ l = none) ∨ ∃ k m, lo = some (.int k m) ∧ l = some m) (hh : (hi = none ∧ h = none) ∨ ∃ k m, hi = some (.int k m) ∧ h = some m) (hc : len ≤ cap)
    (h1 : 0 ≤ l.getD 0) (h2 : l.getD 0 ≤ h.getD len) (h3 : h.getD len ≤ len) : (Instr.sliceBounds true len cap lo hi none).run P w = .ok ((l.getD 0).toNat, (h.getD len).toNat, cap) w := by
  rcases hl with ⟨rfl, rfl⟩ | ⟨k, m, rfl, rfl⟩ <;> rcases hh with ⟨rfl, rfl⟩ | ⟨k', m', rfl, rfl⟩ <;> simp only [Option.getD_none, Option.getD_some] at h1 h2 h3 ⊢
  · simp [Instr.sliceBounds]
  · have e1 : m' ≤ (cap : Int) := by omega
    simp [Instr.sliceBounds, Instr.sliceBound, asIntOf, h2, e1]
  · have e1 : m ≤ (len : Int) := by omega
    simp [Instr.sliceBounds, Instr.sliceBound, asIntOf, h1, e1]
  · have e1 : m' ≤ (cap : Int) := by omega
    have e2 : 0 ≤ m' := by omega
    have e3 : max m' 0 = m' := by omega
    simp [Instr.sliceBounds, Instr.sliceBound, asIntOf, h1, h2, e1, e2, e3]
theorem does_slice (R : Rel w0 Z0 J Z s a w) {t e : TypeId} {x : Operand} {lo hi : Option Operand} {E b : Nat} (ho : o.op = .slice t x lo hi none) (hs : slD P t = some (E, b, e)) {y : TV} (hx : TRel w J Z (a.eval x) y) {n1 n2 nd : Prop} {l h : Option Int} (hl : optI s.ev lo = some (n1, l)) (hh : optI s.ev hi = some (n2, h)) (k1 : n1) (k2 : n2) (hf : sliceF E l h y = some (nd, v)) (hn : nd) :
    Does P w0 Z0 Z s a w nid o v .nop := by
  obtain ⟨i, zv, t1, t2, t3, t4, t5, t6, t7⟩ := slD_spec hs
  subst t5
  have gl : (lo.map a.eval = none ∧ l = none) ∨ ∃ k m, lo.map a.eval = some (.int k m) ∧ l = some m := by
    rcases optI_rel R hl k1 with ⟨rfl, rfl⟩ | ⟨y, k, m, rfl, rfl, hy⟩
    · exact Or.inl ⟨rfl, rfl⟩
    · exact Or.inr ⟨k, m, by simp [hy], rfl⟩
  have gh : (hi.map a.eval = none ∧ h = none) ∨ ∃ k m, hi.map a.eval = some (.int k m) ∧ h = some m := by
    rcases optI_rel R hh k2 with ⟨rfl, rfl⟩ | ⟨y, k, m, rfl, rfl, hy⟩
    · exact Or.inl ⟨rfl, rfl⟩
    · exact Or.inr ⟨k, m, by simp [hy], rfl⟩
  have hrun : ∀ (p : Option Addr) (len cap : Nat), a.eval x = .slice p len cap → len ≤ cap → 0 ≤ l.getD 0 → l.getD 0 ≤ h.getD len → h.getD len ≤ len →
      (execOp a.eval o).run P w = .ok (.value (.slice (if cap = (l.getD 0).toNat then p else p.map (·.add ((l.getD 0).toNat * i.size))) ((h.getD len).toNat - (l.getD 0).toNat) (cap - (l.getD 0).toNat))) w := fun p len cap hv hc g1 g2 g3 => by
    have hb := bounds_run (P := P) w len cap _ _ _ _ gl gh hc g1 g2 g3
    simp only [execOp, ho, hv, Instr.sliceAt, Sem.run_bind, run_underlying t1, Result.andThen_ok, Instr.slice, Option.map_none, hb, run_size t2, Sem.run_pure]
  unfold sliceF at hf
  split at hf
  · rename_i E' n f
    split at hf
    · rename_i hE
      subst hE
      simp only [Option.some.injEq, Prod.mk.injEq] at hf
      obtain ⟨rfl, rfl⟩ := hf
      obtain ⟨g1, g2, g3⟩ := hn
      generalize hv : a.eval x = vx at hx
      cases hx with
      | nil p cap _ _ =>
        refine does_val R (hrun p 0 cap hv (Nat.zero_le _) g1 g2 g3) ?_
        rw [show ((h.getD (((0 : Nat)) : Int)).toNat - (l.getD 0).toNat) = 0 by omega, show (h.getD (((0 : Nat)) : Int) - l.getD 0).toNat = 0 by omega]
        exact Rd.nil _ _ _ _
      | lst bb off _ cap _ _ X hz hnc hm q1 q2 =>
        refine does_val R (hrun _ n cap hv hnc g1 g2 g3) ?_
        rw [show ((h.getD n).toNat - (l.getD 0).toNat) = (h.getD n - l.getD 0).toNat by omega]
        by_cases hcap : cap = (l.getD 0).toNat
        · rw [if_pos hcap, show (h.getD n - l.getD 0).toNat = 0 by omega]
          exact Rd.nil _ _ _ _
        · rw [if_neg hcap]
          simp only [Option.map_some, Addr.add_lit]
          refine Rd.lst bb _ _ _ _ _ (fun k o => X ((l.getD 0).toNat + k) o) hz (by omega) (by omega) (fun k o hk ho => ?_) (fun k o hk ho => q2 _ _ (by omega) ho)
          have := q1 ((l.getD 0).toNat + k) o (by omega) ho
          rw [Nat.add_mul, ← Nat.add_assoc] at this
          exact this
    · cases hf
  · rename_i j off n E'
    split at hf
    · rename_i hE
      subst hE
      have own : ∀ {v0 : AV}, (0 ≤ l.getD 0 ∧ l.getD 0 ≤ h.getD n ∧ h.getD n ≤ n ∧ (l.getD 0 = 0 ∨ l.getD 0 < n)) → v0 = .t (.one (.slc j (off + (l.getD 0).toNat * i.size) (h.getD n - l.getD 0).toNat i.size)) → Does P w0 Z0 Z s a w nid o v0 .nop := by
        rintro v0 ⟨g1, g2, g3, g4⟩ rfl
        rcases hx with ⟨rfl, hv⟩ | ⟨bb, cap, c, e', hv, hj, hc1, hc2, hb, hs'⟩
        · have hr := hrun _ 0 0 hv (Nat.le_refl _) g1 g2 g3
          have hz : (l.getD 0).toNat = 0 := by omega
          rw [hz] at hr
          simp only [if_true, Nat.sub_zero] at hr
          rw [show (h.getD (((0 : Nat)) : Int)).toNat = 0 by omega] at hr
          exact does_val R hr (Or.inl ⟨by omega, rfl⟩)
        have hr := hrun _ n cap hv hc1 g1 g2 g3
        have hcl : (cap - (l.getD 0).toNat) * i.size + (l.getD 0).toNat * i.size = cap * i.size := by rw [← Nat.add_mul, Nat.sub_add_cancel (by omega)]
        have he : (if cap = (l.getD 0).toNat then (some ⟨bb, off, none⟩ : Option Addr) else (some ⟨bb, off, none⟩ : Option Addr).map (·.add ((l.getD 0).toNat * i.size))) = some ⟨bb, off + (l.getD 0).toNat * i.size, none⟩ := by
          split
          · rw [show (l.getD 0).toNat = 0 by omega]; simp
          · simp [Addr.add_lit]
        rw [he, show ((h.getD n).toNat - (l.getD 0).toNat) = (h.getD n - l.getD 0).toNat by omega] at hr
        exact does_val R hr (Or.inr ⟨bb, _, c, e', rfl, hj, by omega, by omega, hb, by omega⟩)

      split at hf
      · rename_i l' e1 e2
        split at hf
        · rename_i hl'
          subst hl'
          simp only [Option.some.injEq, Prod.mk.injEq] at hf
          obtain ⟨rfl, rfl⟩ := hf
          rcases hx with ⟨rfl, hv⟩ | ⟨bb, cap, c, e', hv, hj, hc1, hc2, hb, hs'⟩
          · have hr := hrun _ 0 0 hv (Nat.le_refl _) (by simp) (by simp) (by simp)
            simp only [Option.getD_some, Option.getD_none, Nat.sub_self, Nat.zero_sub, Int.toNat_natCast] at hr
            exact does_val R hr (Rd.nil _ _ _ _)
          · have hr := hrun _ n cap hv hc1 (by simp) (by simp) (by simp)
            simp only [Option.getD_some, Option.getD_none, Nat.sub_self, Int.toNat_natCast] at hr
            exact does_val R hr (Rd.nil _ _ _ _)
        · rename_i hl'
          simp only [Option.some.injEq, Prod.mk.injEq] at hf
          obtain ⟨rfl, rfl⟩ := hf
          exact own (by simp only [Option.getD_some, Option.getD_none]; omega) (by simp only [Option.getD_some, Option.getD_none])
      · simp only [Option.some.injEq, Prod.mk.injEq] at hf
        obtain ⟨rfl, rfl⟩ := hf
        exact own hn rfl
    · cases hf
  · cases hf
theorem does_fieldv (R : Rel w0 Z0 J Z s a w) {t : TypeId} {x : Operand} {f off n : Nat} {ag : Bool} {cs : List CV} (ho : o.op = .field t x f) (hf : fldD P t f = some (off, ag, n)) (hx : s.ev x = .t (.agg cs)) (hn : off + n ≤ cs.length ∧ 0 < n) :
    Does P w0 Z0 Z s a w nid o (bif ag then .t (.agg ((cs.drop off).take n)) else .t (.one (cs.getD off .any))) .nop := by
  have h := R.ev x
  rw [hx] at h
  obtain ⟨A, hA, hr⟩ := h
  unfold fldD at hf
  split at hf
  · rename_i fs hu
    split at hf
    · rename_i fd hfd
      split at hf
      · rename_i ag' n' htd
        cases hf
        obtain ⟨d, i, h1, h2, h3, h4⟩ := tyD_spec htd
        subst h3
        have hag := run_isAgg h1 w
        rw [h4] at hag
        have hlen := hr.length
        simp only [Array.length_toList] at hlen
        cases ag with
        | true =>
          refine does_val R (u := .agg (A.extract fd.offset (fd.offset + i.size))) ?_ ⟨_, rfl, ?_⟩
          · simp [execOp, ho, hA, Instr.field, run_underlying hu, hfd, part, hag, run_size h2, asAgg]
          · have := (hr.drop fd.offset).take i.size
            rw [Array.toList_extract, List.extract_eq_take_drop]
            rw [show fd.offset + i.size - fd.offset = i.size by omega]
            exact this
        | false =>
          obtain ⟨u, hu', hr'⟩ := hr.get (k := fd.offset) (y := cs.getD fd.offset .any) (by simp [List.getD, List.getElem?_eq_getElem (show fd.offset < cs.length by omega)])
          refine does_val R (u := u) ?_ hr'
          have hAu : A[fd.offset]? = some u := by rw [← Array.getElem?_toList]; exact hu'
          simp [execOp, ho, hA, Instr.field, run_underlying hu, hfd, part, hag, hAu, asAgg]
      · cases hf
    · cases hf
  · cases hf
theorem does_extract (R : Rel w0 Z0 J Z s a w) {x : Operand} {k : Nat} {xs : List TV} {y : TV} (ho : o.op = .extract x k) (hx : s.ev x = .tup xs) (hk : xs[k]? = some y) : Does P w0 Z0 Z s a w nid o (.t y) .nop := by
  have h := R.ev x
  rw [hx] at h
  obtain ⟨A, hA, hr⟩ := h
  obtain ⟨u, hu, hr'⟩ := hr.get hk
  refine does_val R (u := u) ?_ hr'
  have hAu : A[k]? = some u := by rw [← Array.getElem?_toList]; exact hu
  simp [execOp, ho, hA, Instr.extract, hAu]
theorem does_makeFunc (R : Rel w0 Z0 J Z s a w) {f : Fn} {x y : Array Operand} {n1 n2 : Prop} {l m : List LV} (ho : o.op = .makeFunc f x y) (h1 : lvsF s.ev x.toList = some (n1, l)) (h2 : lvsF s.ev y.toList = some (n2, m)) (k1 : n1) (k2 : n2) : Does P w0 Z0 Z s a w nid o (.t (.one (.fn f l m))) .nop := by
  refine does_val R (u := .func f (x.map a.eval) (y.map a.eval)) (by simp [execOp, ho, Instr.makeFunc]) ⟨_, _, rfl, ?_, ?_⟩
  · rw [Array.toList_map]; exact lvs_rel R h1 k1
  · rw [Array.toList_map]; exact lvs_rel R h2 k2
theorem does_append (R : Rel w0 Z0 J Z s a w) (hh : hget s.heap nid = none) {c : Call} (ho : o.op = .call c) (hc : c.callee = .builtin .append) {x y : Operand} {t e : TypeId} {n b : Nat} (ha : c.args.toList = [x, y]) (ht : c.argTypes.toList = [t, t]) {u1 u2 : TV} (hs : slD P t = some (n, b, e)) (hx : TRel w J Z (a.eval x) u1) (hy : TRel w J Z (a.eval y) u2) {nd : Prop} (h : appF nid n b (hget s.heap) u2 u1 = some (nd, v, ef)) (hn : nd) : Does P w0 Z0 Z s a w nid o v ef := by
  have ea : c.args = #[x, y] := by rw [← Array.toArray_toList (xs := c.args), ha]
  have et : c.argTypes = #[t, t] := by rw [← Array.toArray_toList (xs := c.argTypes), ht]
  obtain ⟨u, w', J', hrun, hR, hr⟩ := run_app (ty := o.type) R hh hs hx hy h hn
  refine ⟨J', w', u, Or.inl ?_, hR, hr⟩
  simp [execOp, ho, resolve, hc, invoke, builtin, ea, et, hrun]
theorem does_minmax (R : Rel w0 Z0 J Z s a w) (mx : Bool) {c : Call} (ho : o.op = .call c) (hc : c.callee = .builtin (bif mx then .max else .min)) {x y : Operand} (ha : c.args.toList = [x, y]) {u1 u2 : TV} (hx : TRel w J Z (a.eval x) u1) (hy : TRel w J Z (a.eval y) u2) (h : minmaxF mx u1 u2 = some v) : Does P w0 Z0 Z s a w nid o v .nop := by
  have ea : c.args = #[x, y] := by rw [← Array.toArray_toList (xs := c.args), ha]
  unfold minmaxF at h
  split at h
  · rename_i k m k' n h1 h2
    simp only [Option.some.injEq] at h
    subst h
    have e1 := hx.int h1
    have e2 := hy.int h2
    cases mx with
    | true => exact does_val R (u := .int k (if n > m then n else m)) (by simp only [cond_true] at hc; simp [execOp, ho, resolve, hc, invoke, builtin, ea, Builtin.max_, Builtin.max2, e1, e2]) (Rd.g _ rfl)
    | false => exact does_val R (u := .int k (if n < m then n else m)) (by simp only [cond_false] at hc; simp [execOp, ho, resolve, hc, invoke, builtin, ea, Builtin.min_, Builtin.min2, e1, e2]) (Rd.g _ rfl)
  · cases h
theorem does_load (R : Rel w0 Z0 J Z s a w) {t : TypeId} {x : Operand} (ho : o.op = .load t x) {ag : Bool} {n : Nat} {y : TV} {nd : Prop} (ht : tyD P t = some (ag, n)) (hx : TRel w J Z (a.eval x) y) (h : loadF ag n (hget s.heap) y = some (nd, v)) (hn : nd) : Does P w0 Z0 Z s a w nid o v .nop := by
  obtain ⟨u, hrun, hr⟩ := run_load (P := P) R ht hx h hn
  exact does_val R (u := u) (by simp [execOp, ho, hrun]) hr
theorem does_store (R : Rel w0 Z0 J Z s a w) {t : TypeId} {p x : Operand} (ho : o.op = .store t p x) {ag : Bool} {n : Nat} {q y : TV} {nd : Prop} (ht : tyD P t = some (ag, n)) (hp : TRel w J Z (a.eval p) q) (hx : TRel w J Z (a.eval x) y) (h : storeF n (hget s.heap) y q = some (nd, v, ef)) (hn : nd) : Does P w0 Z0 Z s a w nid o v ef := by
  obtain ⟨rfl, w', hrun, hR⟩ := run_store' (P := P) (nid := nid) R ht hp hx h hn
  exact ⟨J, w', undef, Or.inr ⟨by simp [execOp, ho, hrun], rfl⟩, hR, trivial⟩

theorem does_indexv (R : Rel w0 Z0 J Z s a w) {t : TypeId} {x ix : Operand} {n m : Nat} {ag : Bool} {cs : List CV} {kk : IntKind} {i : Int} (ho : o.op = .index t x ix) (hf : ixD P t = some (n, ag, m)) (hx : s.ev x = .t (.agg cs)) (hi : a.eval ix = .int kk i) (h0 : 0 ≤ i ∧ i < (n : Int)) (hn : i.toNat * m + m ≤ cs.length ∧ 0 < m) :
    Does P w0 Z0 Z s a w nid o (bif ag then .t (.agg ((cs.drop (i.toNat * m)).take m)) else .t (.one (cs.getD (i.toNat * m) .any))) .nop := by
  have h := R.ev x
  rw [hx] at h
  obtain ⟨A, hA, hr⟩ := h
  unfold ixD at hf
  split at hf
  · rename_i n' e hu
    split at hf
    · rename_i ag' m' htd
      cases hf
      obtain ⟨d, ii, h1, h2, h3, h4⟩ := tyD_spec htd
      subst h3
      have hag := run_isAgg h1 w
      rw [h4] at hag
      cases ag with
      | true =>
        refine does_val R (u := .agg (A.extract (i.toNat * ii.size) (i.toNat * ii.size + ii.size))) ?_ ⟨_, rfl, ?_⟩
        · simp [execOp, ho, hA, hi, Instr.index, asIntOf, run_underlying hu, h0.1, h0.2, part, hag, run_size h2]
        · have := (hr.drop (i.toNat * ii.size)).take ii.size
          rw [Array.toList_extract, List.extract_eq_take_drop]
          rw [show i.toNat * ii.size + ii.size - i.toNat * ii.size = ii.size by omega]
          exact this
      | false =>
        obtain ⟨u, hu', hr'⟩ := hr.get (k := i.toNat * ii.size) (y := cs.getD (i.toNat * ii.size) .any) (by simp [List.getD, List.getElem?_eq_getElem (show i.toNat * ii.size < cs.length by omega)])
        refine does_val R (u := u) ?_ hr'
        have hAu : A[i.toNat * ii.size]? = some u := by rw [← Array.getElem?_toList]; exact hu'
        simp [execOp, ho, hA, hi, Instr.index, asIntOf, run_underlying hu, h0.1, h0.2, part, hag, hAu, run_size h2]
    · cases hf
  · cases hf

theorem opF_sound (R : Rel w0 Z0 J Z s a w) (hh : hget s.heap nid = none) {nd : Prop} (h : opF P nid s.ev (hget s.heap) o = some (nd, v, ef)) (hn : nd) : Does P w0 Z0 Z s a w nid o v ef := by
  unfold opF at h
  split at h
  · exact does_move R (Or.inl (by assumption)) h hn
  · exact does_move R (Or.inr (by assumption)) h hn
  · rename_i c x y ho
    split at h
    · rename_i cc hc
      simp only [Option.some.injEq, Prod.mk.injEq] at h
      obtain ⟨rfl, rfl, rfl⟩ := h
      exact does_pick R ho hc hn.1 hn.2.1 hn.2.2
    · cases h
  · rename_i t ho
    split at h
    · rename_i cs hz
      simp only [Option.some.injEq, Prod.mk.injEq] at h
      obtain ⟨rfl, rfl, rfl⟩ := h
      exact does_alloc R hh ho hz
    · cases h
  · rename_i t x ho
    split at h
    · rename_i y hx
      simp only [Option.some.injEq, Prod.mk.injEq] at h
      obtain ⟨rfl, rfl, rfl⟩ := h
      exact does_box R hh ho hx hn
    · cases h
  · rename_i t ps ho
    split at h
    · rename_i z nd' l h1 h2 h3
      split at h
      · rename_i cs h4
        simp only [Option.some.injEq, Prod.mk.injEq] at h
        obtain ⟨rfl, rfl, rfl⟩ := h
        exact does_build R ho h1 h2 h3 hn h4
      · cases h
    · cases h
  · rename_i t n ps ho
    split at h
    · rename_i E b e nd' l h1 h2
      split at h
      · rename_i z h3
        split at h
        · rename_i cs h4
          split at h
          · rename_i h5
            simp only [Option.some.injEq, Prod.mk.injEq] at h
            obtain ⟨rfl, rfl, rfl⟩ := h
            exact does_buildSlice R hh ho h1 h3 h2 hn h4 h5
          · split at h
            · simp only [Option.some.injEq, Prod.mk.injEq] at h
              obtain ⟨rfl, rfl, rfl⟩ := h
              exact does_buildNone R hh ho h1 h2
            · cases h
        · cases h
      · cases h
    · cases h
  · rename_i t x lo hi mx ho
    split at h
    · rename_i E b e u n1 l n2 hi' h1 h2 h3 h4
      split at h
      · rename_i nd' y h5
        simp only [Option.some.injEq, Prod.mk.injEq] at h
        obtain ⟨rfl, rfl, rfl⟩ := h
        exact does_slice R ho h1 (ARel.tv (R.ev x) h2 hn.1) h3 h4 hn.2.1 hn.2.2.1 h5 hn.2.2.2
      · cases h
    · exact op2F_sound R hh h hn
  · rename_i t x f ho
    split at h
    · rename_i off ag n cs h1 h2
      simp only [Option.some.injEq, Prod.mk.injEq] at h
      obtain ⟨rfl, rfl, rfl⟩ := h
      exact does_fieldv R ho h1 h2 hn
    · cases h
  · rename_i t x ho
    split at h
    · rename_i ag n u h1 h2
      split at h
      · rename_i nd' y h3
        simp only [Option.some.injEq, Prod.mk.injEq] at h
        obtain ⟨rfl, rfl, rfl⟩ := h
        exact does_load R ho h1 (ARel.tv (R.ev x) h2 hn.1).dp h3 hn.2
      · cases h
    · cases h
  · rename_i t p x ho
    split at h
    · rename_i ag n q u h1 h2 h3
      split at h
      · rename_i nd' y ef' h4
        simp only [Option.some.injEq, Prod.mk.injEq] at h
        obtain ⟨rfl, rfl, rfl⟩ := h
        exact does_store R ho h1 (ARel.tv (R.ev p) h2 hn.1).dp (ARel.tv (R.ev x) h3 hn.2.1) h4 hn.2.2
      · cases h
    · cases h
  · rename_i op t x y t' ho
    split at h
    · rename_i k m k' n h1 h2
      split at h
      · rename_i nd' v' h3
        split at h
        · rename_i hk
          subst hk
          simp only [Option.some.injEq, Prod.mk.injEq] at h
          obtain ⟨rfl, rfl, rfl⟩ := h
          obtain ⟨u1, g1, e1⟩ := tv_of_bind h1
          obtain ⟨u2, g2, e2⟩ := tv_of_bind h2
          exact does_int R ho ((ARel.tv (R.ev x) g1 hn.1).int e1) ((ARel.tv (R.ev y) g2 hn.2.1).int e2) h3 hn.2.2
        · cases h
      · cases h
    · split at h
      · rename_i u v h1 h2
        split at h
        · rename_i r h3
          simp only [Option.some.injEq, Prod.mk.injEq] at h
          obtain ⟨rfl, rfl, rfl⟩ := h
          obtain ⟨u1, g1, e1⟩ := tv_of_bind h1
          obtain ⟨u2, g2, e2⟩ := tv_of_bind h2
          exact does_bool R ho ((ARel.tv (R.ev x) g1 hn.1).bool e1) ((ARel.tv (R.ev y) g2 hn.2).bool e2) h3
        · cases h
      · split at h
        · rename_i u v h2 h3
          split at h
          · split at h
            · rename_i ks h1
              split at h
              · rename_i r h4
                simp only [Option.some.injEq, Prod.mk.injEq] at h
                obtain ⟨rfl, rfl, rfl⟩ := h
                exact does_eq R ho h1 (ARel.tv (R.ev x) h2 hn.1) (ARel.tv (R.ev y) h3 hn.2) h4
              · cases h
            · cases h
          · split at h
            · rename_i nd r h4
              simp only [Option.some.injEq, Prod.mk.injEq] at h
              obtain ⟨rfl, rfl, rfl⟩ := h
              exact does_eqN R ho (ARel.tv (R.ev x) h2 hn.1) (ARel.tv (R.ev y) h3 hn.2.1) h4 hn.2.2
            · cases h
        · cases h
  · rename_i op t x ho
    split at h
    · rename_i u h1
      split at h
      · rename_i b h2
        simp only [Option.some.injEq, Prod.mk.injEq] at h
        obtain ⟨rfl, rfl, rfl⟩ := h
        have e := (ARel.tv (R.ev x) h1 hn).bool h2
        exact does_val R (u := .bool (!b)) (by simp [execOp, ho, e, Op.unary]) (Rd.g _ rfl)
      · cases h
    · rename_i u h1
      split at h
      · rename_i k n h2
        simp only [Option.some.injEq, Prod.mk.injEq] at h
        obtain ⟨rfl, rfl, rfl⟩ := h
        have e := (ARel.tv (R.ev x) h1 hn).int h2
        exact does_val R (u := .int k (k.wrap (0 - n))) (by simp [execOp, ho, e, Op.unary, Op.intArith]) (Rd.g _ rfl)
      · cases h
    · cases h
  · rename_i src dst x ho
    split at h
    · rename_i td k k' n h1 h2 h3
      simp only [Option.some.injEq, Prod.mk.injEq] at h
      obtain ⟨rfl, rfl, rfl⟩ := h
      obtain ⟨u1, g1, e1⟩ := tv_of_bind h3
      have e := (ARel.tv (R.ev x) g1 hn).int e1
      obtain ⟨d, i, q1, _⟩ := tyD_spec (b := td.1) (n := td.2) h1
      have q2 := inD_spec h2
      refine does_val R (u := .int k (k.wrap n)) ?_ (Rd.g _ rfl)
      simp only [execOp, ho, e, convert, Sem.run_bind, run_underlying q1, run_underlying q2, Result.andThen_ok]
      simp [Conv.intToInt]
    · cases h
  · rename_i f x y ho
    split at h
    · rename_i n1 l n2 m h1 h2
      simp only [Option.some.injEq, Prod.mk.injEq] at h
      obtain ⟨rfl, rfl, rfl⟩ := h
      exact does_makeFunc R ho h1 h2 hn.1 hn.2
    · cases h
  · rename_i t x f ho
    split at h
    · rename_i off u h1 h2
      split at h
      · rename_i nd' y h3
        simp only [Option.some.injEq, Prod.mk.injEq] at h
        obtain ⟨rfl, rfl, rfl⟩ := h
        exact does_field R ho h1 (ARel.tv (R.ev x) h2 hn.1).dp h3 hn.2
      · cases h
    · cases h
  · rename_i t x ix ho
    split at h
    · rename_i u k n h1 h2
      split at h
      · rename_i nd' y h3
        simp only [Option.some.injEq, Prod.mk.injEq] at h
        obtain ⟨rfl, rfl, rfl⟩ := h
        obtain ⟨u2, g2, e2⟩ := tv_of_bind h2
        exact does_index R ho ((ARel.tv (R.ev ix) g2 hn.2.1).int e2) (ARel.tv (R.ev x) h1 hn.1).dp h3 hn.2.2
      · cases h
    · cases h
  · rename_i t x ix ho
    split at h
    · rename_i n ag m cs kk i h1 h2 h3
      simp only [Option.some.injEq, Prod.mk.injEq] at h
      obtain ⟨rfl, rfl, rfl⟩ := h
      obtain ⟨u2, g2, e2⟩ := tv_of_bind h3
      exact does_indexv R ho h1 h2 ((ARel.tv (R.ev ix) g2 hn.1).int e2) hn.2.1 hn.2.2
    · cases h
  · rename_i x k ho
    split at h
    · rename_i xs h1
      split at h
      · rename_i y h2
        simp only [Option.some.injEq, Prod.mk.injEq] at h
        obtain ⟨rfl, rfl, rfl⟩ := h
        exact does_extract R ho h1 h2
      · cases h
    · cases h
  · rename_i c ho
    split at h
    · rename_i hc
      split at h
      · rename_i x t ha ht
        split at h
        · rename_i sl u h1 h2
          split at h
          · rename_i y h3
            simp only [Option.some.injEq, Prod.mk.injEq] at h
            obtain ⟨rfl, rfl, rfl⟩ := h
            exact does_len R ho hc ha ht (ARel.tv (R.ev x) h2 hn) h1 h3
          · cases h
        · cases h
      · cases h
    · rename_i hc
      split at h
      · rename_i x y t t' ha ht
        split at h
        · rename_i n b e u1 u2 h1 h2 h3
          split at h
          · rename_i nd' r ef' h4
            split at h
            · rename_i htt
              subst htt
              simp only [Option.some.injEq, Prod.mk.injEq] at h
              obtain ⟨rfl, rfl, rfl⟩ := h
              exact does_append R hh ho hc ha ht h1 (ARel.tv (R.ev x) h2 hn.1) (ARel.tv (R.ev y) h3 hn.2.1) h4 hn.2.2
            · cases h
          · cases h
        · cases h
      · cases h
    · rename_i hc
      split at h
      · rename_i x y ha
        split at h
        · rename_i u1 u2 h1 h2
          split at h
          · rename_i r h3
            simp only [Option.some.injEq, Prod.mk.injEq] at h
            obtain ⟨rfl, rfl, rfl⟩ := h
            exact does_minmax R true ho hc ha (ARel.tv (R.ev x) h1 hn.1) (ARel.tv (R.ev y) h2 hn.2) h3
          · cases h
        · cases h
      · cases h
    · rename_i hc
      split at h
      · rename_i x y ha
        split at h
        · rename_i u1 u2 h1 h2
          split at h
          · rename_i r h3
            simp only [Option.some.injEq, Prod.mk.injEq] at h
            obtain ⟨rfl, rfl, rfl⟩ := h
            exact does_minmax R false ho hc ha (ARel.tv (R.ev x) h1 hn.1) (ARel.tv (R.ev y) h2 hn.2) h3
          · cases h
        · cases h
      · cases h
    · exact op2F_sound R hh h hn
  · exact op2F_sound R hh h hn
end
end Go.Sea
