/- More operations: the check for nil, make, parts of slices and arrays, copy, clear. -/
import Derived.Test.YtifoncmlelinjaaSeaE
import Derived.Laws.CopyRow
import Derived.Laws.IdiomCopy
import Derived.Laws.MakeOwn
set_option linter.unusedVariables false
set_option linter.unusedSimpArgs false
namespace Go.Sea
open Go.RowKit
section
variable {w0 : World} {Z0 : Fr} {J J' : Nat → Option Nat} {Z Z' : Nat → Prop} {s s' : AS} {a : Act} {w w' : World} {P : Program} {o : Oper} {nid : Nat} {v : AV} {ef : Eff}
theorem does_nc (R : Rel w0 Z0 J Z s a w) {x : Operand} (ho : o.op = .nilCheck x) {u : TV} (hx : TRel w J Z (a.eval x) u) (h : ncF u = true) : Does P w0 Z0 Z s a w nid o (.t u) .nop := by
  refine does_val R (u := a.eval x) ?_ hx
  have : ∃ b k, a.eval x = .pointer (some ⟨b, k, none⟩) := by
    unfold ncF at h
    split at h
    · obtain ⟨b, e, _⟩ := hx; exact ⟨b, _, e⟩
    · obtain ⟨b, off, X, e, _⟩ := hx; exact ⟨b, off, e⟩
    · generalize a.eval x = vx at hx
      cases hx with
      | ptr b off m f X => exact ⟨b, off, rfl⟩
    · cases h
  obtain ⟨b, k, e⟩ := this
  simp [execOp, ho, e]
theorem madeCells_eq (z : Array Value) (n : Nat) : (madeCells z (n * z.size)).toList = (List.replicate n z.toList).flatten := range_rep z n
theorem does_make (R : Rel w0 Z0 J Z s a w) (hh : hget s.heap nid = none) {t e : TypeId} {E b : Nat} {l c : Operand} (ho : o.op = .makeSlice t l c) (hs : slD P t = some (E, b, e)) {z : List CV} (hz : zeroC P e = some z) {k k' : IntKind} {n : Int}
    (hl : a.eval l = .int k n) (hc : a.eval c = .int k' n) (h0 : 0 < n) (hb : (b : Int) * n ≤ 281474976710656) (hm : n ≤ (maxLen : Int)) : Does P w0 Z0 Z s a w nid o (.t (.one (.slc nid 0 n.toNat E))) (.new (repC z n.toNat)) := by
  obtain ⟨i, zv, t1, t2, t3, t4, t5, t6, t7⟩ := slD_spec hs
  obtain ⟨i', zv', h1, h2, rfl, h3⟩ := zeroC_spec hz
  obtain rfl : i' = i := by rw [t2] at h1; exact (Option.some.inj h1).symm
  obtain rfl : zv' = zv := by rw [t3] at h2; exact (Option.some.inj h2).symm
  subst t5
  subst t6
  have hm' : n ≤ 9223372036854775807 := by simpa [maxLen] using hm
  have hr := run_make (P := P) w t e i' zv' t1 t2 t3 k k' n n (by omega) (Int.le_refl _) hb hm'
  have hall : All2 (CRel w J Z) (madeCells zv'.cells (n.toNat * i'.size)).toList (repC (zv'.cells.toList.map fun v => CV.iv (.g v)) n.toNat) := by
    rw [repC_map, ← t4, madeCells_eq]
    exact all2_g _ fun v hv => by
      obtain ⟨x, hx, hy⟩ := List.mem_flatten.1 hv
      rw [(List.mem_replicate.1 hx).2] at hy
      exact h3 v hy
  refine does_new R hh (C := madeCells zv'.cells (n.toNat * i'.size)) (e := e) (u := .slice (some ⟨w.heap.size, 0, none⟩) n.toNat n.toNat) (by simp only [execOp, ho, hl, hc, Sem.run_bind, hr, Result.andThen_ok, Sem.run_pure]) hall fun w' J' hj hb' => ?_
  refine Or.inr ⟨w.heap.size, n.toNat, _, e, rfl, hj, Nat.le_refl _, by omega, hb', ?_⟩
  rw [size_madeCells, Nat.zero_add]
  exact Nat.le_refl _
theorem optI_ex (R : Rel w0 Z0 J Z s a w) {x : Option Operand} {nd : Prop} {m : Int} (h : optI s.ev x = some (nd, some m)) (hn : nd) : ∃ y k, x = some y ∧ a.eval y = .int k m := by
  cases x with
  | none => simp [optI] at h
  | some y =>
    simp only [optI] at h
    split at h
    · rename_i k m' h1
      simp only [Option.some.injEq, Prod.mk.injEq] at h
      obtain ⟨rfl, rfl⟩ := h
      obtain ⟨t, ht, hu⟩ := tv_of_bind h1
      exact ⟨y, k, rfl, (ARel.tv (R.ev y) ht hn).int hu⟩
    · cases h
theorem optI_no {s : AS} {x : Option Operand} {nd : Prop} (h : optI s.ev x = some (nd, none)) : x = none := by
  cases x with
  | none => rfl
  | some y =>
    simp only [optI] at h
    split at h
    · simp at h
    · cases h
theorem bound_ok (k : IntKind) (m : Int) (y : Nat) (code : BoundsCode) (h0 : 0 ≤ m) (h1 : m ≤ y) : (Instr.sliceBound (.int k m) y code).run P w = .ok m.toNat w := by
  simp [Instr.sliceBound, asIntOf, h0, h1]
theorem does_slice3 (R : Rel w0 Z0 J Z s a w) {t e : TypeId} {x : Operand} {lo hi mx : Option Operand} {E b : Nat} (ho : o.op = .slice t x lo hi mx) (hs : slD P t = some (E, b, e)) {u : TV} (hx : TRel w J Z (a.eval x) u) {n1 n2 n3 nd : Prop} {l : Option Int} {h m : Int}
    (hl : optI s.ev lo = some (n1, l)) (hh : optI s.ev hi = some (n2, some h)) (hm : optI s.ev mx = some (n3, some m)) (k1 : n1) (k2 : n2) (k3 : n3) {y : AV} (hf : slice3F E (l.getD 0) h m u = some (nd, y)) (hn : nd) : Does P w0 Z0 Z s a w nid o y .nop := by
  obtain ⟨i, zv, t1, t2, t3, t4, t5, t6, t7⟩ := slD_spec hs
  subst t5
  obtain ⟨oh, kh, rfl, eh⟩ := optI_ex R hh k2
  obtain ⟨om, km, rfl, em⟩ := optI_ex R hm k3
  have gl : (lo.map a.eval = none ∧ l = none) ∨ ∃ k m, lo.map a.eval = some (.int k m) ∧ l = some m := by
    cases l with
    | none => rw [optI_no hl]; exact Or.inl ⟨rfl, rfl⟩
    | some m => obtain ⟨y, k, rfl, e⟩ := optI_ex R hl k1; exact Or.inr ⟨k, m, by simp [e], rfl⟩
  have hrun : ∀ (p : Option Addr) (n cap : Nat), a.eval x = .slice p n cap → n ≤ cap → 0 ≤ l.getD 0 → l.getD 0 ≤ h → h ≤ m → m ≤ n →
      (execOp a.eval o).run P w = .ok (.value (.slice (if m.toNat = (l.getD 0).toNat then p else p.map (·.add ((l.getD 0).toNat * i.size))) (h.toNat - (l.getD 0).toNat) (m.toNat - (l.getD 0).toNat))) w := fun p n cap hv hc g1 g2 g3 g4 => by
    have b1 := bound_ok (P := P) (w := w) km m cap .slice3Acap (by omega) (by omega)
    have b2 := bound_ok (P := P) (w := w) kh h m.toNat .slice3B (by omega) (by omega)
    have hb : (Instr.sliceBounds true n cap (lo.map a.eval) (some (.int kh h)) (some (.int km m))).run P w = .ok ((l.getD 0).toNat, h.toNat, m.toNat) w := by
      rcases gl with ⟨e1, rfl⟩ | ⟨k, q, e1, rfl⟩
      · rw [e1]; simp [Instr.sliceBounds, b1, b2]
      · have b3 := bound_ok (P := P) (w := w) k q h.toNat .slice3C g1 (by simp at g2; omega)
        rw [e1]; simp [Instr.sliceBounds, b1, b2, b3]
    simp only [execOp, ho, hv, Instr.sliceAt, Sem.run_bind, run_underlying t1, Result.andThen_ok, Instr.slice, Option.map_some, eh, em, hb, run_size t2, Sem.run_pure]
  unfold slice3F at hf
  split at hf
  · rename_i E' n f
    split at hf
    · rename_i hE
      subst hE
      simp only [Option.some.injEq, Prod.mk.injEq] at hf
      obtain ⟨rfl, rfl⟩ := hf
      obtain ⟨g1, g2, g3, g4⟩ := hn
      generalize hv : a.eval x = vx at hx
      cases hx with
      | nil p cap _ _ =>
        have z1 : l.getD 0 = 0 := by omega
        have z2 : h = 0 := by omega
        have z3 : m = 0 := by omega
        subst z2
        subst z3
        refine does_val R (hrun p 0 cap hv (Nat.zero_le _) g1 g2 g3 g4) ?_
        rw [z1]
        exact Rd.nil _ _ _ _
      | lst bb off _ cap _ _ X hz hnc hm' q1 q2 =>
        refine does_val R (hrun _ n cap hv hnc g1 g2 g3 g4) ?_
        rw [show (h.toNat - (l.getD 0).toNat) = (h - l.getD 0).toNat by omega]
        by_cases hq : m.toNat = (l.getD 0).toNat
        · rw [if_pos hq, show (h - l.getD 0).toNat = 0 by omega]
          exact Rd.nil _ _ _ _
        · rw [if_neg hq]
          simp only [Option.map_some, Addr.add_lit]
          refine Rd.lst bb _ _ _ _ _ (fun k o => X ((l.getD 0).toNat + k) o) hz (by omega) (by omega) (fun k o hk ho => ?_) (fun k o hk ho => q2 _ _ (by omega) ho)
          have := q1 ((l.getD 0).toNat + k) o (by omega) ho
          rw [Nat.add_mul, ← Nat.add_assoc] at this
          exact this
    · cases hf
  · rename_i j off n E'
    split at hf
    · rename_i hE
      subst hE
      simp only [Option.some.injEq, Prod.mk.injEq] at hf
      obtain ⟨rfl, rfl⟩ := hf
      obtain ⟨g1, g2, g3, g4⟩ := hn
      rcases hx with ⟨rfl, hv⟩ | ⟨bb, cap, c, e', hv, hj, hc1, hc2, hb, hs'⟩
      · have hr := hrun _ 0 0 hv (Nat.le_refl _) g1 g2 g3 g4
        have z1 : (l.getD 0).toNat = 0 := by omega
        have z2 : h.toNat = 0 := by omega
        have z3 : m.toNat = 0 := by omega
        rw [z1, z2, z3] at hr
        simp only [if_true, Nat.sub_zero] at hr
        exact does_val R hr (Or.inl ⟨by omega, rfl⟩)
      · have hr := hrun _ n cap hv hc1 g1 g2 g3 g4
        have hcl : (m.toNat - (l.getD 0).toNat) * i.size + (l.getD 0).toNat * i.size ≤ cap * i.size := by
          rw [← Nat.add_mul, Nat.sub_add_cancel (by omega)]
          exact Nat.mul_le_mul_right _ (by omega)
        have he : (if m.toNat = (l.getD 0).toNat then (some ⟨bb, off, none⟩ : Option Addr) else (some ⟨bb, off, none⟩ : Option Addr).map (·.add ((l.getD 0).toNat * i.size))) = some ⟨bb, offF (l.getD 0) m off i.size, none⟩ := by
          unfold offF
          by_cases hq : m = l.getD 0
          · rw [if_pos (by rw [hq]), if_pos hq]
          · rw [if_neg (by omega), if_neg hq]; simp [Addr.add_lit]
        rw [he, show h.toNat - (l.getD 0).toNat = (h - l.getD 0).toNat by omega] at hr
        refine does_val R hr (Or.inr ⟨bb, _, c, e', rfl, hj, by omega, by omega, hb, ?_⟩)
        unfold offF
        by_cases hq : m = l.getD 0
        · rw [if_pos hq, show m.toNat - (l.getD 0).toNat = 0 by omega]; omega
        · rw [if_neg hq]; omega
    · cases hf
  · cases hf
theorem does_slArr (R : Rel w0 Z0 J Z s a w) {t : TypeId} {x : Operand} {lo hi mx : Option Operand} {n E : Nat} (ho : o.op = .slice t x lo hi mx) (hs : arD P t = some (n, E)) {u : TV} (hx : TRel w J Z (a.eval x) u) {n1 n2 n3 nd : Prop} {h : Option Int}
    (hl : optI s.ev lo = some (n1, none)) (hh : optI s.ev hi = some (n2, h)) (hm : optI s.ev mx = some (n3, none)) (k2 : n2) {y : AV} (hf : slArrF (hget s.heap) n E h u = some (nd, y)) (hn : nd) : Does P w0 Z0 Z s a w nid o y .nop := by
  obtain ⟨e, i, t1, t2, t3⟩ := arD_spec hs
  subst t3
  obtain rfl := optI_no hl
  obtain rfl := optI_no hm
  have gh : (hi.map a.eval = none ∧ h = none) ∨ ∃ k m, hi.map a.eval = some (.int k m) ∧ h = some m := by
    cases h with
    | none => rw [optI_no hh]; exact Or.inl ⟨rfl, rfl⟩
    | some m => obtain ⟨y, k, rfl, e⟩ := optI_ex R hh k2; exact Or.inr ⟨k, m, by simp [e], rfl⟩
  unfold slArrF at hf
  split at hf
  · rename_i j k
    split at hf
    · rename_i cs hcs
      simp only [Option.some.injEq, Prod.mk.injEq] at hf
      obtain ⟨rfl, rfl⟩ := hf
      obtain ⟨g1, g2, g3, g4, g5, g6⟩ := hn
      obtain ⟨b, hv, hj⟩ := hx
      have hpos : 0 < n * i.size := Nat.mul_pos g4 g5
      obtain ⟨b', c, e', q1, q2, q3⟩ := R.cells j cs hcs (by rintro rfl; simp at g3; omega)
      obtain rfl : b = b' := by rw [hj] at q1; exact Option.some.inj q1
      have hlen := q3.length
      rw [List.length_take] at hlen
      have hcsz : cs.length ≤ c.size := by simp at hlen; omega
      have hb : (Instr.sliceBounds false n n (none : Option Value) (hi.map a.eval) none).run P w = .ok (0, (h.getD n).toNat, n) w := by
        rcases gh with ⟨e1, rfl⟩ | ⟨k', q, e1, rfl⟩
        · rw [e1]; simp [Instr.sliceBounds]
        · have b2 := bound_ok (P := P) (w := w) k' q n .sliceAlen g1 g2
          rw [e1]; simp [Instr.sliceBounds, b2]
      have hr : (execOp a.eval o).run P w = .ok (.value (.slice (some ⟨b, k, none⟩) (h.getD n).toNat n)) w := by
        have hne : ¬ n = 0 := by omega
        simp only [execOp, ho, hv, Instr.sliceAt, Sem.run_bind, run_underlying t1, Result.andThen_ok, Instr.sureAddr, Option.map_none, hb, run_size t2, Sem.run_pure]
        simp [hne, Addr.add_lit]
      exact does_val R hr (Or.inr ⟨b, n, c, e', rfl, hj, by omega, g6, q2, by omega⟩)
    · cases hf
  · cases hf
theorem does_toArr (R : Rel w0 Z0 J Z s a w) {t : TypeId} {x : Operand} {n E : Nat} (ho : o.op = .sliceToArrayPointer t x) (hs : arD P t = some (n, E)) {u : TV} (hx : TRel w J Z (a.eval x) u) {nd : Prop} {y : AV} (hf : toArrF n E u = some (nd, y)) (hn : nd) : Does P w0 Z0 Z s a w nid o y .nop := by
  obtain ⟨e, i, t1, t2, t3⟩ := arD_spec hs
  unfold toArrF at hf
  split at hf
  · rename_i E' m f
    split at hf
    · rename_i hE
      obtain ⟨rfl, rfl⟩ := hE
      simp only [Option.some.injEq, Prod.mk.injEq] at hf
      obtain ⟨rfl, rfl⟩ := hf
      generalize hv : a.eval x = vx at hx
      cases hx with
      | nil p cap _ _ => omega
      | lst b off _ cap _ _ X hz hc hm h1 h2 =>
        have hr : (execOp a.eval o).run P w = .ok (.value (.pointer (some ⟨b, off, none⟩))) w := by
          have hlt : ¬ m < n := by omega
          simp [execOp, ho, hv, Instr.arrayAt, run_underlying t1, hlt]
        refine does_val R hr ⟨b, off, fun o => X o 0, rfl, hz, fun o ho' => ⟨?_, h2 o 0 (by omega) (by omega)⟩⟩
        have := h1 o 0 (by omega) (by omega)
        simpa using this
    · cases hf
  · cases hf
theorem Rel.back (R : Rel w0 Z0 J Z s a w) {i : Nat} {cs cs' : List CV} (h0 : hget s.heap i = some cs) (he : cs' = cs) : Rel w0 Z0 J Z { s with heap := hset s.heap i cs' } a w := by
  subst he
  refine R.same fun k => ?_
  by_cases hk : k = i
  · subst hk; rw [hget_hset_same, h0]
  · rw [hget_hset_ne _ _ _ _ hk]
theorem set_seg (R : Rel w0 Z0 J Z s a w) {i b : Nat} {cs vs : List CV} {c : Array Value} {e : TypeId} {news : List Value} {off : Nat} (h0 : hget s.heap i = some cs) (hj : J i = some b) (hb : w.heap[b]? = some (.cells c e (0, 0))) (hne : cs ≠ [])
    (hv : All2 (CRel w J Z) news vs) (hl : off + vs.length ≤ cs.length) : off + news.length ≤ c.size ∧ Rel w0 Z0 J Z { s with heap := hset s.heap i (cs.take off ++ vs ++ cs.drop (off + vs.length)) } a (w.setRow b (c.toList.take off ++ news ++ c.toList.drop (off + news.length)).toArray) := by
  obtain ⟨b', c', e', g1, g2, g3⟩ := R.cells i cs h0 hne
  obtain rfl : b = b' := by rw [hj] at g1; exact Option.some.inj g1
  rw [hb] at g2
  obtain ⟨rfl, rfl⟩ : c = c' ∧ e = e' := by simp at g2; exact g2
  have hlen := g3.length
  rw [List.length_take] at hlen
  have hcsz : cs.length ≤ c.size := by simp at hlen; omega
  have hlv := hv.length
  have hN : (c.toList.take off ++ news ++ c.toList.drop (off + news.length)).toArray.size = c.size := by simp; omega
  refine ⟨by omega, Rel.set (c' := (c.toList.take off ++ news ++ c.toList.drop (off + news.length)).toArray) R h0 hj hb hN (hget_hset_same _ _ _) (fun q hq => hget_hset_ne _ _ _ _ hq) ?_⟩
  have ht1 := g3.take off
  have ht2 := g3.drop (off + vs.length)
  have ht3 := (ht1.append hv).append ht2
  have e1 := seg_take c.toList news off cs.length (by omega) (by simpa using hcsz)
  rw [hlv] at e1
  have e2 : (cs.take off ++ vs ++ cs.drop (off + vs.length)).length = cs.length := by simp; omega
  show All2 _ (List.take _ (c.toList.take off ++ news ++ c.toList.drop (off + news.length))) _
  rw [e2, hlv, e1]
  exact ht3
theorem one_of {news : List Value} {ns : List CV} (h : All2 (CRel w J Z) news ns) : ∀ u ∈ news, u.oneCell' = true := fun u hu => by
  obtain ⟨q, hq, e⟩ := List.getElem_of_mem hu
  have : q < ns.length := by rw [← h.length]; exact hq
  obtain ⟨x, hx, hr⟩ := h.get (List.getElem?_eq_getElem this)
  rw [List.getElem?_eq_getElem hq, Option.some.injEq] at hx
  rw [← e, hx]; exact CRel.one hr
theorem does_copy (R : Rel w0 Z0 J Z s a w) {c : Call} (ho : o.op = .call c) (hc : c.callee = .builtin .copy) {x y : Operand} {t t' e : TypeId} {b : Nat} (ha : c.args.toList = [x, y]) (ht : c.argTypes.toList = [t, t']) (hs : slD P t = some (1, b, e))
    {u v' : TV} (hx : TRel w J Z (a.eval x) u) (hy : TRel w J Z (a.eval y) v') {nd : Prop} {r : AV} (hf : copyF (hget s.heap) v' u = some (nd, r, ef)) (hn : nd) : Does P w0 Z0 Z s a w nid o r ef := by
  obtain ⟨i, zv, t1, t2, t3, t4, t5, t6, t7⟩ := slD_spec hs
  have ea : c.args = #[x, y] := by rw [← Array.toArray_toList (xs := c.args), ha]
  have et : c.argTypes = #[t, t'] := by rw [← Array.toArray_toList (xs := c.argTypes), ht]
  have hu : (P.info? e).map (·.size) = some 1 := by rw [t2]; simp [t5]
  unfold copyF at hf
  split at hf
  · rename_i j off n E
    split at hf
    · rename_i cs nd' m ns h1 h2
      split at hf
      · rename_i hE
        subst hE
        simp only [Option.some.injEq, Prod.mk.injEq] at hf
        obtain ⟨rfl, rfl, rfl⟩ := hf
        have hsrc := src_cells R h2 hn.1 hy
        have hrun : ∀ {A B : Value} {k : Nat} {W : World}, a.eval x = A → a.eval y = B → (Builtin.copy_ #[t, t'] o.type #[A, B]).run P w = .ok (goInt k) W → (execOp a.eval o).run P w = .ok (.value (goInt k)) W := fun {A B k W} e1 e2 h => by
          simp [execOp, ho, resolve, hc, invoke, builtin, ea, et, e1, e2, h, Result.andThen]
        have zero : ∀ (p p' : Option Addr) (cap cap' : Nat), a.eval x = .slice p n cap → a.eval y = .slice p' m cap' → min m n = 0 → Does P w0 Z0 Z s a w nid o (iA .i64 ((min m n : Nat) : Int)) (.set j (cs.take off ++ ns.take (min m n) ++ cs.drop (off + min m n))) := fun p p' cap cap' e1 e2 h0 => by
          have hr := hrun e1 e2 (run_copy_none (P := P) w t t' o.type e p p' n cap m cap' t1 hu h0)
          refine ⟨J, w, goInt 0, Or.inl hr, ?_, ?_⟩
          · exact R.back h1 (by rw [h0]; simp)
          · rw [h0]; exact Rd.g _ rfl
        have ey : ∃ p' cap', a.eval y = .slice p' m cap' := by
          rcases hsrc with ⟨rfl, _, p, cc, e⟩ | ⟨_, b2, o2, cap2, news, e, _⟩
          · exact ⟨p, cc, e⟩
          · exact ⟨_, cap2, e⟩
        obtain ⟨p', cap', ey⟩ := ey
        rcases hx with ⟨rfl, hv⟩ | ⟨bb, cap, cc, e', hv, hj, hc1, hc2, hb, hs'⟩
        · exact zero _ _ _ _ hv ey (Nat.min_zero _)
        · by_cases h0 : min m n = 0
          · exact zero _ _ _ _ hv ey h0
          · rcases hsrc with ⟨rfl, _, _⟩ | ⟨hpos, b2, o2, cap2, news, e2, n1, n2, n3, n4⟩
            · exact absurd (Nat.zero_min _) h0
            · have hk : (news.take (min m n)).length = min m n := by rw [List.length_take, n1]; omega
              have hv4 := n4.take (min m n)
              have hlen4 := n4.length
              have hk2 : (ns.take (min m n)).length = min m n := by rw [List.length_take, ← hlen4, n1]; omega
              obtain ⟨hfit, hR⟩ := set_seg (off := off) R h1 hj hb (by rintro rfl; simp at hn; omega) hv4 (by rw [hk2]; omega)
              rw [hk2] at hR
              have hcr := run_copy_row (P := P) w t t' o.type e bb off n cap ⟨b2, o2, none⟩ m cap2 cc e' (news.take (min m n)) t1 hu hb hk (fun q u hq => by
                rw [List.getElem?_take] at hq
                split at hq
                · exact n2 q u hq
                · cases hq) hfit (fun u hu => n3 u (List.mem_of_mem_take hu))
              have hr := hrun hv e2 hcr
              rw [hk] at hr
              exact ⟨J, _, _, Or.inl hr, by rw [hk] at hR; exact hR, Rd.g _ rfl⟩
      · cases hf
    · cases hf
  · cases hf
theorem zeroCells_list (z : Array Value) (n : Nat) : (Builtin.zeroCells z n).toList = (List.replicate n z.toList).flatten := range_rep z n
theorem does_clear (R : Rel w0 Z0 J Z s a w) {c : Call} (ho : o.op = .call c) (hc : c.callee = .builtin .clear) {x : Operand} {t e : TypeId} {b : Nat} (ha : c.args.toList = [x]) (ht : c.argTypes.toList = [t]) (hs : slD P t = some (1, b, e))
    {z : List CV} (hz : zeroC P e = some z) {u : TV} (hx : TRel w J Z (a.eval x) u) {nd : Prop} {r : AV} (hf : clearF (hget s.heap) z u = some (nd, r, ef)) (hn : nd) : Does P w0 Z0 Z s a w nid o r ef := by
  obtain ⟨i, zv, t1, t2, t3, t4, t5, t6, t7⟩ := slD_spec hs
  obtain ⟨i', zv', h1, h2, rfl, h3⟩ := zeroC_spec hz
  obtain rfl : i' = i := by rw [t2] at h1; exact (Option.some.inj h1).symm
  obtain rfl : zv' = zv := by rw [t3] at h2; exact (Option.some.inj h2).symm
  have ea : c.args = #[x] := by rw [← Array.toArray_toList (xs := c.args), ha]
  have et : c.argTypes = #[t] := by rw [← Array.toArray_toList (xs := c.argTypes), ht]
  unfold clearF at hf
  split at hf
  · simp only [Option.some.injEq, Prod.mk.injEq] at hf
    obtain ⟨rfl, rfl, rfl⟩ := hf
    refine ⟨J, w, .tuple #[], Or.inl ?_, R, trivial⟩
    have hv : ∃ p cap, a.eval x = .slice p 0 cap := by
      generalize hv : a.eval x = vx at hx
      cases hx with
      | nil p cap _ _ => exact ⟨p, cap, rfl⟩
      | lst b off _ cap _ _ X hz hn' hm' h1' h2' => exact ⟨_, cap, rfl⟩
    obtain ⟨p, cap, hv⟩ := hv
    have hcl : (Builtin.clear_ #[t] o.type #[.slice p 0 cap]).run P w = .ok (.tuple #[]) w := by
      cases p <;> simp [Builtin.clear_, run_underlying t1]
    simp [execOp, ho, resolve, hc, invoke, builtin, ea, et, hv, hcl, Result.andThen]
  · rename_i j off n E
    split at hf
    · rename_i cs hcs
      split at hf
      · rename_i hE
        subst hE
        simp only [Option.some.injEq, Prod.mk.injEq] at hf
        obtain ⟨rfl, rfl, rfl⟩ := hf
        have hrun : ∀ {A : Value} {W : World}, a.eval x = A → (Builtin.clear_ #[t] o.type #[A]).run P w = .ok (.tuple #[]) W → (execOp a.eval o).run P w = .ok (.value (.tuple #[])) W := fun {A W} e1 h => by
          simp [execOp, ho, resolve, hc, invoke, builtin, ea, et, e1, h, Result.andThen]
        have none0 : ∀ (p : Option Addr) (cap : Nat), a.eval x = .slice p 0 cap → n = 0 → Does P w0 Z0 Z s a w nid o .any (.set j (cs.take off ++ repC (zv'.cells.toList.map fun v => CV.iv (.g v)) n ++ cs.drop (off + n))) := fun p cap e1 h0 => by
          subst h0
          refine ⟨J, w, .tuple #[], Or.inl (hrun e1 ?_), R.back hcs (by simp [repC]), trivial⟩
          cases p <;> simp [Builtin.clear_, run_underlying t1]
        rcases hx with ⟨rfl, hv⟩ | ⟨bb, cap, cc, e', hv, hj, hc1, hc2, hb, hs'⟩
        · exact none0 _ _ hv rfl
        · by_cases h0 : n = 0
          · subst h0; exact none0 _ _ hv rfl
          · have hall : All2 (CRel w J Z) (Builtin.zeroCells zv'.cells n).toList (repC (zv'.cells.toList.map fun v => CV.iv (.g v)) n) := by
              rw [repC_map, zeroCells_list]
              exact all2_g _ fun v hv => by
                obtain ⟨x, hx, hy⟩ := List.mem_flatten.1 hv
                rw [(List.mem_replicate.1 hx).2] at hy
                exact h3 v hy
            have hzl : (Builtin.zeroCells zv'.cells n).toList.length = n := by simp [Builtin.zeroCells]; rw [t4]; omega
            have hzl2 := hall.length
            rw [hzl] at hzl2
            obtain ⟨hfit, hR⟩ := set_seg (off := off) R hcs hj hb (by rintro rfl; simp at hn; omega) hall (by rw [← hzl2]; exact hn)
            rw [← hzl2] at hR
            have hst := run_storeCells_at P bb off e' (Builtin.zeroCells zv'.cells n).toList 0 cc w hb (by simpa using hfit) (one_of hall)
            simp only [Nat.add_zero] at hst
            refine ⟨J, _, .tuple #[], Or.inl (hrun hv ?_), hR, trivial⟩
            have hz' : (zeroValue e).run P w = .ok zv' w := by simp [zeroValue, typeInfo, h1, h2]
            obtain ⟨q, rfl⟩ : ∃ q, n = q + 1 := ⟨n - 1, by omega⟩
            simp [Builtin.clear_, run_underlying t1, hz', hst]
      · cases hf
    · cases hf
  · cases hf
theorem op2F_sound (R : Rel w0 Z0 J Z s a w) (hh : hget s.heap nid = none) {nd : Prop} (h : op2F P nid s.ev (hget s.heap) o = some (nd, v, ef)) (hn : nd) : Does P w0 Z0 Z s a w nid o v ef := by
  unfold op2F at h
  split at h
  · rename_i x ho
    split at h
    · rename_i u h1
      split at h
      · rename_i h2
        simp only [Option.some.injEq, Prod.mk.injEq] at h
        obtain ⟨rfl, rfl, rfl⟩ := h
        exact does_nc R ho (ARel.tv (R.ev x) h1 hn) h2
      · cases h
    · cases h
  · rename_i t l c ho
    split at h
    · rename_i E b e k m k' n h1 h2 h3
      split at h
      · rename_i z h4
        split at h
        · rename_i hmn
          subst hmn
          simp only [Option.some.injEq, Prod.mk.injEq] at h
          obtain ⟨rfl, rfl, rfl⟩ := h
          obtain ⟨u1, g1, e1⟩ := tv_of_bind h2
          obtain ⟨u2, g2, e2⟩ := tv_of_bind h3
          exact does_make R hh ho h1 h4 ((ARel.tv (R.ev l) g1 hn.1).int e1) ((ARel.tv (R.ev c) g2 hn.2.1).int e2) hn.2.2.1 hn.2.2.2.1 hn.2.2.2.2
        · cases h
      · cases h
    · cases h
  · rename_i t x lo hi mx ho
    split at h
    · rename_i u n1 l n2 hq n3 m h1 h2 h3 h4
      split at h
      · rename_i q1 q2
        split at h
        · rename_i E b e h5
          split at h
          · rename_i nd' y h6
            simp only [Option.some.injEq, Prod.mk.injEq] at h
            obtain ⟨rfl, rfl, rfl⟩ := h
            exact does_slice3 R ho h5 (ARel.tv (R.ev x) h1 hn.1) h2 h3 h4 hn.2.1 hn.2.2.1 hn.2.2.2.1 h6 hn.2.2.2.2
          · cases h
        · cases h
      · split at h
        · split at h
          · rename_i n E h5
            split at h
            · rename_i nd' y h6
              simp only [Option.some.injEq, Prod.mk.injEq] at h
              obtain ⟨rfl, rfl, rfl⟩ := h
              exact does_slArr R ho h5 (ARel.tv (R.ev x) h1 hn.1) h2 h3 h4 hn.2.2.1 h6 hn.2.2.2.2
            · cases h
          · cases h
        · cases h
      · cases h
    · cases h
  · rename_i t x ho
    split at h
    · rename_i n E u h1 h2
      split at h
      · rename_i nd' y h3
        simp only [Option.some.injEq, Prod.mk.injEq] at h
        obtain ⟨rfl, rfl, rfl⟩ := h
        exact does_toArr R ho h1 (ARel.tv (R.ev x) h2 hn.1) h3 hn.2
      · cases h
    · cases h
  · rename_i c ho
    split at h
    · rename_i hc
      split at h
      · rename_i x y t t' ha ht
        split at h
        · rename_i b e u1 u2 h1 h2 h3
          split at h
          · rename_i nd' r ef' h4
            simp only [Option.some.injEq, Prod.mk.injEq] at h
            obtain ⟨rfl, rfl, rfl⟩ := h
            exact does_copy R ho hc ha ht h1 (ARel.tv (R.ev x) h2 hn.1) (ARel.tv (R.ev y) h3 hn.2.1) h4 hn.2.2
          · cases h
        · cases h
      · cases h
    · rename_i hc
      split at h
      · rename_i x t ha ht
        split at h
        · rename_i b e u1 h1 h2
          split at h
          · rename_i z h3
            split at h
            · rename_i nd' r ef' h4
              simp only [Option.some.injEq, Prod.mk.injEq] at h
              obtain ⟨rfl, rfl, rfl⟩ := h
              exact does_clear R ho hc ha ht h1 h3 (ARel.tv (R.ev x) h2 hn.1) h4 hn.2
            · cases h
          · cases h
        · cases h
      · cases h
    · cases h
  · cases h
end
end Go.Sea
