/- Append on abstract states. -/
import Derived.Test.YtifoncmlelinjaaSeaC
set_option linter.unusedVariables false
set_option linter.unusedSimpArgs false
namespace Go.Sea
open Go.RowKit

theorem purgeH_hset (i : Nat) : ∀ (h : List (Option (List CV))) (k : Nat) (x : List CV), purgeH i (hset h k x) = hset (purgeH i h) k (purgeC i x)
  | [], 0, x => rfl
  | [], k + 1, x => by have := purgeH_hset i [] k x; simp only [hset, purgeH, List.map_cons, List.map_nil, Option.map_none, List.cons.injEq, true_and] at this ⊢; exact this
  | _ :: h, 0, x => rfl
  | y :: h, k + 1, x => by have := purgeH_hset i h k x; simp only [hset, purgeH, List.map_cons, List.cons.injEq, true_and] at this ⊢; exact this
theorem purgeC_ok (i : Nat) (cs : List CV) : ∀ y, y ∈ purgeC i cs → y.ok (· ≠ i) := by
  intro y hy
  obtain ⟨c, _, rfl⟩ := List.mem_map.1 hy
  exact CV.purge_ok i c
theorem all2_purge {w : World} {J : Nat → Option Nat} {Z : Nat → Prop} {l : List Value} {m : List CV} (i : Nat) (h : All2 (CRel w J Z) l m) : All2 (CRel w J Z) l (purgeC i m) :=
  All2.map_right.2 (h.mono fun _ _ => CRel.purge i)

theorem all2_drew {w : World} {J : Nat → Option Nat} {Z : Nat → Prop} {l : List Value} {m : List CV} (h : All2 (CRel w J Z) l m) : All2 (CRel w.drew J Z) l m :=
  have G : Grow (fun _ => True) w J Z w.drew J Z := ⟨fun _ _ _ h => h, fun _ h => h, fun _ _ _ => rfl, fun _ _ _ _ c _ _ h => ⟨c, h, rfl⟩, fun _ _ h _ => h⟩
  h.mono fun _ y hy => CRel.grow G y.ok_all hy
section
variable {w0 : World} {Z0 : Fr} {J J' : Nat → Option Nat} {Z Z' : Nat → Prop} {s s' : AS} {a : Act} {w w' : World} {P : Program}
theorem run_append_room' (t ty e e' : TypeId) (i : TypeInfo) (ht : P.underlying t = some (.slice e)) (hi : P.info? e = some i)
    (g sLen sCap : Nat) (cur : Array Value) (hg : w.heap[g]? = some (.cells cur e' (0, 0)))
    (a : Addr) (m c : Nat) (news : List Value) (hl : news.length = m * i.size) (hnews : ∀ (j : Nat) u, news[j]? = some u → w.cell? (a.add j) = some u) (h1 : ∀ u ∈ news, u.oneCell' = true)
    (hroom : sLen + m ≤ sCap) (hfit : sLen * i.size + news.length ≤ cur.size) :
    (Builtin.append_ #[t, t] ty #[.slice (some ⟨g, 0, none⟩) sLen sCap, .slice (some a) m c]).run P w =
      .ok (.slice (some ⟨g, 0, none⟩) (sLen + m) sCap) (w.setRow g (cur.toList.take (sLen * i.size) ++ news ++ cur.toList.drop (sLen * i.size + news.length)).toArray) := by
  have hf := run_firstCells_some (P := P) w i.size m a m c news hl hnews
  have hst := run_storeCells_at P g (sLen * i.size) e' news 0 cur w hg (by simpa using hfit) h1
  simp only [Nat.add_zero] at hst
  simp [Builtin.append_, run_underlying ht, sizeOf, typeInfo, hi, Builtin.lenOf, hroom, hf, Addr.add_lit, hst]

theorem slc_cells (R : Rel w0 Z0 J Z s a w) {v : Value} {j off m E : Nat} {ns : List CV} (hv : CRel w J Z v (.slc j off m E)) (hn : hget s.heap j = some ns) (hl : off + m * E ≤ ns.length) :
    (m = 0 ∧ v = .slice none 0 0) ∨ ∃ b cap news, v = .slice (some ⟨b, off, none⟩) m cap ∧ news.length = m * E ∧ (∀ (k : Nat) u, news[k]? = some u → w.cell? ((⟨b, off, none⟩ : Addr).add k) = some u) ∧ (∀ u ∈ news, u.oneCell' = true) ∧ All2 (CRel w J Z) news ((ns.drop off).take (m * E)) := by
  rcases hv with ⟨rfl, rfl⟩ | ⟨b, cap, c, e, rfl, hj, hc1, hc2, hb, hs⟩
  · exact Or.inl ⟨rfl, rfl⟩
  by_cases hne : ns = []
  · subst hne
    refine Or.inr ⟨b, cap, [], rfl, by simp at hl ⊢; omega, fun k u hk => by simp at hk, fun u hu => by simp at hu, by simp [All2]⟩
  obtain ⟨b', c', e', g1, g2, g3⟩ := R.cells j ns hn hne
  obtain rfl : b = b' := by rw [hj] at g1; exact Option.some.inj g1
  rw [hb] at g2
  obtain ⟨rfl, rfl⟩ : c = c' ∧ e = e' := by simp at g2; exact g2
  have hlen := g3.length
  rw [List.length_take] at hlen
  have h3 := (g3.drop off).take (m * E)
  rw [List.drop_take, List.take_take, show min (m * E) (ns.length - off) = m * E by omega] at h3
  refine Or.inr ⟨b, cap, (c.toList.drop off).take (m * E), rfl, by simp at hlen ⊢; omega, fun k u hk => ?_, fun u hu => ?_, h3⟩
  · rw [Addr.add_lit, cell_of_row w b (off + k) c e (0, 0) hb]
    rw [List.getElem?_take] at hk
    split at hk
    · rw [List.getElem?_drop] at hk; simpa using hk
    · cases hk
  · obtain ⟨q, hq, e⟩ := List.getElem_of_mem hu
    have : q < ((ns.drop off).take (m * E)).length := by rw [← h3.length]; exact hq
    obtain ⟨x, hx, hr⟩ := h3.get (List.getElem?_eq_getElem this)
    rw [List.getElem?_eq_getElem hq, Option.some.injEq] at hx
    rw [← e, hx]; exact CRel.one hr

theorem lstC_len (f : Nat → Nat → IV) (E : Nat) : ∀ n k, (lstC f E n k).length = n * E
  | 0, k => by simp [lstC]
  | n + 1, k => by simp only [lstC, List.length_append, ipCells_length, lstC_len f E n (k + 1)]; rw [Nat.add_mul]; omega
theorem lst_cells {b off E : Nat} {f : Nat → Nat → IV} {X : Nat → Nat → Value} : ∀ (n k : Nat), (∀ i o, i < k + n → o < E → w.cell? ⟨b, off + i * E + o, none⟩ = some (X i o)) → (∀ i o, i < k + n → o < E → Rd w Z (X i o) (f i o)) →
    ∃ news : List Value, news.length = n * E ∧ (∀ (q : Nat) u, news[q]? = some u → w.cell? ⟨b, off + k * E + q, none⟩ = some u) ∧ All2 (CRel w J Z) news (lstC f E n k)
  | 0, k, _, _ => ⟨[], by simp, fun q u h => by simp at h, trivial⟩
  | n + 1, k, h1, h2 => by
    obtain ⟨news, g1, g2, g3⟩ := lst_cells n (k + 1) (fun i o hi ho => h1 i o (by omega) ho) (fun i o hi ho => h2 i o (by omega) ho)
    have hrow := all2_ipCells (J := J) (w := w) (Z := Z) (c := f k) (X := X k) E 0 fun o ho => h2 k o (by omega) (by omega)
    refine ⟨(List.range' 0 E).map (X k) ++ news, by rw [List.length_append, List.length_map, List.length_range', g1, Nat.add_mul]; omega, fun q u hq => ?_, hrow.append g3⟩
    by_cases hqE : q < E
    · rw [List.getElem?_append_left (by simpa using hqE)] at hq
      simp [List.getElem?_range', hqE] at hq
      rw [h1 k q (by omega) hqE, hq]
    · rw [List.getElem?_append_right (by simp; omega)] at hq
      simp only [List.length_map, List.length_range'] at hq
      have := g2 _ _ hq
      rw [Nat.add_mul, show off + (k * E + 1 * E) + (q - E) = off + k * E + q by omega] at this
      exact this
/-- What is appended, in memory. -/
theorem src_cells (R : Rel w0 Z0 J Z s a w) {size m : Nat} {nd : Prop} {v : Value} {x : TV} {ns : List CV} (h : srcF size (hget s.heap) x = some (nd, m, ns)) (hn : nd) (hv : TRel w J Z v x) :
    (m = 0 ∧ ns = [] ∧ ∃ p c, v = .slice p 0 c) ∨ (0 < m ∧ ∃ b off cap news, v = .slice (some ⟨b, off, none⟩) m cap ∧ news.length = m * size ∧ (∀ (k : Nat) u, news[k]? = some u → w.cell? ((⟨b, off, none⟩ : Addr).add k) = some u) ∧ (∀ u ∈ news, u.oneCell' = true) ∧ All2 (CRel w J Z) news ns) := by
  have one : ∀ {news : List Value} {ns : List CV}, All2 (CRel w J Z) news ns → ∀ u ∈ news, u.oneCell' = true := fun {news ns} h3 u hu => by
    obtain ⟨q, hq, e⟩ := List.getElem_of_mem hu
    have : q < ns.length := by rw [← h3.length]; exact hq
    obtain ⟨x, hx, hr⟩ := h3.get (List.getElem?_eq_getElem this)
    rw [List.getElem?_eq_getElem hq, Option.some.injEq] at hx
    rw [← e, hx]; exact CRel.one hr
  unfold srcF at h
  split at h
  · simp only [Option.some.injEq, Prod.mk.injEq] at h
    obtain ⟨rfl, rfl, rfl⟩ := h
    cases hv
    exact Or.inl ⟨rfl, rfl, _, _, rfl⟩
  · rename_i E n f
    split at h
    · rename_i hE
      subst hE
      simp only [Option.some.injEq, Prod.mk.injEq] at h
      obtain ⟨rfl, rfl, rfl⟩ := h
      cases hv with
      | nil p cap => exact Or.inl ⟨rfl, by simp [lstC], _, _, rfl⟩
      | lst b off _ cap _ _ X hz hnc hm q1 q2 =>
        by_cases h0 : n = 0
        · subst h0; exact Or.inl ⟨rfl, by simp [lstC], _, _, rfl⟩
        · obtain ⟨news, g1, g2, g3⟩ := lst_cells (J := J) (w := w) (Z := Z) (f := f) (X := X) (b := b) (off := off) (E := E) n 0 (fun i o hi ho => q1 i o (by omega) ho) (fun i o hi ho => q2 i o (by omega) ho)
          refine Or.inr ⟨by omega, b, off, cap, news, rfl, g1, fun k u hk => ?_, one g3, g3⟩
          have := g2 k u hk
          rw [Addr.add_lit]
          simpa using this
    · cases h
  · rename_i j off m' E
    split at h
    · rename_i ns' hns
      split at h
      · rename_i hE
        subst hE
        simp only [Option.some.injEq, Prod.mk.injEq] at h
        obtain ⟨rfl, rfl, rfl⟩ := h
        rcases slc_cells R hv hns hn with ⟨rfl, rfl⟩ | ⟨b, cap, news, rfl, n1, n2, n3, n4⟩
        · exact Or.inl ⟨rfl, by simp, _, _, rfl⟩
        · by_cases h0 : m' = 0
          · subst h0; exact Or.inl ⟨rfl, by simp, _, _, rfl⟩
          · exact Or.inr ⟨by omega, b, off, cap, news, rfl, n1, n2, n3, n4⟩
      · cases h
    · cases h
  · cases h
theorem run_append_none {t ty e : TypeId} {i : TypeInfo} (ht : P.underlying t = some (.slice e)) (hi : P.info? e = some i) (base p : Option Addr) (sLen sCap c : Nat) (hc : sLen ≤ sCap) :
    (Builtin.append_ #[t, t] ty #[.slice base sLen sCap, .slice p 0 c]).run P w = .ok (.slice base sLen sCap) w := by
  have hf : (Builtin.firstCells i.size 0 (.slice p 0 c)).run P w = .ok #[] w := by
    cases p with
    | none => exact run_firstCells_none ..
    | some a => exact run_firstCells_some (P := P) w i.size 0 a 0 c [] (by simp) (fun j v h => by simp at h)
  have hst : ∀ a, (storeCells a []).run P w = .ok () w := fun a => by simp [storeCells]
  cases base <;> simp [Builtin.append_, run_underlying ht, sizeOf, typeInfo, hi, Builtin.lenOf, hc, hf, hst]
theorem run_app (R : Rel w0 Z0 J Z s a w) {t e ty : TypeId} {n b nid : Nat} {v1 v2 : Value} {x1 x2 : TV} {nd : Prop} {r : AV} {ef : Eff} (hh : hget s.heap nid = none) (ht : slD P t = some (n, b, e)) (h1 : TRel w J Z v1 x1) (h2 : TRel w J Z v2 x2) (h : appF nid n b (hget s.heap) x2 x1 = some (nd, r, ef)) (hn : nd) :
    ∃ u w' J', (Builtin.append_ #[t, t] ty #[v1, v2]).run P w = .ok u w' ∧ Rel w0 Z0 J' Z (s.eff nid ef) a w' ∧ ARel w' J' Z u r := by
  obtain ⟨i, z, t1, t2, t3, t4, t5, t6, t7⟩ := slD_spec ht
  subst t5 t6
  unfold appF at h
  split at h
  · -- nil
    split at h
    · rename_i nd' m ns hsrc
      simp only [Option.some.injEq, Prod.mk.injEq] at h
      obtain ⟨rfl, rfl, rfl⟩ := h
      obtain ⟨hm, hby, hmx⟩ := hn
      obtain rfl : v1 = .slice none 0 0 := by cases h1; rfl
      rcases src_cells R hsrc hm h2 with ⟨rfl, rfl, p, c, rfl⟩ | ⟨hpos, b2, off, cap2, news, rfl, n1, n2, n3, n4⟩
      · exact ⟨_, w, J, run_append_none t1 t2 none p 0 0 c (Nat.le_refl _), R.newEmpty hh (hget_hset_same _ _ _) (fun q hq => hget_hset_ne _ _ _ _ hq), Or.inl ⟨rfl, rfl⟩⟩
      · have hrun := run_append_nil (P := P) w t ty e i z t1 t2 t3 ⟨b2, off, none⟩ m cap2 news n1 n2 hpos (by unfold maxLen at hmx; omega) (by omega)
        refine ⟨_, _, jset J nid w.heap.size, hrun, ?_, ?_⟩
        · have hd := R.drew
          refine hd.new hh (hget_hset_same _ _ _) (fun q hq => hget_hset_ne _ _ _ _ hq) ?_
          have hl2 := n4.length
          refine all2_drew ?_
          rw [Array.toList_append, List.take_append_of_le_length (by simp; omega)]
          rw [List.take_of_length_le (by simp; omega)]
          exact n4
        · refine Or.inr ⟨w.heap.size, _, _, e, rfl, by simp [jset], grownCap_ge w m 0 e, grownCap_le_maxLen w m 0 e hmx, heap_alloc_new w.drew _, ?_⟩
          have := grownCap_ge w m 0 e
          simp only [Array.size_append, size_zeroCells, t4]
          simp only [List.size_toArray, n1]
          rw [← Nat.add_mul]
          exact Nat.le_trans (by simp) (Nat.mul_le_mul_right _ (by omega : grownCap w m 0 e ≤ m + (grownCap w m 0 e - m)))
    · cases h
  · -- own
    rename_i k n' E
    split at h
    · rename_i cs nd' m ns hcs hsrc
      split at h
      · rename_i hE
        subst hE
        simp only [Option.some.injEq, Prod.mk.injEq] at h
        obtain ⟨rfl, rfl, rfl⟩ := h
        obtain ⟨hm, hl1, hby, hmx⟩ := hn
        have mv : ∀ (news : List Value) (C : Array Value), hget s.heap k = some cs → All2 (CRel w J Z) (C.toList.take (cs ++ ns).length) (cs ++ ns) → Rel w0 Z0 (jset J k w.heap.size) Z (s.eff nid (.app k (purgeC k (cs ++ ns)))) a (w.drew.alloc (.cells C e)) := fun news C hcs hC => by
          have R1 := (R.purge k).drew
          refine Rel.move (s := s.purge k) (cs := purgeC k (cs ++ ns)) R1 ?_ (hget_hset_same _ _ _) (fun q hq => hget_hset_ne _ _ _ _ hq) (fun t => ?_) (fun f t => ?_) (fun q x hq y hy => ?_) ?_
          · simp [AS.purge, hget_purge, hcs]
          · simp only [AS.purge, AS.get, lk_purge]; exact AV.purge_ok k _
          · simp only [AS.purge, gk_purge]; exact AV.purge_ok k _
          · by_cases hqk : q = k
            · subst hqk
              rw [hget_hset_same, Option.some.injEq] at hq
              subst hq
              exact purgeC_ok q _ y hy
            · rw [hget_hset_ne _ _ _ _ hqk] at hq
              simp only [AS.purge, hget_purge, Option.map_eq_some_iff] at hq
              obtain ⟨cs0, _, rfl⟩ := hq
              exact purgeC_ok k _ y hy
          · refine all2_drew ?_
            rw [show (purgeC k (cs ++ ns)).length = (cs ++ ns).length by rw [purgeC, List.length_map]]
            exact all2_purge k hC
        rcases src_cells R hsrc hm h2 with ⟨rfl, rfl, p, c, rfl⟩ | ⟨hpos, b2, off, cap2, news, rfl, n1, n2, n3, n4⟩
        · obtain ⟨base, cap0, rfl, hc0⟩ : ∃ base cap0, v1 = .slice base n' cap0 ∧ n' ≤ cap0 := by
            rcases h1 with ⟨rfl, rfl⟩ | ⟨b1, cap1, c1, e1, rfl, hj, hc1, _⟩
            · exact ⟨none, 0, rfl, Nat.le_refl _⟩
            · exact ⟨_, _, rfl, hc1⟩
          refine ⟨_, w, J, run_append_none t1 t2 base p n' cap0 c hc0, ?_, ?_⟩
          · have R1 := R.purge k
            refine R1.same (H := hset (purgeH k s.heap) k (purgeC k (cs ++ []))) fun q => ?_
            by_cases hq : q = k
            · subst hq; rw [hget_hset_same]; simp [AS.purge, hget_purge, hcs]
            · rw [hget_hset_ne _ _ _ _ hq]; rfl
          · rw [Nat.add_zero]; exact h1
        · rcases h1 with ⟨rfl, rfl⟩ | ⟨b1, cap1, c, e1, rfl, hj, hc1, hc2, hb, hs⟩
          · rw [Nat.zero_mul] at hl1
            have hcs0 : cs = [] := List.eq_nil_of_length_eq_zero hl1
            subst hcs0
            simp only [Nat.zero_add, List.nil_append] at hby hmx mv ⊢
            have hrun := run_append_nil (P := P) w t ty e i z t1 t2 t3 ⟨b2, off, none⟩ m cap2 news n1 n2 hpos (by unfold maxLen at hmx; omega) (by omega)
            refine ⟨_, _, jset J k w.heap.size, hrun, mv news _ hcs ?_, ?_⟩
            · have hl2 := n4.length
              rw [Array.toList_append, List.take_append_of_le_length (by simp; omega)]
              rw [List.take_of_length_le (by simp; omega)]
              exact n4
            · refine Or.inr ⟨w.heap.size, _, _, e, rfl, by simp [jset], grownCap_ge w m 0 e, grownCap_le_maxLen w m 0 e hmx, heap_alloc_new w.drew _, ?_⟩
              have := grownCap_ge w m 0 e
              simp only [Array.size_append, size_zeroCells, t4]
              simp only [List.size_toArray, n1]
              rw [← Nat.add_mul]
              exact Nat.le_trans (by simp) (Nat.mul_le_mul_right _ (by omega : grownCap w m 0 e ≤ m + (grownCap w m 0 e - m)))
          · have old : ∃ c0, All2 (CRel w J Z) (c.toList.take (n' * i.size)) cs ∧ n' * i.size ≤ c0 ∧ c0 = c.size := by
              refine ⟨c.size, ?_, Nat.le_trans (Nat.mul_le_mul_right _ hc1) (by omega), rfl⟩
              by_cases hne : cs = []
              · subst hne
                simp only [List.length_nil] at hl1
                rw [← hl1, List.take_zero]; trivial
              · obtain ⟨b', c', e', g1, g2, g3⟩ := R.cells k cs hcs hne
                obtain rfl : b1 = b' := by rw [hj] at g1; exact Option.some.inj g1
                rw [hb] at g2
                obtain ⟨rfl, rfl⟩ : c = c' ∧ e1 = e' := by simp at g2; exact g2
                rw [← hl1]; exact g3
            obtain ⟨_, g3, hnc, rfl⟩ := old
            have hlen : min (n' * i.size) c.size = n' * i.size := by omega
            have hl2 := n4.length
            have hcat : All2 (CRel w J Z) (c.toList.take (n' * i.size) ++ news) (cs ++ ns) := g3.append n4
            have hlc : (cs ++ ns).length = n' * i.size + m * i.size := by simp only [List.length_append]; omega
            by_cases hroom : n' + m ≤ cap1
            · have hfit : n' * i.size + news.length ≤ c.size := by
                rw [n1, ← Nat.add_mul]; exact Nat.le_trans (Nat.mul_le_mul_right _ hroom) (by omega)
              have hrun := run_append_room' (P := P) (w := w) t ty e e1 i t1 t2 b1 n' cap1 c hb ⟨b2, off, none⟩ m cap2 news n1 n2 n3 hroom hfit
              refine ⟨_, _, J, hrun, ?_, ?_⟩
              · have hN : (c.toList.take (n' * i.size) ++ news ++ c.toList.drop (n' * i.size + news.length)).toArray.size = c.size := by simp; omega
                have R1 := Rel.set (c' := (c.toList.take (n' * i.size) ++ news ++ c.toList.drop (n' * i.size + news.length)).toArray) R hcs hj hb hN (hget_hset_same s.heap k (cs ++ ns)) (fun q hq => hget_hset_ne _ _ _ _ hq) (by
                  rw [hlc]
                  show All2 _ (List.take _ (c.toList.take (n' * i.size) ++ news ++ c.toList.drop (n' * i.size + news.length))) _
                  rw [List.take_append_of_le_length (by simp; omega), List.take_of_length_le (by simp; omega)]
                  exact hcat)
                have R2 := R1.purge k
                simp only [AS.purge, purgeH_hset] at R2
                exact R2
              · refine Or.inr ⟨b1, cap1, _, e1, rfl, hj, hroom, hc2, setRow_heap w b1 c _ e1 (0, 0) hb, ?_⟩
                have : (c.toList.take (n' * i.size) ++ news ++ c.toList.drop (n' * i.size + news.length)).toArray.size = c.size := by simp; omega
                rw [this]; exact hs
            · have hg : cap1 < n' + m := by omega
              have holds : ∀ (q : Nat) u, (c.toList.take (n' * i.size))[q]? = some u → w.cell? ((⟨b1, 0, none⟩ : Addr).add q) = some u := fun q u hq => by
                rw [Addr.add_lit, cell_of_row w b1 (0 + q) c e1 (0, 0) hb]
                rw [List.getElem?_take] at hq
                split at hq
                · simpa using hq
                · cases hq
              have hrun := run_append_grow (P := P) w t ty e i z t1 t2 t3 ⟨b1, 0, none⟩ n' cap1 (c.toList.take (n' * i.size)) (by simp; omega) holds ⟨b2, off, none⟩ m cap2 news n1 n2 hg (by unfold maxLen at hmx; omega) (by
                exact growslice_fits hg hby)
              refine ⟨_, _, jset J k w.heap.size, hrun, mv news _ hcs ?_, ?_⟩
              · rw [hlc]
                rw [Array.toList_append, List.take_append_of_le_length (by simp; omega), List.take_of_length_le (by simp; omega), Array.toList_append]
                exact hcat
              · refine Or.inr ⟨w.heap.size, _, _, e, rfl, by simp [jset], grownCap_ge w _ _ e, grownCap_le_maxLen w _ _ e hmx, heap_alloc_new w.drew _, ?_⟩
                have := grownCap_ge w (n' + m) cap1 e
                simp only [Array.size_append, size_zeroCells, t4]
                simp only [List.size_toArray, n1, List.length_take, Array.length_toList]
                rw [show min (n' * i.size) c.size = n' * i.size by omega, ← Nat.add_mul, ← Nat.add_mul]
                exact Nat.le_trans (by simp) (Nat.mul_le_mul_right _ (by omega : grownCap w (n' + m) cap1 e ≤ n' + m + (grownCap w (n' + m) cap1 e - (n' + m))))
      · cases h
    · cases h
  · cases h
end
end Go.Sea
