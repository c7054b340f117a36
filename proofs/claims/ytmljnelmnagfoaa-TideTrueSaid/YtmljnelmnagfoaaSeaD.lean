/- Append on abstract states. -/
import Derived.Test.YtmljnelmnagfoaaSeaC
set_option linter.unusedVariables false
set_option linter.unusedSimpArgs false
namespace Go.Sea
open Go.RowKit

theorem purgeH_hset (i : Nat) : ∀ (h : List (Option (List CV))) (k : Nat) (x : List CV), purgeH i (hset h k x) = hset (purgeH i h) k (purgeC i x)
  | [], 0, x => rfl
  | [], k + 1, x => by have := purgeH_hset i [] k x; simp only [hset, purgeH, List.map_cons, List.map_nil, Option.map_none, List.cons.injEq, true_and] at this ⊢; exact this
  | _ :: h, 0, x => rfl
  | y :: h, k + 1, x => by have := purgeH_hset i h k x; simp only [hset, purgeH, List.map_cons, List.cons.injEq, true_and] at this ⊢; exact this
theorem purgeC_ok (i : Nat) (cs : List CV) : ∀ y, y ∈ purgeC i cs → y.ok (· ≠ i) := by
  intro y hy
  obtain ⟨c, _, rfl⟩ := List.mem_map.1 hy
  exact CV.purge_ok i c
theorem all2_purge {w : World} {J : Nat → Option Nat} {Z : Nat → Prop} {l : List Value} {m : List CV} (i : Nat) (h : All2 (CRel w J Z) l m) : All2 (CRel w J Z) l (purgeC i m) :=
  All2.map_right.2 (h.mono fun _ _ => CRel.purge i)

theorem all2_drew {w : World} {J : Nat → Option Nat} {Z : Nat → Prop} {l : List Value} {m : List CV} (h : All2 (CRel w J Z) l m) : All2 (CRel w.drew J Z) l m :=
  have G : Grow (fun _ => True) w J Z w.drew J Z := ⟨fun _ _ _ h => h, fun _ h => h, fun _ _ _ => rfl, fun _ _ _ _ c _ _ h => ⟨c, h, rfl⟩⟩
  h.mono fun _ y hy => CRel.grow G y.ok_all hy
section
variable {w0 : World} {Z0 : Fr} {J J' : Nat → Option Nat} {Z Z' : Nat → Prop} {s s' : AS} {a : Act} {w w' : World} {P : Program}
theorem run_append_room' (t ty e e' : TypeId) (i : TypeInfo) (ht : P.underlying t = some (.slice e)) (hi : P.info? e = some i)
    (g sLen sCap : Nat) (cur : Array Value) (hg : w.heap[g]? = some (.cells cur e' (0, 0)))
    (a : Addr) (m c : Nat) (news : List Value) (hl : news.length = m * i.size) (hnews : ∀ (j : Nat) u, news[j]? = some u → w.cell? (a.add j) = some u) (h1 : ∀ u ∈ news, u.oneCell' = true)
    (hroom : sLen + m ≤ sCap) (hfit : sLen * i.size + news.length ≤ cur.size) :
    (Builtin.append_ #[t, t] ty #[.slice (some ⟨g, 0, none⟩) sLen sCap, .slice (some a) m c]).run P w =
      .ok (.slice (some ⟨g, 0, none⟩) (sLen + m) sCap) (w.setRow g (cur.toList.take (sLen * i.size) ++ news ++ cur.toList.drop (sLen * i.size + news.length)).toArray) := by
  have hf := run_firstCells_some (P := P) w i.size m a m c news hl hnews
  have hst := run_storeCells_at P g (sLen * i.size) e' news 0 cur w hg (by simpa using hfit) h1
  simp only [Nat.add_zero] at hst
  simp [Builtin.append_, run_underlying ht, sizeOf, typeInfo, hi, Builtin.lenOf, hroom, hf, Addr.add_lit, hst]

theorem slc_cells (R : Rel w0 Z0 J Z s a w) {v : Value} {j off m E : Nat} {ns : List CV} (hv : CRel w J Z v (.slc j off m E)) (hn : hget s.heap j = some ns) (hl : off + m * E ≤ ns.length) :
    ∃ b cap news, v = .slice (some ⟨b, off, none⟩) m cap ∧ news.length = m * E ∧ (∀ (k : Nat) u, news[k]? = some u → w.cell? ((⟨b, off, none⟩ : Addr).add k) = some u) ∧ (∀ u ∈ news, u.oneCell' = true) ∧ All2 (CRel w J Z) news ((ns.drop off).take (m * E)) := by
  obtain ⟨b, cap, c, e, rfl, hj, hc1, hc2, hb, hs⟩ := hv
  obtain ⟨b', c', e', g1, g2, g3⟩ := R.cells j ns hn
  obtain rfl : b = b' := by rw [hj] at g1; exact Option.some.inj g1
  rw [hb] at g2
  obtain ⟨rfl, rfl⟩ : c = c' ∧ e = e' := by simp at g2; exact g2
  have hlen := g3.length
  rw [List.length_take] at hlen
  have h3 := (g3.drop off).take (m * E)
  rw [List.drop_take, List.take_take, show min (m * E) (ns.length - off) = m * E by omega] at h3
  refine ⟨b, cap, (c.toList.drop off).take (m * E), rfl, by simp at hlen ⊢; omega, fun k u hk => ?_, fun u hu => ?_, h3⟩
  · rw [Addr.add_lit, cell_of_row w b (off + k) c e (0, 0) hb]
    rw [List.getElem?_take] at hk
    split at hk
    · rw [List.getElem?_drop] at hk; simpa using hk
    · cases hk
  · obtain ⟨q, hq, e⟩ := List.getElem_of_mem hu
    have : q < ((ns.drop off).take (m * E)).length := by rw [← h3.length]; exact hq
    obtain ⟨x, hx, hr⟩ := h3.get (List.getElem?_eq_getElem this)
    rw [List.getElem?_eq_getElem hq, Option.some.injEq] at hx
    rw [← e, hx]; exact CRel.one hr

theorem run_app (R : Rel w0 Z0 J Z s a w) {t e ty : TypeId} {n b nid : Nat} {v1 v2 : Value} {x1 x2 : TV} {nd : Prop} {r : AV} {ef : Eff} (hh : hget s.heap nid = none) (ht : slD P t = some (n, b, e)) (h1 : TRel w J Z v1 x1) (h2 : TRel w J Z v2 x2) (h : appF nid n b (hget s.heap) x2 x1 = some (nd, r, ef)) (hn : nd) :
    ∃ u w' J', (Builtin.append_ #[t, t] ty #[v1, v2]).run P w = .ok u w' ∧ Rel w0 Z0 J' Z (s.eff nid ef) a w' ∧ ARel w' J' Z u r := by
  obtain ⟨i, z, t1, t2, t3, t4, t5, t6, t7⟩ := slD_spec ht
  subst t5 t6
  unfold appF at h
  split at h
  · -- nil
    split at h
    · rename_i j off m E
      split at h
      · rename_i ns hns
        split at h
        · rename_i hE
          subst hE
          simp only [Option.some.injEq, Prod.mk.injEq] at h
          obtain ⟨rfl, rfl, rfl⟩ := h
          obtain ⟨hm, hl, hby, hmx⟩ := hn
          obtain ⟨b2, cap2, news, rfl, n1, n2, n3, n4⟩ := slc_cells R h2 hns hl
          obtain rfl : v1 = .slice none 0 0 := by cases h1; rfl
          have hrun := run_append_nil (P := P) w t ty e i z t1 t2 t3 ⟨b2, off, none⟩ m cap2 news n1 n2 hm (by unfold maxLen at hmx; omega) (by omega)
          refine ⟨_, _, jset J nid w.heap.size, hrun, ?_, ?_⟩
          · have hd := R.drew
            refine hd.new hh (hget_hset_same _ _ _) (fun q hq => hget_hset_ne _ _ _ _ hq) ?_
            have hl2 := n4.length
            refine all2_drew ?_
            rw [Array.toList_append, List.take_append_of_le_length (by simp; omega)]
            rw [List.take_of_length_le (by simp; omega)]
            exact n4
          · refine ⟨w.heap.size, _, _, e, rfl, by simp [jset], grownCap_ge w m 0 e, grownCap_le_maxLen w m 0 e hmx, heap_alloc_new w.drew _, ?_⟩
            have := grownCap_ge w m 0 e
            simp only [Array.size_append, size_zeroCells, t4]
            simp only [List.size_toArray, n1]
            rw [← Nat.add_mul]
            exact Nat.le_trans (by simp) (Nat.mul_le_mul_right _ (by omega : grownCap w m 0 e ≤ m + (grownCap w m 0 e - m)))
        · cases h
      · cases h
    · cases h
  · -- own
    rename_i k n' E
    split at h
    · rename_i j off m E'
      split at h
      · rename_i cs ns hcs hns
        split at h
        · rename_i hE
          obtain ⟨rfl, rfl⟩ := hE
          simp only [Option.some.injEq, Prod.mk.injEq] at h
          obtain ⟨rfl, rfl, rfl⟩ := h
          obtain ⟨hl1, hl, hby, hmx⟩ := hn
          obtain ⟨b2, cap2, news, rfl, n1, n2, n3, n4⟩ := slc_cells R h2 hns hl
          obtain ⟨b1, cap1, c, e1, rfl, hj, hc1, hc2, hb, hs⟩ := h1
          obtain ⟨b', c', e', g1, g2, g3⟩ := R.cells k cs hcs
          obtain rfl : b1 = b' := by rw [hj] at g1; exact Option.some.inj g1
          rw [hb] at g2
          obtain ⟨rfl, rfl⟩ : c = c' ∧ e1 = e' := by simp at g2; exact g2
          have hlen := g3.length
          rw [List.length_take] at hlen
          simp only [Array.length_toList] at hlen
          rw [hl1] at g3 hlen
          have hl2 := n4.length
          have hcat : All2 (CRel w J Z) (c.toList.take (n' * i.size) ++ news) (cs ++ (ns.drop off).take (m * i.size)) := g3.append n4
          have hlc : (cs ++ (ns.drop off).take (m * i.size)).length = n' * i.size + m * i.size := by simp only [List.length_append]; omega
          by_cases hroom : n' + m ≤ cap1
          · have hfit : n' * i.size + news.length ≤ c.size := by
              rw [n1, ← Nat.add_mul]; exact Nat.le_trans (Nat.mul_le_mul_right _ hroom) (by omega)
            have hrun := run_append_room' (P := P) (w := w) t ty e e1 i t1 t2 b1 n' cap1 c hb ⟨b2, off, none⟩ m cap2 news n1 n2 n3 hroom hfit
            refine ⟨_, _, J, hrun, ?_, ?_⟩
            · have hN : (c.toList.take (n' * i.size) ++ news ++ c.toList.drop (n' * i.size + news.length)).toArray.size = c.size := by simp; omega
              have R1 := Rel.set (c' := (c.toList.take (n' * i.size) ++ news ++ c.toList.drop (n' * i.size + news.length)).toArray) R hcs hj hb hN (hget_hset_same s.heap k (cs ++ (ns.drop off).take (m * i.size))) (fun q hq => hget_hset_ne _ _ _ _ hq) (by
                rw [hlc]
                show All2 _ (List.take _ (c.toList.take (n' * i.size) ++ news ++ c.toList.drop (n' * i.size + news.length))) _
                rw [List.take_append_of_le_length (by simp; omega), List.take_of_length_le (by simp; omega)]
                exact hcat)
              have R2 := R1.purge k
              simp only [AS.purge, purgeH_hset] at R2
              exact R2
            · refine ⟨b1, cap1, _, e1, rfl, hj, hroom, hc2, setRow_heap w b1 c _ e1 (0, 0) hb, ?_⟩
              have : (c.toList.take (n' * i.size) ++ news ++ c.toList.drop (n' * i.size + news.length)).toArray.size = c.size := by simp; omega
              rw [this]; exact hs
          · have hg : cap1 < n' + m := by omega
            have holds : ∀ (q : Nat) u, (c.toList.take (n' * i.size))[q]? = some u → w.cell? ((⟨b1, 0, none⟩ : Addr).add q) = some u := fun q u hq => by
              rw [Addr.add_lit, cell_of_row w b1 (0 + q) c e1 (0, 0) hb]
              rw [List.getElem?_take] at hq
              split at hq
              · simpa using hq
              · cases hq
            have hrun := run_append_grow (P := P) w t ty e i z t1 t2 t3 ⟨b1, 0, none⟩ n' cap1 (c.toList.take (n' * i.size)) (by simp; omega) holds ⟨b2, off, none⟩ m cap2 news n1 n2 hg (by unfold maxLen at hmx; omega) (by
              exact growslice_fits hg hby)
            refine ⟨_, _, jset J k w.heap.size, hrun, ?_, ?_⟩
            · have R1 := (R.purge k).drew
              refine Rel.move (s := s.purge k) (cs := purgeC k (cs ++ (ns.drop off).take (m * i.size))) R1 ?_ (hget_hset_same _ _ _) (fun q hq => hget_hset_ne _ _ _ _ hq) (fun t => ?_) (fun t => ?_) (fun q x hq y hy => ?_) ?_
              · simp [AS.purge, hget_purge, hcs]
              · simp only [AS.purge, AS.get, lk_purge]; exact AV.purge_ok k _
              · simp only [AS.purge, lk_purge]; exact AV.purge_ok k _
              · by_cases hqk : q = k
                · subst hqk
                  rw [hget_hset_same, Option.some.injEq] at hq
                  subst hq
                  exact purgeC_ok q _ y hy
                · rw [hget_hset_ne _ _ _ _ hqk] at hq
                  simp only [AS.purge, hget_purge, Option.map_eq_some_iff] at hq
                  obtain ⟨cs0, _, rfl⟩ := hq
                  exact purgeC_ok k _ y hy
              · refine all2_drew ?_
                rw [show (purgeC k (cs ++ (ns.drop off).take (m * i.size))).length = n' * i.size + m * i.size by rw [purgeC, List.length_map, hlc]]
                rw [Array.toList_append, List.take_append_of_le_length (by simp; omega), List.take_of_length_le (by simp; omega), Array.toList_append]
                exact all2_purge k hcat
            · refine ⟨w.heap.size, _, _, e, rfl, by simp [jset], grownCap_ge w _ _ e, grownCap_le_maxLen w _ _ e hmx, heap_alloc_new w.drew _, ?_⟩
              have := grownCap_ge w (n' + m) cap1 e
              simp only [Array.size_append, size_zeroCells, t4]
              simp only [List.size_toArray, n1, List.length_take, Array.length_toList]
              rw [show min (n' * i.size) c.size = n' * i.size by omega, ← Nat.add_mul, ← Nat.add_mul]
              exact Nat.le_trans (by simp) (Nat.mul_le_mul_right _ (by omega : grownCap w (n' + m) cap1 e ≤ n' + m + (grownCap w (n' + m) cap1 e - (n' + m))))
        · cases h
      · cases h
    · cases h
  · cases h
end
end Go.Sea
