/- What an append leaves, in a round: where the slice lies then. -/
import Derived.Test.YtmljnelmnagfoaaLI
import Derived.Laws.OwnMore
set_option linter.unusedVariables false
set_option linter.unusedSimpArgs false
namespace Go.Proofs.Ytmljnelmnagfoaa
open Go.RowKit

section
variable {P : Program}
/-- The slice lies where it lay, or in a new block. -/
theorem append_block (w : World) (base : Nat) (t ty e : TypeId) (i : TypeInfo) (z : Value) (size bytes : Nat) (ht : P.underlying t = some (.slice e)) (hi : P.info? e = some i) (hz : i.zero = some z)
    (hsize : i.size = size) (hby : i.bytes = bytes) (hzs : z.cells.size = size) (hsz : 0 < size) (v : Value) (n : Nat) (xs : List Value) (hown : w.ownsRow base e size v n xs)
    (a : Addr) (m c : Nat) (news : List Value) (hl : news.length = m * size) (hnews : ∀ j u, news[j]? = some u → w.cell? (a.add j) = some u) (h1 : ∀ u ∈ news, u.oneCell' = true)
    (h63 : n + m ≤ maxLen) (hbytes : (n + m) * bytes ≤ 140737488355328) (hm : 0 < m) {v' : Value} {w' : World} (hr : (Builtin.append_ #[t, t] ty #[v, .slice (some a) m c]).run P w = .ok v' w') :
    v'.ownBlock = v.ownBlock ∨ v'.ownBlock = some w.heap.size := by
  subst hsize
  subst hby
  have hsmall : n + m ≤ 9223372036854775807 := by simp only [maxLen] at h63; omega
  rcases hown.2 with ⟨rfl, rfl⟩ | ⟨g, cap, cur, rfl, hbg, hg, hnc, hcm, hcs, htake⟩
  · rw [run_append_nil (P := P) w t ty e i z ht hi hz a m c news hl hnews hm (by omega) (by have hb := hbytes; simp only [Nat.zero_add] at hb; omega)] at hr
    injection hr with h1 h2
    subst h1
    exact Or.inr rfl
  · by_cases hroom : n + m ≤ cap
    · have hfit : n * i.size + news.length ≤ cur.size := by rw [hl, hcs, ← Nat.add_mul]; exact Nat.mul_le_mul_right _ hroom
      rw [run_append_room (P := P) w t ty e i ht hi g n cap cur hg a m c news hl hnews h1 hroom hfit] at hr
      injection hr with h1 h2
      subst h1
      exact Or.inl rfl
    · have holds : ∀ j u, xs[j]? = some u → w.cell? ((⟨g, 0, none⟩ : Addr).add j) = some u := hown.cells (g := g) rfl
      rw [run_append_grow (P := P) w t ty e i z ht hi hz ⟨g, 0, none⟩ n cap xs hown.1 holds a m c news hl hnews (by omega) (by omega) (growslice_fits (by omega) hbytes)] at hr
      injection hr with h1 h2
      subst h1
      exact Or.inr rfl
end
section
variable {F : Fence} {n : Nat} {P : Program}
theorem wpListIn_append_row (w : World) {ops : Array Oper} {rest : List Oper} {o : Oper} {a : Act} {Q : Exit → Act → World → Prop}
    (hg : o.guard = none) (s x : Operand) (t : TypeId) (hop : o.op = Op.call { callee := Callee.builtin Builtin.append, args := #[s, x], argTypes := #[t, t] })
    (base : Nat) (e : TypeId) (i : TypeInfo) (z : Value) (size bytes : Nat) (h1 : P.underlying t = some (.slice e)) (h2 : P.info? e = some i) (h3 : i.zero = some z) (h4 : i.size = size) (h5 : i.bytes = bytes) (h6 : z.cells.size = size) (h7 : 0 < size)
    (v : Value) (k : Nat) (xs : List Value) (hs : a.eval s = v) (hown : w.ownsRow base e size v k xs) (ad : Addr) (m c : Nat) (news : List Value) (hx : a.eval x = .slice (some ad) m c) (hn : news.length = m * size)
    (hc : ∀ j u, news[j]? = some u → w.cell? (ad.add j) = some u) (h1c : ∀ u ∈ news, u.oneCell' = true) (b1 : k + m ≤ maxLen) (b2 : (k + m) * bytes ≤ 140737488355328) (b3 : base ≤ w.heap.size) (hm : 0 < m)
    (hK : ∀ v' w', w'.ownsRow base e size v' (k + m) (xs ++ news) → w.grownBy w' v.ownBlock → (v'.ownBlock = v.ownBlock ∨ v'.ownBlock = some w.heap.size) → wpListIn F n P ops Q rest (a.put o.dst v') w') :
    wpListIn F n P ops Q (o :: rest) a w := by
  refine wpListIn_plain hg fun K hK' => ?_
  obtain ⟨v', w', hrun, r1, r2, r3⟩ := run_append_own (P := P) w base t o.type e i z size bytes h1 h2 h3 h4 h5 h6 h7 v k xs hown ad m c news hn hc h1c b1 b2 b3
  have r4 := append_block w base t o.type e i z size bytes h1 h2 h3 h4 h5 h6 h7 v k xs hown ad m c news hn hc h1c b1 b2 hm hrun
  unfold Oper.wpIn
  refine ⟨?_, ?_⟩
  · simp [Oper.about, hop, resolve, Target.leads, Sem.run_pure]
  · rw [Oper.semAt_plain F _ _ (by rw [hop]; intro c hc'; cases hc')]
    simp [execOp, hop, resolve, invoke, builtin, hs, hx, hrun, Result.andThen]
    exact hK' _ _ (hK v' w' r1 r2 r4)
end
theorem rowAt_box {bO : Nat} {W : World} {t : TypeId} {v : Value} (h : Boxed W bO t v) : rowAt bO W = v.ownBlock := by unfold rowAt; rw [h.cell]; rfl
/-- 'out = append(out, ..)' in a round, behind the append's two words. -/
theorem KK.append {n₀ bO B Bk : Nat} {X W w1 : World} {t e : TypeId} {size : Nat} {v v' : Value} {k m : Nat} {xs ys : List Value} {tmp : Obj} (hX : KK n₀ bO B Bk X W)
    (hv : Boxed W bO t v) (hte : t ≠ e) (hrow : W.ownsRow n₀ e size v k xs) (hn₀ : n₀ ≤ W.heap.size) (hB : n₀ ≤ bO) (hb : bO < B)
    (hown' : w1.ownsRow n₀ e size v' m ys) (hgrow : (W.alloc tmp).grownBy w1 v.ownBlock) (hblk : v'.ownBlock = v.ownBlock ∨ v'.ownBlock = some (W.alloc tmp).heap.size) :
    Boxed w1 bO t v ∧ Boxed (w1.setCell ⟨bO, 0, none⟩ v') bO t v' ∧ (w1.setCell ⟨bO, 0, none⟩ v').ownsRow n₀ e size v' m ys ∧ KK n₀ bO B Bk X (w1.setCell ⟨bO, 0, none⟩ v') := by
  obtain ⟨a1, a2, a3, a4, a5⟩ := hv.appended hte hrow hn₀ hB hown' hgrow
  refine ⟨a1, a2, a3, hX.trans ⟨a4.from _, a5, fun s => ?_, fun s j hj => ?_, fun s j c t' f hj ht hr hc => ?_⟩⟩
  · intro j hj
    rw [rowAt_box a2] at hj
    exact (a3.lt j hj).2
  · rw [rowAt_box a2] at hj
    rw [rowAt_box hv]
    rcases hblk with h | h
    · exact Or.inl (h ▸ hj)
    · rw [h] at hj; cases hj; exact Or.inr (by simp)
  · rw [rowAt_box hv] at hr
    have hlt := (Array.getElem?_eq_some_iff.1 hc).1
    rw [setCell_block _ _ _ _ _ (by omega), hgrow.block j (by simp; omega) (fun e => hr e.symm)]
    exact (below_new' W tmp).block j hlt
/-- A store into the slice's own row. -/
theorem KK.row {n₀ bO B Bk : Nat} {X W : World} (h : KK n₀ bO B Bk X W) {g o : Nat} (u : Value) (hn : n₀ ≤ g) (hr : rowAt bO W = some g) (hne : g ≠ bO) : KK n₀ bO B Bk X (W.setCell ⟨g, o, none⟩ u) := by
  have hr' := rowAt_other (W := W) (o := o) u (Or.inl hne)
  refine h.trans ⟨(KeepsOthers.setCell _ _ _).from _, (Below.refl _ _).setCell (p := ⟨g, o, none⟩) hn u, fun s k hk => ?_, fun s k hk => Or.inl (hr' ▸ hk), fun s k c' t f' hk ht hne' _ => setCell_block _ _ _ _ _ (fun e => hne' (e ▸ hr))⟩
  rw [hr'] at hk; have := s k hk; simpa using this
end Go.Proofs.Ytmljnelmnagfoaa
