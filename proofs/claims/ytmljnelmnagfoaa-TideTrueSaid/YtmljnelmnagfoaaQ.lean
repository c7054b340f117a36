/- Tide: windows as sets of minutes. -/
import Derived.Test.YtmljnelmnagfoaaP
set_option linter.unusedVariables false
set_option linter.unusedSimpArgs false
namespace Go.Proofs.Ytmljnelmnagfoaa
open Go.RowKit
attribute [local go_sem] World.cell?_alloc_some frozen_alloc_some isSome_alloc isSome_setCell

structure Wn (need : Int) (h : Int → Int) (a b : Int) (ws : List (Int × Int)) : Prop where
  cov : ∀ t, (∃ w ∈ ws, w.1 ≤ t ∧ t ≤ w.2) ↔ (a ≤ t ∧ t < b ∧ need ≤ h t)
  ok : ∀ w ∈ ws, w.1 ≤ w.2
  gap : ws.Pairwise (fun x y => x.2 + 1 < y.1)
theorem wn_uniq : ∀ (ws ws' : List (Int × Int)), (∀ w ∈ ws, w.1 ≤ w.2) → (∀ w ∈ ws', w.1 ≤ w.2) → ws.Pairwise (fun x y => x.2 + 1 < y.1) → ws'.Pairwise (fun x y => x.2 + 1 < y.1) →
    (∀ t : Int, (∃ w ∈ ws, w.1 ≤ t ∧ t ≤ w.2) ↔ (∃ w ∈ ws', w.1 ≤ t ∧ t ≤ w.2)) → ws = ws'
  | [], [], _, _, _, _, _ => rfl
  | [], w :: ws', _, o, _, _, h => by
    obtain ⟨v, hv, _⟩ := (h w.1).2 ⟨w, by simp, Int.le_refl _, o w (by simp)⟩
    cases hv
  | w :: ws, [], o, _, _, _, h => by
    obtain ⟨v, hv, _⟩ := (h w.1).1 ⟨w, by simp, Int.le_refl _, o w (by simp)⟩
    cases hv
  | w :: ws, w' :: ws', o, o', g, g', h => by
    rw [List.pairwise_cons] at g g'
    have low : ∀ v ∈ w :: ws, w.1 ≤ v.1 := fun v hv => by
      rcases List.mem_cons.1 hv with e | e
      · subst e; exact Int.le_refl _
      · have := g.1 v e; have := o w (by simp); omega
    have low' : ∀ v ∈ w' :: ws', w'.1 ≤ v.1 := fun v hv => by
      rcases List.mem_cons.1 hv with e | e
      · subst e; exact Int.le_refl _
      · have := g'.1 v e; have := o' w' (by simp); omega
    have e1 : w.1 = w'.1 := by
      obtain ⟨v, hv, a1, a2⟩ := (h w.1).1 ⟨w, by simp, Int.le_refl _, o w (by simp)⟩
      obtain ⟨u, hu, b1, b2⟩ := (h w'.1).2 ⟨w', by simp, Int.le_refl _, o' w' (by simp)⟩
      have := low' v hv; have := low u hu; omega
    have e2 : w.2 = w'.2 := by
      rcases Int.lt_trichotomy w.2 w'.2 with k | k | k
      · obtain ⟨v, hv, a1, a2⟩ := (h (w.2 + 1)).2 ⟨w', by simp, by have := o w (by simp); omega, by omega⟩
        rcases List.mem_cons.1 hv with e | e
        · subst e; omega
        · have := g.1 v e; omega
      · exact k
      · obtain ⟨v, hv, a1, a2⟩ := (h (w'.2 + 1)).1 ⟨w, by simp, by have := o' w' (by simp); omega, by omega⟩
        rcases List.mem_cons.1 hv with e | e
        · subst e; omega
        · have := g'.1 v e; omega
    have e3 : ws = ws' := by
      refine wn_uniq ws ws' (fun v hv => o v (by simp [hv])) (fun v hv => o' v (by simp [hv])) g.2 g'.2 (fun t => ⟨fun ⟨v, hv, a1, a2⟩ => ?_, fun ⟨v, hv, a1, a2⟩ => ?_⟩)
      · obtain ⟨u, hu, b1, b2⟩ := (h t).1 ⟨v, by simp [hv], a1, a2⟩
        rcases List.mem_cons.1 hu with e | e
        · subst e; have := g.1 v hv; omega
        · exact ⟨u, e, b1, b2⟩
      · obtain ⟨u, hu, b1, b2⟩ := (h t).2 ⟨v, by simp [hv], a1, a2⟩
        rcases List.mem_cons.1 hu with e | e
        · subst e; have := g'.1 v hv; omega
        · exact ⟨u, e, b1, b2⟩
    have e0 : w = w' := Prod.ext e1 e2
    rw [e0, e3]
theorem Wn.uniq {need : Int} {h : Int → Int} {a b : Int} {ws ws' : List (Int × Int)} (x : Wn need h a b ws) (y : Wn need h a b ws') : ws = ws' :=
  wn_uniq ws ws' x.ok y.ok x.gap y.gap fun t => (x.cov t).trans (y.cov t).symm
theorem win_run {need : Int} {hl hh : Int → Int} {a b : Int} {l : List Q4} (h : Run hl hh a b l) : Wn need hl a b (win need l) ∧ ∀ w ∈ win need l, w.2 < b := by
  induction h with
  | nil => exact ⟨⟨fun t => ⟨fun ⟨w, hw, _⟩ => (by cases hw), fun ⟨h1, h2, _⟩ => (by omega)⟩, fun w hw => (by cases hw), List.Pairwise.nil⟩, fun w hw => (by cases hw)⟩
  | @snoc b l x h e1 e2 e3 ih =>
    obtain ⟨xa, xc, xl, xh⟩ := x
    simp only at e1 e2 e3 ⊢
    subst e1
    obtain ⟨⟨c, o, g⟩, e⟩ := ih
    have hab := h.le
    rw [win_snoc]
    by_cases k : xl < need
    · rw [addW_skip k]
      refine ⟨⟨fun t => (c t).trans ⟨fun ⟨h1, h2, h3⟩ => ⟨h1, by omega, h3⟩, fun ⟨h1, h2, h3⟩ => ⟨h1, ?_, h3⟩⟩, o, g⟩, fun w hw => by have := e w hw; omega⟩
      rcases Int.lt_or_le t xa with q | q
      · exact q
      · have := (e3 t q (by omega)).1; omega
    · have hin : ∀ t, xa ≤ t → t ≤ xc → need ≤ hl t := fun t h1 h2 => by have := (e3 t h1 h2).1; omega
      generalize win need l = ws at *
      rcases List.eq_nil_or_concat ws with rfl | ⟨f, ⟨l1, l2⟩, rfl⟩
      · rw [addW_nil k]
        refine ⟨⟨fun t => ⟨fun ⟨w, hw, h1, h2⟩ => ?_, fun ⟨h1, h2, h3⟩ => ⟨(xa, xc), by simp, ?_, ?_⟩⟩, fun w hw => by (simp at hw; subst hw; exact e2), List.pairwise_singleton _ _⟩, fun w hw => by (simp at hw; subst hw; simp only; omega)⟩
        · simp at hw; subst hw; simp only at h1 h2; exact ⟨by omega, by omega, hin t h1 h2⟩
        · simp only
          rcases Int.lt_or_le t xa with q | q
          · obtain ⟨w, hw, _⟩ := (c t).2 ⟨h1, q, h3⟩; cases hw
          · exact q
        · simp only; omega
      · rw [List.concat_eq_append] at *
        have el := e (l1, l2) (by simp)
        have ol := o (l1, l2) (by simp)
        simp only at el ol
        rw [List.pairwise_append] at g
        obtain ⟨g1, _, g3⟩ := g
        by_cases k2 : l2 + 1 = xa
        · rw [addW_ext k k2]
          refine ⟨⟨fun t => ⟨fun ⟨w, hw, h1, h2⟩ => ?_, fun ⟨h1, h2, h3⟩ => ?_⟩, fun w hw => ?_, ?_⟩, fun w hw => ?_⟩
          · rcases List.mem_append.1 hw with q | q
            · obtain ⟨a1, a2, a3⟩ := (c t).1 ⟨w, by simp [q], h1, h2⟩; exact ⟨a1, by omega, a3⟩
            · simp at q; subst q; simp only at h1 h2
              rcases Int.lt_or_le t xa with q | q
              · obtain ⟨a1, a2, a3⟩ := (c t).1 ⟨(l1, l2), by simp, h1, by simp only; omega⟩; exact ⟨a1, by omega, a3⟩
              · exact ⟨by omega, by omega, hin t q h2⟩
          · rcases Int.lt_or_le t xa with q | q
            · obtain ⟨w, hw, a1, a2⟩ := (c t).2 ⟨h1, q, h3⟩
              rcases List.mem_append.1 hw with r | r
              · exact ⟨w, by simp [r], a1, a2⟩
              · simp at r; subst r; exact ⟨(l1, xc), by simp, a1, by simp only at a2 ⊢; omega⟩
            · exact ⟨(l1, xc), by simp, by simp only; omega, by simp only; omega⟩
          · rcases List.mem_append.1 hw with r | r
            · exact o w (by simp [r])
            · simp at r; subst r; simp only; omega
          · rw [List.pairwise_append]
            exact ⟨g1, List.pairwise_singleton _ _, fun x hx y hy => by simp at hy; subst hy; exact g3 x hx (l1, l2) (by simp)⟩
          · rcases List.mem_append.1 hw with r | r
            · have := e w (by simp [r]); omega
            · simp at r; subst r; simp only; omega
        · rw [addW_new k k2]
          refine ⟨⟨fun t => ⟨fun ⟨w, hw, h1, h2⟩ => ?_, fun ⟨h1, h2, h3⟩ => ?_⟩, fun w hw => ?_, ?_⟩, fun w hw => ?_⟩
          · rcases List.mem_append.1 hw with q | q
            · obtain ⟨a1, a2, a3⟩ := (c t).1 ⟨w, q, h1, h2⟩; exact ⟨a1, by omega, a3⟩
            · simp at q; subst q; simp only at h1 h2; exact ⟨by omega, by omega, hin t h1 h2⟩
          · rcases Int.lt_or_le t xa with q | q
            · obtain ⟨w, hw, a1, a2⟩ := (c t).2 ⟨h1, q, h3⟩; exact ⟨w, List.mem_append_left _ hw, a1, a2⟩
            · exact ⟨(xa, xc), by simp, by simp only; omega, by simp only; omega⟩
          · rcases List.mem_append.1 hw with r | r
            · exact o w r
            · simp at r; subst r; exact e2
          · rw [List.pairwise_append]
            refine ⟨by rw [List.pairwise_append]; exact ⟨g1, List.pairwise_singleton _ _, g3⟩, List.pairwise_singleton _ _, fun x hx y hy => ?_⟩
            simp at hy; subst hy
            simp only
            rcases List.mem_append.1 hx with r | r
            · have := g3 x r (l1, l2) (by simp); simp only at this; omega
            · simp at r; subst r; simp only; omega
          · rcases List.mem_append.1 hw with r | r
            · have := e w r; omega
            · simp at r; subst r; simp only; omega
/-- The minutes of a table, each for itself. -/
def mins (h : Int → Int) (s : Int) : Nat → List Q4
  | 0 => []
  | k + 1 => mins h s k ++ [(s + k, s + k, h (s + k), h (s + k))]
theorem mins_run (h : Int → Int) (s : Int) : ∀ k : Nat, Run h h s (s + k) (mins h s k)
  | 0 => (Run.nil s).to (by omega)
  | k + 1 => (Run.snoc (s + (k : Int), s + (k : Int), h (s + k), h (s + k)) (mins_run h s k) rfl (Int.le_refl _) (fun t h1 h2 => by
      have : t = s + (k : Int) := by simp only at h1 h2; omega
      subst this; exact ⟨rfl, rfl⟩)).to (by simp only; omega)

end Go.Proofs.Ytmljnelmnagfoaa
