/- Tide: what Next tells. -/
import Derived.Test.YtmljnelmnagfoaaJ
import Derived.Test.YtmljnelmnagfoaaY2
set_option linter.unusedVariables false
set_option linter.unusedSimpArgs false
namespace Go.Proofs.Ytmljnelmnagfoaa
open Go.RowKit
attribute [local go_sem] World.cell?_alloc_some frozen_alloc_some isSome_alloc isSome_setCell

theorem need_nd (t : Int) (w : World) : Calls Try.prog 18 #[.int .i64 t] w fun e w' => e = .returned (.bool (nd t)) ∧ w = w' := need_any t w
theorem ws_wn {s st : Int} {n : Nat} {lo hi : Nat → Int} {need : Int} (hv : tval s st n lo hi = true) (hn : nd need = true) : Wn need (hL s st lo) s (s + ((n : Int) - 1) * st + 1) (WS s st n lo hi need) := by
  rw [WS, hv, hn]; exact (win_run (strs_run' (tval_tv hv))).1
theorem we_0 {s st : Int} {n : Nat} {lo hi : Nat → Int} {need : Int} (hv : tval s st n lo hi = true) (hn : nd need = true) : WE s st n lo hi need = 0 := by rw [WE, hv, hn]; rfl
theorem ws_get {ws : List (Int × Int)} {w : Int × Int} (h : w ∈ ws) : ∃ i, i < ws.length ∧ L1 ws i = w.1 ∧ L2 ws i = w.2 := by
  obtain ⟨i, hi, e⟩ := List.getElem_of_mem h
  refine ⟨i, hi, ?_, ?_⟩ <;> simp [L1, L2, List.getElem?_eq_getElem hi, e]
theorem ws_mem {ws : List (Int × Int)} {i : Nat} (hi : i < ws.length) : (L1 ws i, L2 ws i) ∈ ws := by
  have : (L1 ws i, L2 ws i) = ws[i] := by simp [L1, L2, List.getElem?_eq_getElem hi]
  rw [this]; exact List.getElem_mem hi
theorem ws_lt {ws : List (Int × Int)} (h : ws.Pairwise (fun x y => x.2 + 1 < y.1)) {i j : Nat} (hij : i < j) (hj : j < ws.length) : L2 ws i + 1 < L1 ws j := by
  have := List.pairwise_iff_getElem.1 h i j (by omega) hj hij
  have hi : i < ws.length := by omega
  simp only [L1, L2, List.getElem?_eq_getElem hi, List.getElem?_eq_getElem hj]
  exact this
/-- A stretch of minutes that are all high enough lies in one window. -/
theorem wn_one {need : Int} {h : Int → Int} {a b : Int} {ws : List (Int × Int)} (W : Wn need h a b ws) {x y : Int} (hxy : x ≤ y) (ha : a ≤ x) (hb : y < b) (hh : ∀ t, x ≤ t → t ≤ y → need ≤ h t) : ∃ j, j < ws.length ∧ L1 ws j ≤ x ∧ y ≤ L2 ws j := by
  obtain ⟨w, hw, w1, w2⟩ := (W.cov x).2 ⟨ha, by omega, hh x (Int.le_refl _) hxy⟩
  obtain ⟨j, hj, e1, e2⟩ := ws_get hw
  refine ⟨j, hj, by omega, ?_⟩
  rcases Int.lt_or_le (L2 ws j) y with k | k
  · exfalso
    obtain ⟨v, hv, v1, v2⟩ := (W.cov (L2 ws j + 1)).2 ⟨by omega, by omega, hh _ (by omega) (by omega)⟩
    obtain ⟨i, hi, f1, f2⟩ := ws_get hv
    rcases Nat.lt_trichotomy i j with q | q | q
    · have := ws_lt W.gap q hj; omega
    · subst q; omega
    · have := ws_lt W.gap q hi; omega
  · exact k
theorem next_some {s st : Int} {n : Nat} {lo hi : Nat → Int} {need f long : Int} (h : NE s st n lo hi need f long = 0) : WE s st n lo hi need = 0 ∧ tm f = true ∧ tm long = true ∧ ∃ k, k < (WS s st n lo hi need).length ∧ nxO (WS s st n lo hi need).length (L1 (WS s st n lo hi need)) (L2 (WS s st n lo hi need)) f long = some k ∧ NV s st n lo hi need f long = max (L1 (WS s st n lo hi need) k) f ∧ max (L1 (WS s st n lo hi need) k) f ≤ L2 (WS s st n lo hi need) k - long := by
  unfold NE at h
  split at h
  · rename_i g
    refine ⟨g.1, g.2.1, g.2.2, ?_⟩
    cases hk : nxO (WS s st n lo hi need).length (L1 (WS s st n lo hi need)) (L2 (WS s st n lo hi need)) f long with
    | none => rw [hk] at h; cases h
    | some k =>
      have hk' := hk
      rw [nxO, List.find?_range_eq_some] at hk'
      refine ⟨k, by simpa using hk'.2.1, rfl, ?_, of_decide_eq_true hk'.1⟩
      rw [NV, if_pos g, hk]
  · omega
theorem ne_04 {s st : Int} {n : Nat} {lo hi : Nat → Int} {need f long : Int} (hv : tval s st n lo hi = true) (hn : nd need = true) (hf : tm f = true) (hl : tm long = true) : NE s st n lo hi need f long = 0 ∨ NE s st n lo hi need f long = 4 := by
  rw [NE, if_pos ⟨we_0 hv hn, hf, hl⟩]
  cases nxO (WS s st n lo hi need).length (L1 (WS s st n lo hi need)) (L2 (WS s st n lo hi need)) f long <;> simp
theorem next_yes {s st : Int} {n : Nat} {lo hi : Nat → Int} {need f long : Int} (hv : tval s st n lo hi = true) (hn : nd need = true) (h : NE s st n lo hi need f long = 0) :
    HE s st n lo hi (NV s st n lo hi need f long) (NV s st n lo hi need f long + long) = 0 ∧ need ≤ HL s st n lo hi (NV s st n lo hi need f long) (NV s st n lo hi need f long + long) ∧ f ≤ NV s st n lo hi need f long ∧ NV s st n lo hi need f long + long ≤ 10000000 := by
  obtain ⟨_, hf, hl, k, hk, _, e, hle⟩ := next_some h
  obtain ⟨f0, f1⟩ := tm_bd hf
  obtain ⟨g0, g1⟩ := tm_bd hl
  have W := ws_wn hv hn
  have ok := ws_at (ws_ok s st n lo hi need).1 hk
  have mem := ws_mem hk
  have c1 := (W.cov (L1 (WS s st n lo hi need) k)).1 ⟨_, mem, Int.le_refl _, ok.2.1⟩
  have c2 := (W.cov (L2 (WS s st n lo hi need) k)).1 ⟨_, mem, ok.2.1, Int.le_refl _⟩
  have he : HE s st n lo hi (NV s st n lo hi need f long) (NV s st n lo hi need f long + long) = 0 := he_in hv (by omega)
  obtain ⟨_, _, hm, _, _⟩ := he_ok he
  obtain ⟨t, t1, t2, t3⟩ := hm.2
  have c3 := (W.cov t).1 ⟨_, mem, by simp only; omega, by simp only; omega⟩
  exact ⟨he, by omega, by omega, by omega⟩
theorem next_no {s st : Int} {n : Nat} {lo hi : Nat → Int} {need f long other : Int} (hv : tval s st n lo hi = true) (hn : nd need = true) (hf : tm f = true) (hl : tm long = true) (h1 : f ≤ other) (h2 : HE s st n lo hi other (other + long) = 0) (h3 : need ≤ HL s st n lo hi other (other + long)) :
    NE s st n lo hi need f long = 0 ∧ NV s st n lo hi need f long ≤ other := by
  obtain ⟨g0, g1⟩ := tm_bd hl
  have W := ws_wn hv hn
  obtain ⟨_, bd, hm, _, _⟩ := he_ok h2
  obtain ⟨j, hj, j1, j2⟩ := wn_one W bd.2.2.1 bd.2.2.2.1 (by omega) (fun t t1 t2 => by have := hm.1 t t1 t2; omega)
  have hx : nxC (L1 (WS s st n lo hi need)) (L2 (WS s st n lo hi need)) f long j = true := decide_eq_true (by omega)
  cases hk : nxO (WS s st n lo hi need).length (L1 (WS s st n lo hi need)) (L2 (WS s st n lo hi need)) f long with
  | none =>
    rw [nxO, List.find?_range_eq_none] at hk
    have := hk j hj
    rw [hx] at this; cases this
  | some k =>
    have hk' := hk
    rw [nxO, List.find?_range_eq_some] at hk'
    have hkj : k ≤ j := by
      rcases Nat.lt_or_ge j k with q | q
      · have := hk'.2.2 j q; rw [hx] at this; cases this
      · exact q
    have e0 : NE s st n lo hi need f long = 0 := by rw [NE, if_pos ⟨we_0 hv hn, hf, hl⟩, hk]
    have e1 : NV s st n lo hi need f long = max (L1 (WS s st n lo hi need) k) f := by rw [NV, if_pos ⟨we_0 hv hn, hf, hl⟩, hk]
    refine ⟨e0, ?_⟩
    rw [e1]
    rcases Nat.lt_or_ge k j with q | q
    · have := ws_lt W.gap q hj
      have := ws_at (ws_ok s st n lo hi need).1 (show k < (WS s st n lo hi need).length by omega)
      omega
    · obtain rfl : k = j := by omega
      omega

end Go.Proofs.Ytmljnelmnagfoaa
