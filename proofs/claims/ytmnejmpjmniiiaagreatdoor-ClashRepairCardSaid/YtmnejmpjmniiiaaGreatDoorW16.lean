/- Part 16 of 16: contracts of functions and plain laws for the root text. No condition. -/
import Derived.Test.YtmnejmpjmniiiaaGreatDoorW01
import Derived.Test.YtmnejmpjmniiiaaGreatDoorW02
import Derived.Test.YtmnejmpjmniiiaaGreatDoorW03
import Derived.Test.YtmnejmpjmniiiaaGreatDoorW04
import Derived.Test.YtmnejmpjmniiiaaGreatDoorW05
import Derived.Test.YtmnejmpjmniiiaaGreatDoorW06
import Derived.Test.YtmnejmpjmniiiaaGreatDoorW07
import Derived.Test.YtmnejmpjmniiiaaGreatDoorW08
import Derived.Test.YtmnejmpjmniiiaaGreatDoorW09
import Derived.Test.YtmnejmpjmniiiaaGreatDoorW10
import Derived.Test.YtmnejmpjmniiiaaGreatDoorW11
import Derived.Test.YtmnejmpjmniiiaaGreatDoorW12
import Derived.Test.YtmnejmpjmniiiaaGreatDoorW13
import Derived.Test.YtmnejmpjmniiiaaGreatDoorW14
import Derived.Test.YtmnejmpjmniiiaaGreatDoorW15
set_option linter.unusedVariables false
set_option linter.unusedSimpArgs false
set_option linter.unusedSectionVars false
set_option linter.deprecated false
namespace Go.Proofs.YtmnejmpjmniiiaaGreatDoor
open Go.RowKit Go.Sea
theorem cz_low : ∀ d, d < 1024 → 0 < d → d.testBit (cz d) = true ∧ cz d < 10 ∧ ∀ e, e < cz d → d.testBit e = false := by decide +kernel
def BefP (s t : Nat) : Prop := ∃ d, s.testBit d = true ∧ t.testBit d = false ∧ ∀ e, e < d → s.testBit e = t.testBit e
theorem bef_of {s t : Nat} (hs : s < 1024) (ht : t < 1024) (h : BefP s t) : befB s t = true := by
  obtain ⟨d, h1, h2, h3⟩ := h
  have hx := xor_lt hs ht
  have hd : (s ^^^ t).testBit d = true := by rw [Nat.testBit_xor, h1, h2]; rfl
  have h0 : 0 < s ^^^ t := Nat.pos_of_ne_zero fun e => by rw [e] at hd; simp at hd
  obtain ⟨g1, g2, g3⟩ := cz_low _ hx h0
  have e : cz (s ^^^ t) = d := by
    rcases Nat.lt_trichotomy (cz (s ^^^ t)) d with g | g | g
    · rw [Nat.testBit_xor, h3 _ g] at g1; simp at g1
    · exact g
    · rw [g3 d g] at hd; cases hd
  unfold befB lb
  rw [decide_eq_true_eq, if_neg (by omega), e]
  intro z
  have : (s &&& 2 ^ d).testBit d = true := by rw [Nat.testBit_and, h1, Nat.testBit_two_pow]; simp
  rw [z] at this; simp at this
theorem of_bef {s t : Nat} (hs : s < 1024) (ht : t < 1024) (h : befB s t = true) : BefP s t := by
  have hx := xor_lt hs ht
  unfold befB lb at h
  rw [decide_eq_true_eq] at h
  have h0 : s ^^^ t ≠ 0 := fun e => by rw [if_pos e] at h; simp at h
  rw [if_neg h0] at h
  obtain ⟨g1, g2, g3⟩ := cz_low _ hx (by omega)
  have h1 : s.testBit (cz (s ^^^ t)) = true := by
    cases e : s.testBit (cz (s ^^^ t)) with
    | true => rfl
    | false =>
      refine absurd ?_ h
      apply Nat.eq_of_testBit_eq
      intro i
      rw [Nat.testBit_and, Nat.testBit_two_pow, Nat.zero_testBit]
      by_cases hi : cz (s ^^^ t) = i
      · rw [← hi, e]; rfl
      · rw [decide_eq_false hi]; simp
  refine ⟨cz (s ^^^ t), h1, ?_, fun e he => ?_⟩
  · rw [Nat.testBit_xor, h1] at g1
    cases e : t.testBit (cz (s ^^^ t)) with
    | false => rfl
    | true => rw [e] at g1; cases g1
  · have := g3 e he
    rw [Nat.testBit_xor] at this
    cases a : s.testBit e <;> cases b : t.testBit e <;> rw [a, b] at this <;> first | rfl | cases this
theorem BefP.trans {a b c : Nat} (h : BefP a b) (g : BefP b c) : BefP a c := by
  obtain ⟨d, h1, h2, h3⟩ := h
  obtain ⟨e, g1, g2, g3⟩ := g
  rcases Nat.lt_trichotomy d e with q | q | q
  · exact ⟨d, h1, by rw [← g3 d q]; exact h2, fun k hk => (h3 k hk).trans (g3 k (by omega))⟩
  · subst q; rw [h2] at g1; cases g1
  · exact ⟨e, by rw [h3 e q]; exact g1, g2, fun k hk => (h3 k (by omega)).trans (g3 k hk)⟩
theorem bst_ok {w : Nat → Nat → Bool} {g : Nat → Bool} {M : Nat} (ir : ∀ a, a < M → w a a = false) (tr : ∀ a b c, a < M → b < M → c < M → w a b = true → w b c = true → w a c = true) : ∀ n, n ≤ M →
    ((bst w g n).2 = true → (bst w g n).1 < n ∧ g (bst w g n).1 = true ∧ ∀ s, s < n → g s = true → w (bst w g n).1 s = false) ∧ ((bst w g n).2 = false → ∀ s, s < n → g s = false)
  | 0, _ => ⟨fun h => Bool.noConfusion (h : false = true), fun _ s hs => absurd hs (Nat.not_lt_zero s)⟩
  | n + 1, hn => by
    obtain ⟨ih1, ih2⟩ := bst_ok (g := g) ir tr n (by omega)
    rcases bst_cs w g n with ⟨e1, _, e3, e4⟩ | ⟨e1, _, e3, e4⟩ | ⟨e1, e2, _, e4⟩ | ⟨e1, e2, e3, e4⟩ | ⟨e1, e2, e3, e4⟩ <;> rw [e4]
    · refine ⟨fun _ => ⟨Nat.lt_succ_self n, e3, fun s hs hg => ?_⟩, fun h => Bool.noConfusion (h : true = false)⟩
      rcases (by omega : s < n ∨ s = n) with q | q
      · exact absurd (hg.symm.trans (ih2 e1 s q)) (by decide)
      · rw [q]; exact ir n (by omega)
    · refine ⟨fun h => absurd (h.symm.trans e1) (by decide), fun _ s hs => ?_⟩
      rcases (by omega : s < n ∨ s = n) with q | q
      · exact ih2 e1 s q
      · rw [q]; exact e3
    · refine ⟨fun h => ?_, fun h => absurd (h.symm.trans e1) (by decide)⟩
      obtain ⟨a1, a2, a3⟩ := ih1 e1
      refine ⟨by omega, a2, fun s hs hg => ?_⟩
      rcases (by omega : s < n ∨ s = n) with q | q
      · exact a3 s q hg
      · rw [q]; exact e2
    · obtain ⟨a1, a2, a3⟩ := ih1 e1
      refine ⟨fun _ => ⟨Nat.lt_succ_self n, e3, fun s hs hg => ?_⟩, fun h => Bool.noConfusion (h : true = false)⟩
      show w n s = false
      rcases (by omega : s < n ∨ s = n) with q | q
      · cases h : w n s with
        | false => rfl
        | true => exact absurd ((tr _ n s (by omega) (by omega) (by omega) e2 h).symm.trans (a3 s q hg)) (by decide)
      · rw [q]; exact ir n (by omega)
    · refine ⟨fun h => ?_, fun h => absurd (h.symm.trans e1) (by decide)⟩
      obtain ⟨a1, a2, a3⟩ := ih1 e1
      refine ⟨by omega, a2, fun s hs hg => ?_⟩
      rcases (by omega : s < n ∨ s = n) with q | q
      · exact a3 s q hg
      · rw [q] at hg; exact absurd (hg.symm.trans e3) (by decide)
theorem BefP.irr {a : Nat} (h : BefP a a) : False := by
  obtain ⟨d, h1, h2, _⟩ := h; rw [h1] at h2; cases h2
theorem worC_iff {s t : Nat} (hs : s < 1024) (ht : t < 1024) : worC s t = true ↔ cnt t < cnt s ∨ cnt t = cnt s ∧ BefP t s := by
  unfold worC
  rw [Bool.or_eq_true, Bool.and_eq_true, decide_eq_true_eq, decide_eq_true_eq]
  exact or_congr Iff.rfl (and_congr Iff.rfl ⟨of_bef ht hs, bef_of ht hs⟩)
theorem worR_iff {s t : Nat} (hs : s < 1024) (ht : t < 1024) : worR s t = true ↔ cnt s < cnt t ∨ cnt t = cnt s ∧ BefP t s := by
  unfold worR
  rw [Bool.or_eq_true, Bool.and_eq_true, decide_eq_true_eq, decide_eq_true_eq]
  exact or_congr Iff.rfl (and_congr Iff.rfl ⟨of_bef ht hs, bef_of ht hs⟩)
theorem worC_ir (a : Nat) (h : a < 1024) : worC a a = false := by
  cases e : worC a a with
  | false => rfl
  | true => rcases (worC_iff h h).1 e with g | g
            · omega
            · exact g.2.irr.elim
theorem worR_ir (a : Nat) (h : a < 1024) : worR a a = false := by
  cases e : worR a a with
  | false => rfl
  | true => rcases (worR_iff h h).1 e with g | g
            · omega
            · exact g.2.irr.elim
theorem worC_tr (a b c : Nat) (ha : a < 1024) (hb : b < 1024) (hc : c < 1024) (h : worC a b = true) (g : worC b c = true) : worC a c = true := by
  refine (worC_iff ha hc).2 ?_
  rcases (worC_iff ha hb).1 h with h | ⟨h, h2⟩ <;> rcases (worC_iff hb hc).1 g with g | ⟨g, g2⟩
  · exact Or.inl (by omega)
  · exact Or.inl (by omega)
  · exact Or.inl (by omega)
  · exact Or.inr ⟨by omega, g2.trans h2⟩
theorem worR_tr (a b c : Nat) (ha : a < 1024) (hb : b < 1024) (hc : c < 1024) (h : worR a b = true) (g : worR b c = true) : worR a c = true := by
  refine (worR_iff ha hc).2 ?_
  rcases (worR_iff ha hb).1 h with h | ⟨h, h2⟩ <;> rcases (worR_iff hb hc).1 g with g | ⟨g, g2⟩
  · exact Or.inl (by omega)
  · exact Or.inl (by omega)
  · exact Or.inl (by omega)
  · exact Or.inr ⟨by omega, g2.trans h2⟩
theorem two_le {m : Nat} (hm : m ≤ 10) : 2 ^ m ≤ 1024 := Nat.pow_le_pow_right (n := 2) (by decide) hm
structure CoreD (x : CaS) (b : Nat) : Prop where
  s : inS x.m b
  n : ¬ StandN x (cloN (opP x) b)
  m : ∀ s, inS x.m s → ¬ StandN x (cloN (opP x) s) → ¬ (cnt s < cnt b ∨ cnt s = cnt b ∧ BefP s b)
theorem isC_iff {x : CaS} (he : cvE x = 0) {s : Nat} (hs : inS x.m s) : isC x s = true ↔ ¬ StandN x (cloN (opP x) s) := by
  unfold isC
  rw [← beh_iff he (clo_in he hs)]; simp
theorem coB_t {x : CaS} (he : cvE x = 0) (h : (coB x).2 = true) : CoreD x (coB x).1 := by
  have hm := (cv_ok he).2.2.2.2.1
  obtain ⟨h1, h2, h3⟩ := (bst_ok (w := worC) (g := isC x) worC_ir worC_tr (2 ^ x.m) (two_le hm)).1 h
  have hin : inS x.m (coB x).1 := h1
  refine ⟨hin, (isC_iff he hin).1 h2, fun s hs hn hw => ?_⟩
  have := h3 s hs ((isC_iff he hs).2 hn)
  have e := (worC_iff (inS_lt hm hin) (inS_lt hm hs)).2 hw
  exact absurd (e.symm.trans this) (by decide)
theorem coB_f {x : CaS} (he : cvE x = 0) (h : (coB x).2 = false) {s : Nat} (hs : inS x.m s) : StandN x (cloN (opP x) s) := by
  have hm := (cv_ok he).2.2.2.2.1
  have := (bst_ok (w := worC) (g := isC x) worC_ir worC_tr (2 ^ x.m) (two_le hm)).2 h s hs
  refine Classical.byContradiction fun g => ?_
  exact absurd (((isC_iff he hs).2 g).symm.trans this) (by decide)
theorem clo_sub {x : CaS} (he : cvE x = 0) {s : Nat} (hs : inS x.m s) {i : Nat} (hi : s.testBit i = true) : (cloN (opP x) s).testBit i = true :=
  (clo_bit (inS_lt (cv_ok he).2.2.2.2.1 hs) i).2 (Or.inl hi)
theorem clo_cl {x : CaS} (he : cvE x = 0) {s : Nat} (hs : inS x.m s) : ClosN x (cloN (opP x) s) := by
  obtain ⟨hv, _, _, _, hm, _⟩ := cv_ok he
  intro i hi k hk
  refine (clo_bit (inS_lt hm hs) k).2 (Or.inr ?_)
  rcases (clo_bit (inS_lt hm hs) i).1 hi with h | ⟨j, h1, h2⟩
  · exact ⟨i, h, hk⟩
  · exact ⟨j, h1, pst_tr hv hm (j + 1) j (Nat.lt_succ_self j) (inS_bit hs h1) h2 hk⟩
theorem all_bit {m i : Nat} : (2 ^ m - 1).testBit i = true ↔ i < m := by rw [Nat.testBit_two_pow_sub_one, decide_eq_true_eq]
theorem all_cl {x : CaS} (he : cvE x = 0) : ClosN x (2 ^ x.m - 1) := by
  obtain ⟨hv, _, _, _, hm, _⟩ := cv_ok he
  intro i hi k hk
  have := all_bit.1 hi
  exact all_bit.2 (by have := pst_down hv hm this hk; omega)
theorem all_clo {x : CaS} (he : cvE x = 0) : cloN (opP x) (2 ^ x.m - 1) = 2 ^ x.m - 1 := (clo_eq he (all_in x.m)).2 (all_cl he)
theorem all_core {x : CaS} (he : cvE x = 0) : StandN x (2 ^ x.m - 1) ↔ (coB x).2 = false := by
  constructor
  · intro h
    cases e : (coB x).2 with
    | false => rfl
    | true =>
      have hc := coB_t he e
      exact (hc.n (stand_part he (all_in x.m) (clo_in he hc.s) h (clo_cl he hc.s) fun i hi => all_bit.2 (inS_bit (clo_in he hc.s) hi))).elim
  · intro h
    have := coB_f he h (all_in x.m)
    rwa [all_clo he] at this
theorem bl_p2 : ∀ i, i < 10 → bl (2 ^ i) = [i] := by decide +kernel
theorem bl_p22 : ∀ i, i < 10 → ∀ k, k < 10 → i < k → bl (2 ^ i ||| 2 ^ k) = [i, k] := by decide +kernel
theorem p2_in {m i : Nat} (h : i < m) : inS m (2 ^ i) := Nat.pow_lt_pow_right (by decide) h
theorem p22_in {m i k : Nat} (h : i < m) (g : k < m) : inS m (2 ^ i ||| 2 ^ k) := Nat.or_lt_two_pow (p2_in h) (p2_in g)
theorem p2_bit {i t : Nat} : (2 ^ i).testBit t = true ↔ t = i := by rw [Nat.testBit_two_pow, decide_eq_true_eq]; exact eq_comm
theorem p22_bit {i k t : Nat} : (2 ^ i ||| 2 ^ k).testBit t = true ↔ t = i ∨ t = k := by rw [Nat.testBit_or, Bool.or_eq_true, p2_bit, p2_bit]
theorem why_not {x : CaS} (he : cvE x = 0) {c : Nat} (hc : inS x.m c) (hcl : ClosN x c) (h : ¬ StandN x c) : (∃ i, c.testBit i = true ∧ ¬ StandN x (one1 (opP x) i)) ∨ ∃ i k, c.testBit i = true ∧ c.testBit k = true ∧ (i, k) ∈ opL x := by
  refine Classical.byContradiction fun g => h (stand_pairs he hc hcl (fun i k hi hk => ?_) fun i hi => ?_)
  · cases e : (foeN (opL x) i).testBit k with
    | false => rfl
    | true =>
      rcases (foe_bit (x := x) i k).1 e with q | q
      · exact (g (Or.inr ⟨i, k, hi, hk, q⟩)).elim
      · exact (g (Or.inr ⟨k, i, hk, hi, q⟩)).elim
  · exact Classical.byContradiction fun q => g (Or.inl ⟨i, hi, q⟩)
theorem one1_clo {x : CaS} (he : cvE x = 0) {i : Nat} (hi : i < x.m) : cloN (opP x) (2 ^ i) = one1 (opP x) i := by
  apply Nat.eq_of_testBit_eq
  intro t
  rw [Bool.eq_iff_iff, clo_bit (inS_lt (cv_ok he).2.2.2.2.1 (p2_in hi)), one1_bit, p2_bit]
  refine or_congr Iff.rfl ⟨fun ⟨j, h1, h2⟩ => ?_, fun h => ⟨i, p2_bit.2 rfl, h⟩⟩
  rw [p2_bit.1 h1] at h2; exact h2
theorem foe_not {x : CaS} (he : cvE x = 0) {i k : Nat} (h : (i, k) ∈ opL x) {c : Nat} (hi : c.testBit i = true) (hk : c.testBit k = true) : ¬ StandN x c := fun g => by
  have := g.2.1 i k hi hk
  rw [(foe_bit (x := x) i k).2 (Or.inl h)] at this; cases this
theorem core_le {x : CaS} (he : cvE x = 0) {b : Nat} (h : CoreD x b) : 1 ≤ cnt b ∧ cnt b ≤ 2 := by
  obtain ⟨hv, _, _, _, hm, _⟩ := cv_ok he
  constructor
  · refine Nat.pos_of_ne_zero fun e => h.n ?_
    have e2 : bl b = [] := List.length_eq_zero_iff.1 e
    have e3 : b = 0 := by
      refine set_ext (inS_lt hm h.s) (by decide) fun i hi => ?_
      cases g : b.testBit i with
      | false => simp
      | true => have := bl_mem.2 ⟨hi, g⟩; rw [e2] at this; simp at this
    subst e3
    have e4 : cloN (opP x) 0 = 0 := rfl
    rw [e4]
    exact ⟨fun i hi => by simp at hi, fun i k hi => by simp at hi, rfl⟩
  · rcases why_not he (clo_in he h.s) (clo_cl he h.s) h.n with ⟨i, h1, h2⟩ | ⟨i, k, h1, h2, h3⟩
    · have hi := inS_bit (clo_in he h.s) h1
      have := h.m (2 ^ i) (p2_in hi) (by rw [one1_clo he hi]; exact h2)
      have e : cnt (2 ^ i) = 1 := by unfold cnt; rw [bl_p2 i (by omega)]; rfl
      omega
    · have hp := opL_mem.1 h3
      have hk : k < x.m := hp.2.1
      have hik : i < k := hp.1
      have := h.m (2 ^ i ||| 2 ^ k) (p22_in (by omega) hk) (foe_not he h3 (clo_sub he (p22_in (by omega) hk) (p22_bit.2 (Or.inl rfl))) (clo_sub he (p22_in (by omega) hk) (p22_bit.2 (Or.inr rfl))))
      have e : cnt (2 ^ i ||| 2 ^ k) = 2 := by unfold cnt; rw [bl_p22 i (by omega) k (by omega) hik]; rfl
      omega
theorem bef_min {u v i k : Nat} (hik : i < k) (hu : u ≤ i) (hv : v ≤ k) (huv : u ≠ v) (h : ¬ BefP (2 ^ u ||| 2 ^ v) (2 ^ i ||| 2 ^ k)) : u = i ∧ v = k := by
  have fb : ∀ a b t, t ≠ a → t ≠ b → (2 ^ a ||| 2 ^ b).testBit t = false := fun a b t h1 h2 => by
    cases e : (2 ^ a ||| 2 ^ b).testBit t with
    | false => rfl
    | true => rcases p22_bit.1 e with g | g
              · exact (h1 g).elim
              · exact (h2 g).elim
  by_cases e1 : u = i
  · subst e1
    refine ⟨rfl, Classical.byContradiction fun e2 => h ?_⟩
    by_cases e3 : v < u
    · exact ⟨v, p22_bit.2 (Or.inr rfl), fb _ _ _ (by omega) (by omega), fun e he => by rw [fb u v e (by omega) (by omega), fb u k e (by omega) (by omega)]⟩
    · refine ⟨v, p22_bit.2 (Or.inr rfl), fb _ _ _ (by omega) (by omega), fun e he => ?_⟩
      by_cases e4 : e = u
      · rw [p22_bit.2 (Or.inl e4), p22_bit.2 (Or.inl e4)]
      · rw [fb u v e e4 (by omega), fb u k e e4 (by omega)]
  · refine (h ?_).elim
    by_cases e3 : v < u
    · exact ⟨v, p22_bit.2 (Or.inr rfl), fb _ _ _ (by omega) (by omega), fun e he => by rw [fb u v e (by omega) (by omega), fb i k e (by omega) (by omega)]⟩
    · exact ⟨u, p22_bit.2 (Or.inl rfl), fb _ _ _ (by omega) (by omega), fun e he => by rw [fb u v e (by omega) (by omega), fb i k e (by omega) (by omega)]⟩
theorem or_comm2 (a b : Nat) : 2 ^ a ||| 2 ^ b = 2 ^ b ||| 2 ^ a := Nat.or_comm _ _
theorem core_two {x : CaS} (he : cvE x = 0) {b : Nat} (h : CoreD x b) {i k : Nat} (hb : bl b = [i, k]) : (i, k) ∈ opL x := by
  obtain ⟨hv, _, _, _, hm, _⟩ := cv_ok he
  have h10 := inS_lt hm h.s
  have hlt : i < k := by have := bl_lt b; rw [hb] at this; exact (List.pairwise_cons.1 this).1 k (by simp)
  have hbi : ∀ t, b.testBit t = true ↔ t = i ∨ t = k := fun t => by rw [← mem_bl h10, hb]; simp
  have eb : b = 2 ^ i ||| 2 ^ k := by
    apply Nat.eq_of_testBit_eq
    intro t
    rw [Bool.eq_iff_iff, hbi, p22_bit]
  have hkm : k < x.m := inS_bit h.s ((hbi k).2 (Or.inr rfl))
  have hcb : cnt b = 2 := by unfold cnt; rw [hb]; rfl
  have hone : ∀ j, j < x.m → StandN x (one1 (opP x) j) := fun j hj => Classical.byContradiction fun g => by
    have := h.m (2 ^ j) (p2_in hj) (by rw [one1_clo he hj]; exact g)
    have e : cnt (2 ^ j) = 1 := by unfold cnt; rw [bl_p2 j (by omega)]; rfl
    omega
  rcases why_not he (clo_in he h.s) (clo_cl he h.s) h.n with ⟨j, h1, h2⟩ | ⟨u, v, h1, h2, h3⟩
  · exact (h2 (hone j (inS_bit (clo_in he h.s) h1))).elim
  · have hp := opL_mem.1 h3
    have hvm : v < x.m := hp.2.1
    have huv : u < v := hp.1
    have hin : ∀ t, (cloN (opP x) b).testBit t = true → (one1 (opP x) i).testBit t = true ∨ (one1 (opP x) k).testBit t = true := fun t ht => by
      rcases (clo_bit h10 t).1 ht with g | ⟨j, g1, g2⟩
      · rcases (hbi t).1 g with q | q
        · exact Or.inl (one1_bit.2 (Or.inl q))
        · exact Or.inr (one1_bit.2 (Or.inl q))
      · rcases (hbi j).1 g1 with q | q
        · exact Or.inl (one1_bit.2 (Or.inr (q ▸ g2)))
        · exact Or.inr (one1_bit.2 (Or.inr (q ▸ g2)))
    have hle : ∀ j t, j < x.m → (one1 (opP x) j).testBit t = true → t ≤ j := fun j t hj ht => by
      rcases one1_bit.1 ht with g | g
      · omega
      · have := pst_down hv hm hj g; omega
    have hmin := h.m (2 ^ u ||| 2 ^ v) (p22_in (by omega) hvm) (foe_not he h3 (clo_sub he (p22_in (by omega) hvm) (p22_bit.2 (Or.inl rfl))) (clo_sub he (p22_in (by omega) hvm) (p22_bit.2 (Or.inr rfl))))
    have e : cnt (2 ^ u ||| 2 ^ v) = 2 := by unfold cnt; rw [bl_p22 u (by omega) v (by omega) huv]; rfl
    have hnb : ¬ BefP (2 ^ u ||| 2 ^ v) (2 ^ i ||| 2 ^ k) := fun g => hmin (Or.inr ⟨by omega, by rw [eb]; exact g⟩)
    rcases hin u h1 with a1 | a1 <;> rcases hin v h2 with a2 | a2
    · exact (foe_not he h3 a1 a2 (hone i (by omega))).elim
    · obtain ⟨r1, r2⟩ := bef_min hlt (hle i u (by omega) a1) (hle k v hkm a2) (by omega) hnb
      rw [← r1, ← r2]; exact h3
    · obtain ⟨r1, r2⟩ := bef_min hlt (hle i v (by omega) a2) (hle k u hkm a1) (by omega) (by rw [or_comm2 v u]; exact hnb)
      omega
    · exact (foe_not he h3 a1 a2 (hone k hkm)).elim
def cluL (x : CaS) (q : Nat) (a : Nat → Int) : List Int := nuT x.S (cluT x.S x.m q a) x.m
theorem cluL_len (x : CaS) (q : Nat) (a : Nat → Int) : (cluL x q a).length ≤ x.m := nuT_le _ _ _
theorem hasL_Z {l : List Int} {y : Int} : hasL l.length (zL l) y = true ↔ y ∈ l := hasZ_iff
theorem nu_inj {S : Nat → StepS} {m i k : Nat} (hv : vsB S m = true) (hi : i < m) (hk : k < m) (h : (S i).nu = (S k).nu) : i = k := by
  rcases Nat.lt_trichotomy i k with g | g | g
  · have := nu_lt hv g hk; omega
  · exact g
  · have := nu_lt hv g hi; omega
theorem nuT_mem {S : Nat → StepS} {T : Nat → Bool} {m : Nat} (hv : vsB S m = true) {i : Nat} (hi : i < m) : (S i).nu ∈ nuT S T m ↔ T i = true := by
  unfold nuT
  rw [List.mem_map]
  constructor
  · rintro ⟨k, h1, h2⟩
    obtain ⟨g1, g2⟩ := idxT_mem.1 h1
    rw [nu_inj hv hi g1 h2.symm]; exact g2
  · intro h; exact ⟨i, idxT_mem.2 ⟨hi, h⟩, rfl⟩
theorem msk_self {m s : Nat} (h : inS m s) : mskT s.testBit m = s := by
  apply Nat.eq_of_testBit_eq
  intro t
  rw [Bool.eq_iff_iff, mskT_bit]
  exact ⟨fun g => g.2, fun g => ⟨inS_bit h g, g⟩⟩
theorem wr_nuT {S : Nat → StepS} {m s : Nat} (hm : m ≤ 10) (h : inS m s) : wrL S (bl s) = nuT S s.testBit m := by
  unfold wrL nuT idxT
  rw [bl_of (n := m) (fun i hi => inS_bit h hi) (inS_lt hm h)]
theorem wr_mem {S : Nat → StepS} {m s i : Nat} (hv : vsB S m = true) (hm : m ≤ 10) (h : inS m s) (hi : i < m) : (S i).nu ∈ wrL S (bl s) ↔ s.testBit i = true := by rw [wr_nuT hm h, nuT_mem hv hi]
theorem ask_w {x : CaS} (he : cvE x = 0) {s : Nat} (h : inS x.m s) : askE x (wrL x.S (bl s)).length (zL (wrL x.S (bl s))) = 0 ∧ askB x (wrL x.S (bl s)).length (zL (wrL x.S (bl s))) = behB (opY x) s := by
  have hm := (cv_ok he).2.2.2.2.1
  rw [wr_nuT hm h]
  have := ask_T he s.testBit
  rwa [msk_self h] at this
theorem msk_w {x : CaS} (he : cvE x = 0) {s : Nat} (h : inS x.m s) : mskT (hasT x.S (wrL x.S (bl s)).length (zL (wrL x.S (bl s)))) x.m = s := by
  obtain ⟨hv, _, _, _, hm, _⟩ := cv_ok he
  apply Nat.eq_of_testBit_eq
  intro t
  rw [Bool.eq_iff_iff, mskT_bit]
  constructor
  · rintro ⟨h1, h2⟩; exact (wr_mem hv hm h h1).1 (hasL_Z.1 h2)
  · intro h2; exact ⟨inS_bit h h2, hasL_Z.2 ((wr_mem hv hm h (inS_bit h h2)).2 h2)⟩
theorem ask_cl {x : CaS} (he : cvE x = 0) (q : Nat) (a : Nat → Int) : askE x (cluL x q a).length (zL (cluL x q a)) = 0 ∧ askB x (cluL x q a).length (zL (cluL x q a)) = behB (opY x) (cloN (opP x) (mskT (hasT x.S q a) x.m)) := by
  have := ask_T he (cluT x.S x.m q a)
  rwa [clu_msk he] at this
theorem all_msk (m : Nat) : mskT (fun _ => true) m = 2 ^ m - 1 := by
  apply Nat.eq_of_testBit_eq
  intro t
  rw [Bool.eq_iff_iff, mskT_bit, all_bit]
  exact ⟨fun h => h.1, fun h => ⟨h, rfl⟩⟩
def allZ (x : CaS) (i : Nat) : List Int := nuT x.S (fun _ => true) i
theorem allZ_0 (x : CaS) : allZ x 0 = [] := rfl
theorem allZ_s (x : CaS) (i : Nat) : allZ x (i + 1) = allZ x i ++ [(x.S i).nu] := nuT_t rfl
theorem allZ_le (x : CaS) (i : Nat) : (allZ x i).length ≤ i := nuT_le _ _ _
theorem ask_all {x : CaS} (he : cvE x = 0) : askE x (allZ x x.m).length (zL (allZ x x.m)) = 0 ∧ askB x (allZ x x.m).length (zL (allZ x x.m)) = behB (opY x) (2 ^ x.m - 1) := by
  have := ask_T he (fun _ => true)
  rwa [all_msk] at this
theorem beh_f' {x : CaS} (he : cvE x = 0) {s : Nat} (h : inS x.m s) (g : ¬ StandN x s) : behB (opY x) s = false := by
  cases e : behB (opY x) s with
  | false => rfl
  | true => exact (g ((beh_iff he h).1 e)).elim
def frsB (q : Nat) (a : Nat → Int) (r : Nat) (c : Nat → Int) : Bool :=
  if fstB (fun j => decide (a j ≠ c j)) (min q r) < min q r then decide (a (fstB (fun j => decide (a j ≠ c j)) (min q r)) < c (fstB (fun j => decide (a j ≠ c j)) (min q r))) else false
theorem frs_h {q r i : Nat} {a c : Nat → Int} (hi : (i : Int) < q) (hr : (i : Int) < r) (h : a i ≠ c i) (g : ∀ k, k < i → a k = c k) : decide (a i < c i) = frsB q a r c := by
  have e : fstB (fun j => decide (a j ≠ c j)) (min q r) = i := fstB_h (b := fun j => decide (a j ≠ c j)) (decide_eq_true h) (fun j hj => decide_eq_false (fun n => n (g j hj))) _ (by omega)
  unfold frsB; rw [e, if_pos (by omega)]
theorem frs_n {q r i : Nat} {a c : Nat → Int} (hi : (q : Int) ≤ i ∨ (r : Int) ≤ i) (g : ∀ k, k < i → a k = c k) : false = frsB q a r c := by
  have e : fstB (fun j => decide (a j ≠ c j)) (min q r) = min q r := fstB_t _ fun j hj => decide_eq_false (fun n => n (g j (by omega)))
  unfold frsB; rw [e, if_neg (by omega)]
theorem frs_t {q r : Nat} {a c : Nat → Int} (h : frsB q a r c = true) : ∃ j, j < q ∧ j < r ∧ a j < c j ∧ ∀ k, k < j → a k = c k := by
  unfold frsB at h
  split at h
  · rename_i g
    refine ⟨_, by omega, by omega, of_decide_eq_true h, fun k hk => ?_⟩
    have := fstB_lo (b := fun j => decide (a j ≠ c j)) (min q r) k hk
    exact Classical.byContradiction fun n => by
      have := of_decide_eq_false this
      exact this n
  · cases h
theorem set_ix {S : Nat → StepS} {m q : Nat} {a : Nat → Int} (hv : vsB S m = true) (h : setB S m q a = true) : (∀ j, j < q → ixM S m (a j) < m ∧ (S (ixM S m (a j))).nu = a j) ∧ ∀ j k, j < k → k < q → ixM S m (a j) < ixM S m (a k) := by
  have hs := of_decide_eq_true h
  have h1 : ∀ j, j < q → ixM S m (a j) < m ∧ (S (ixM S m (a j))).nu = a j := fun j hj => ⟨(hs j hj).1, ix_get (hs j hj).1⟩
  have up : ∀ k j, j < k → k < q → a j < a k := by
    intro k
    induction k with
    | zero => intro j h; omega
    | succ k ih =>
      intro j hj hk
      have h2 := (hs (k + 1) hk).2
      rw [lsA_s] at h2
      rcases (by omega : j < k ∨ j = k) with g | g
      · have := ih j g (by omega); omega
      · rw [g]; exact h2
  refine ⟨h1, fun j k hjk hk => ?_⟩
  have := up k j hjk hk
  rcases Nat.lt_trichotomy (ixM S m (a j)) (ixM S m (a k)) with g | g | g
  · exact g
  · have e1 := (h1 j (by omega)).2; have e2 := (h1 k hk).2; rw [g, e2] at e1; omega
  · have := nu_lt hv g (h1 j (by omega)).1; rw [(h1 j (by omega)).2, (h1 k hk).2] at this; omega
theorem cnt_ask {x : CaS} {q : Nat} {a : Nat → Int} (h : askE x q a = 0) : cnt (askS x q a) = q := by
  obtain ⟨he, hs, hin, _⟩ := ask_ok h
  obtain ⟨hv, _, _, _, hm, _⟩ := cv_ok he
  obtain ⟨h1, h2⟩ := set_ix hv hs
  have hp : (lI (fun k => ixM x.S x.m (a k)) q).Perm (bl (askS x q a)) := (List.perm_ext_iff_of_nodup (lI_nod fun j k hjk hk => Nat.ne_of_lt (h2 j k hjk hk)) (bl_nod _)).2 fun t => by
    rw [mem_bl (inS_lt hm hin), lI_mem]; exact (rdN_bit q).symm
  have := hp.length_eq
  unfold cnt; rw [← this]; simp [lI]
theorem frs_bef {x : CaS} {q : Nat} {a : Nat → Int} (h : askE x q a = 0) {b : Nat} (hb : inS x.m b) (hf : frsB q a (wrL x.S (bl b)).length (zL (wrL x.S (bl b))) = true) : BefP (askS x q a) b := by
  obtain ⟨he, hs, hin, _⟩ := ask_ok h
  obtain ⟨hv, _, _, _, hm, _⟩ := cv_ok he
  obtain ⟨h1, h2⟩ := set_ix hv hs
  obtain ⟨j, g1, g2, g3, g4⟩ := frs_t hf
  rw [wrL_len] at g2
  have hc : ∀ k (hk : k < (bl b).length), zL (wrL x.S (bl b)) k = (x.S (bl b)[k]).nu := fun k hk => by
    unfold zL wrL; simp [List.getD_eq_getElem?_getD, List.getElem?_eq_getElem hk]
  have hcm : ∀ k (hk : k < (bl b).length), (bl b)[k] < x.m := fun k hk => inS_mem hb (List.getElem_mem hk)
  have hup : ∀ i k (hi : i < (bl b).length) (hk : k < (bl b).length), i < k → (bl b)[i] < (bl b)[k] := fun i k hi hk hik => List.pairwise_iff_getElem.1 (bl_lt b) i k hi hk hik
  have heq : ∀ k (hk : k < j), ixM x.S x.m (a k) = (bl b)[k]'(by omega) := fun k hk => by
    have := g4 k hk
    rw [hc k (by omega), ← (h1 k (by omega)).2] at this
    exact nu_inj hv (h1 k (by omega)).1 (hcm k (by omega)) this
  have hlt : ixM x.S x.m (a j) < (bl b)[j] := by
    rw [hc j g2, ← (h1 j g1).2] at g3
    rcases Nat.lt_or_ge (ixM x.S x.m (a j)) (bl b)[j] with q | q
    · exact q
    · rcases Nat.lt_or_eq_of_le q with q | q
      · have := nu_lt hv q (h1 j g1).1; omega
      · rw [q] at g3; omega
  have hbm : ∀ t, b.testBit t = true ↔ ∃ k, ∃ hk : k < (bl b).length, (bl b)[k] = t := fun t => by
    rw [← mem_bl (inS_lt hm hb), List.mem_iff_getElem]
  refine ⟨ixM x.S x.m (a j), (rdN_bit q).2 ⟨j, g1, rfl⟩, ?_, fun e hlt2 => ?_⟩
  · cases g : b.testBit (ixM x.S x.m (a j)) with
    | false => rfl
    | true =>
      obtain ⟨k, hk, e⟩ := (hbm _).1 g
      rcases Nat.lt_trichotomy k j with q | q | q
      · have := h2 k j q g1; rw [heq k q] at this; omega
      · subst q; omega
      · have := hup j k g2 hk q; omega
  · rw [Bool.eq_iff_iff, hbm]
    constructor
    · intro h
      obtain ⟨k, hk, e2⟩ := (rdN_bit q).1 h
      have hkj : k < j := by
        rcases Nat.lt_trichotomy k j with q | q | q
        · exact q
        · subst q; omega
        · have := h2 j k q hk; omega
      exact ⟨k, by omega, by rw [← heq k hkj]; exact e2⟩
    · rintro ⟨k, hk, e2⟩
      have hkj : k < j := by
        rcases Nat.lt_trichotomy k j with q | q | q
        · exact q
        · subst q; omega
        · have := hup j k g2 hk q; omega
      exact (rdN_bit q).2 ⟨k, by omega, by rw [heq k hkj]; exact e2⟩
def fwS (n : Nat) (O : Nat → PtS) : Nat → Int
  | 0 => n
  | i + 1 => IntKind.i64.wrap (fwS n O i + ((O i).k : Int))
theorem fwS_0 (n : Nat) (O : Nat → PtS) : fwS n O 0 = n := rfl
def fewB (x : CaS) : Bool := decide (x.m ≤ 6) && decide (x.mo ≤ 20) && decide (fwS x.n x.O (min x.mo 20) ≤ 60)
theorem co_c {x : CaS} (h : coE x = 1 ∨ coE x = 2) : (coL x).length = 0 := by
  unfold coE at h; unfold coL
  split
  · rename_i g
    rw [if_pos g] at h
    split at h <;> omega
  · rfl
theorem co_cv {x : CaS} (h : ¬ (coE x = 1 ∨ coE x = 2)) : cvE x = 0 := by
  refine Classical.byContradiction fun g => h ?_
  unfold coE; rw [if_neg g]
  unfold cvE at *
  split
  · exact Or.inl rfl
  · split
    · exact Or.inr rfl
    · rename_i g1 g2; rw [if_neg g1, if_neg g2] at g; exact (g rfl).elim
theorem co_4 {x : CaS} (he : cvE x = 0) (h : coE x ≠ 0) : coE x = 4 ∧ behB (opY x) (2 ^ x.m - 1) = true := by
  unfold coE at h ⊢
  rw [if_pos he] at h ⊢
  split at h
  · exact (h rfl).elim
  · rename_i g
    rw [if_neg g]
    exact ⟨rfl, (beh_iff he (all_in x.m)).2 ((all_core he).2 (by simpa using g))⟩
theorem co_0 {x : CaS} (he : cvE x = 0) (h : coE x = 0) : CoreD x (coB x).1 ∧ coL x = wrL x.S (bl (coB x).1) ∧ (coB x).2 = true := by
  unfold coE at h
  rw [if_pos he] at h
  split at h
  · rename_i g
    exact ⟨coB_t he g, by unfold coL; rw [if_pos he, if_pos g], g⟩
  · exact absurd h (by decide)
theorem co_all {x : CaS} (he : cvE x = 0) (h : coE x = 0) : behB (opY x) (2 ^ x.m - 1) = false :=
  beh_f' he (all_in x.m) fun g => by
    have := (all_core he).1 g
    rw [(co_0 he h).2.2] at this; cases this
theorem co_clo {x : CaS} (he : cvE x = 0) (h : coE x = 0) : askE x (cluL x (coL x).length (zL (coL x))).length (zL (cluL x (coL x).length (zL (coL x)))) = 0 ∧ askB x (cluL x (coL x).length (zL (coL x))).length (zL (cluL x (coL x).length (zL (coL x)))) = false := by
  obtain ⟨hc, hL, _⟩ := co_0 he h
  have := ask_cl he (coL x).length (zL (coL x))
  refine ⟨this.1, this.2.trans ?_⟩
  rw [hL, msk_w he hc.s]
  exact beh_f' he (clo_in he hc.s) hc.n
theorem co_len {x : CaS} (he : cvE x = 0) (h : coE x = 0) : 1 ≤ (coL x).length ∧ (coL x).length ≤ 2 := by
  obtain ⟨hc, hL, _⟩ := co_0 he h
  rw [hL, wrL_len]; exact core_le he hc
def foC (x : CaS) : Nat → Bool
  | 0 => false
  | i + 1 => foC x i || (decide (prV x i 0 = zL (coL x) 0) && decide (prV x i 1 = zL (coL x) 1))
theorem foC_0 (x : CaS) : foC x 0 = false := rfl
theorem foC_t {x : CaS} : ∀ k i, i < k → prV x i 0 = zL (coL x) 0 → prV x i 1 = zL (coL x) 1 → foC x k = true
  | 0, i, h, _, _ => absurd h (Nat.not_lt_zero i)
  | k + 1, i, h, h1, h2 => by
    show (_ || (_ && _)) = true
    rcases (by omega : i < k ∨ i = k) with g | g
    · rw [foC_t k i g h1 h2]; rfl
    · rw [← g, decide_eq_true h1, decide_eq_true h2]; simp
theorem co_two {x : CaS} (he : cvE x = 0) (h : coE x = 0) (h2 : (coL x).length = 2) : foC x (opL x).length = true := by
  obtain ⟨hc, hL, _⟩ := co_0 he h
  rw [hL, wrL_len] at h2
  obtain ⟨i, k, e⟩ : ∃ i k, bl (coB x).1 = [i, k] := by
    match hb : bl (coB x).1, h2 with
    | [i, k], _ => exact ⟨i, k, rfl⟩
  have hp := core_two he hc e
  obtain ⟨j, hj, ej⟩ := List.mem_iff_getElem.1 hp
  have e0 : coL x = [(x.S i).nu, (x.S k).nu] := by rw [hL, e]; rfl
  refine foC_t _ j hj ?_ ?_
  · unfold prV; simp only [List.getD_eq_getElem?_getD, List.getElem?_eq_getElem hj, Option.getD_some]; rw [ej, e0]; rfl
  · unfold prV; simp only [List.getD_eq_getElem?_getD, List.getElem?_eq_getElem hj, Option.getD_some]; rw [ej, e0]; rfl
theorem co_oth {x : CaS} (he : cvE x = 0) (h : coE x = 0) {q : Nat} {a : Nat → Int} (ha : askE x q a = 0) (hq : q ≤ (coL x).length) (hf : q ≠ (coL x).length ∨ frsB q a (coL x).length (zL (coL x)) = true) : askE x (cluL x q a).length (zL (cluL x q a)) = 0 ∧ askB x (cluL x q a).length (zL (cluL x q a)) = true := by
  obtain ⟨hc, hL, _⟩ := co_0 he h
  obtain ⟨_, hs, hin, _⟩ := ask_ok ha
  obtain ⟨hv, _, _, _, hm, _⟩ := cv_ok he
  have := ask_cl he q a
  refine ⟨this.1, this.2.trans ?_⟩
  rw [← rd_has hv hs]
  rw [hL] at hq hf
  rw [wrL_len] at hq
  have hn := cnt_ask ha
  refine (beh_iff he (clo_in he hin)).2 (Classical.byContradiction fun g => hc.m (askS x q a) hin g ?_)
  rcases hf with hf | hf
  · rw [wrL_len] at hf
    left; unfold cnt at hn ⊢; omega
  · rcases Nat.lt_or_eq_of_le hq with g2 | g2
    · left; unfold cnt at hn ⊢; omega
    · right; exact ⟨by unfold cnt at hn ⊢; omega, frs_bef ha hc.s hf⟩
structure RepD (x : CaS) (b : Nat) : Prop where
  s : inS x.m b
  n : StandN x b
  m : ∀ s, inS x.m s → StandN x s → ¬ (cnt b < cnt s ∨ cnt s = cnt b ∧ BefP s b)
theorem stand_0 (x : CaS) : StandN x 0 := ⟨fun i hi => by simp at hi, fun i k hi => by simp at hi, rfl⟩
theorem rp_0 {x : CaS} (he : cvE x = 0) : RepD x (rpB x).1 ∧ rpL x = wrL x.S (bl (rpB x).1) := by
  have hm := (cv_ok he).2.2.2.2.1
  have ok := bst_ok (w := worR) (g := isR x) worR_ir worR_tr (2 ^ x.m) (two_le hm)
  have h0 : inS x.m 0 := Nat.pow_pos (by decide)
  have hf : (rpB x).2 = true := by
    cases e : (rpB x).2 with
    | true => rfl
    | false =>
      have := ok.2 e 0 h0
      rw [show isR x 0 = true from (beh_iff he h0).2 (stand_0 x)] at this; cases this
  obtain ⟨h1, h2, h3⟩ := ok.1 hf
  have hin : inS x.m (rpB x).1 := h1
  refine ⟨⟨hin, (beh_iff he hin).1 h2, fun s hs hn hw => ?_⟩, by unfold rpL; rw [if_pos he]⟩
  have := h3 s hs ((beh_iff he hs).2 hn)
  exact absurd (((worR_iff (inS_lt hm hin) (inS_lt hm hs)).2 hw).symm.trans this) (by decide)
theorem rp_e {x : CaS} (he : cvE x ≠ 0) : coE x = cvE x ∧ (rpL x).length = 0 := by unfold coE rpL; rw [if_neg he, if_neg he]; exact ⟨rfl, rfl⟩
theorem rp_ask {x : CaS} (he : cvE x = 0) : askE x (rpL x).length (zL (rpL x)) = 0 ∧ askB x (rpL x).length (zL (rpL x)) = true := by
  obtain ⟨hr, hL⟩ := rp_0 he
  rw [hL]
  have := ask_w he hr.s
  exact ⟨this.1, this.2.trans ((beh_iff he hr.s).2 hr.n)⟩
theorem cnt_sub {s t : Nat} (hs : s < 1024) (ht : t < 1024) (h : ∀ i, s.testBit i = true → t.testBit i = true) : cnt s ≤ cnt t ∧ (cnt t ≤ cnt s → s = t) := by
  have h1 : ∀ i, i ∈ bl s → i ∈ bl t := fun i hi => (mem_bl ht).2 (h i ((mem_bl hs).1 hi))
  refine ⟨nod_sub (bl_nod s) h1, fun g => ?_⟩
  apply Nat.eq_of_testBit_eq
  intro i
  rw [Bool.eq_iff_iff]
  exact ⟨h i, fun hi => (mem_bl hs).1 (nod_all (bl_nod s) h1 g i ((mem_bl ht).2 hi))⟩
theorem cnt_all {m : Nat} (hm : m ≤ 10) : cnt (2 ^ m - 1) = m := by
  have key : ∀ m, m < 11 → cnt (2 ^ m - 1) = m := by decide +kernel
  exact key m (by omega)
theorem rp_all {x : CaS} (he : cvE x = 0) : (rpL x).length = x.m ↔ coE x = 4 := by
  obtain ⟨hr, hL⟩ := rp_0 he
  have hm := (cv_ok he).2.2.2.2.1
  have hall := all_in x.m
  have e1 : (rpL x).length = cnt (rpB x).1 := by rw [hL, wrL_len]; rfl
  have hsub := cnt_sub (inS_lt hm hr.s) (inS_lt hm hall) fun i hi => all_bit.2 (inS_bit hr.s hi)
  rw [cnt_all hm] at hsub
  have e4 : coE x = 4 ↔ (coB x).2 = false := by
    unfold coE; rw [if_pos he]
    cases (coB x).2 <;> simp
  rw [e4, ← all_core he, e1]
  constructor
  · intro h
    have := hsub.2 (by omega)
    rw [← this]; exact hr.n
  · intro h
    have := hr.m _ hall h
    rw [cnt_all hm] at this
    omega
theorem rp_oth {x : CaS} (he : cvE x = 0) {q : Nat} {a : Nat → Int} (ha : askE x q a = 0) (hb : askB x q a = true) : q < (rpL x).length ∨ q = (rpL x).length ∧ frsB q a (rpL x).length (zL (rpL x)) = false := by
  obtain ⟨hr, hL⟩ := rp_0 he
  obtain ⟨_, hs, hin, hB⟩ := ask_ok ha
  rw [hB] at hb
  have h1 := hr.m _ hin ((beh_iff he hin).1 hb)
  have hn := cnt_ask ha
  have e1 : (rpL x).length = cnt (rpB x).1 := by rw [hL, wrL_len]; rfl
  rcases Nat.lt_trichotomy q (rpL x).length with g | g | g
  · exact Or.inl g
  · right
    refine ⟨g, ?_⟩
    cases e : frsB q a (rpL x).length (zL (rpL x)) with
    | false => rfl
    | true =>
      rw [hL] at e
      exact (h1 (Or.inr ⟨by omega, frs_bef ha hr.s e⟩)).elim
  · exact (h1 (Or.inl (by omega))).elim
theorem rp_more {x : CaS} (he : cvE x = 0) {n : Int} (hn : ixM x.S x.m n < x.m) (hh : hasL (rpL x).length (zL (rpL x)) n = false) : askE x (cluL x (rpL x ++ [n]).length (zL (rpL x ++ [n]))).length (zL (cluL x (rpL x ++ [n]).length (zL (rpL x ++ [n])))) = 0 ∧ askB x (cluL x (rpL x ++ [n]).length (zL (rpL x ++ [n]))).length (zL (cluL x (rpL x ++ [n]).length (zL (rpL x ++ [n])))) = false := by
  obtain ⟨hr, hL⟩ := rp_0 he
  obtain ⟨hv, _, _, _, hm, _⟩ := cv_ok he
  have hnn := ix_get hn
  have := ask_cl he (rpL x ++ [n]).length (zL (rpL x ++ [n]))
  refine ⟨this.1, this.2.trans ?_⟩
  have hin : inS x.m (mskT (hasT x.S (rpL x ++ [n]).length (zL (rpL x ++ [n]))) x.m) := mskT_in _
  have hb : ∀ t, (mskT (hasT x.S (rpL x ++ [n]).length (zL (rpL x ++ [n]))) x.m).testBit t = true ↔ t < x.m ∧ ((x.S t).nu ∈ rpL x ∨ (x.S t).nu = n) := fun t => by
    rw [mskT_bit]; unfold hasT; rw [hasL_Z]; simp
  generalize mskT (hasT x.S (rpL x ++ [n]).length (zL (rpL x ++ [n]))) x.m = s at hin hb
  refine beh_f' he (clo_in he hin) fun g => hr.m _ (clo_in he hin) g (Or.inl ?_)
  have hsub : ∀ i, (rpB x).1.testBit i = true → (cloN (opP x) s).testBit i = true := fun i hi => by
    have him := inS_bit hr.s hi
    exact clo_sub he hin ((hb i).2 ⟨him, Or.inl (by rw [hL]; exact (wr_mem hv hm hr.s him).2 hi)⟩)
  have h1 := cnt_sub (inS_lt hm hr.s) (inS_lt hm (clo_in he hin)) hsub
  rcases Nat.lt_or_ge (cnt (rpB x).1) (cnt (cloN (opP x) s)) with q | q
  · exact q
  · exfalso
    have e := h1.2 q
    have h2 : (rpB x).1.testBit (ixM x.S x.m n) = true := by
      rw [e]; exact clo_sub he hin ((hb _).2 ⟨hn, Or.inr hnn⟩)
    have h3 := (wr_mem hv hm hr.s hn).2 h2
    rw [← hL, hnn] at h3
    rw [hasL_Z.2 h3] at hh; cases hh
theorem bm_e {x : CaS} (h : blE x ≠ 0) : coE x = blE x ∧ (blL x).length = 0 := by
  by_cases he : cvE x = 0
  · unfold blE at h ⊢
    rw [if_pos he] at h ⊢
    split at h
    · rename_i g
      rw [if_pos g]
      refine ⟨?_, by unfold blL; rw [if_pos he, if_pos g]; rfl⟩
      have := (all_core he).1 ((beh_iff he (all_in x.m)).1 g)
      unfold coE; rw [if_pos he, this]; rfl
    · exact (h rfl).elim
  · unfold coE blE blL; rw [if_neg he, if_neg he, if_neg he]; exact ⟨rfl, rfl⟩
theorem bm_0 {x : CaS} (h : blE x = 0) : cvE x = 0 ∧ coE x = 0 ∧ blL x = blI x x.m := by
  by_cases he : cvE x = 0
  · refine ⟨he, ?_⟩
    unfold blE at h
    rw [if_pos he] at h
    split at h
    · exact absurd h (by decide)
    · rename_i g
      refine ⟨?_, by unfold blL; rw [if_pos he, if_neg g]⟩
      unfold coE; rw [if_pos he]
      cases e : (coB x).2 with
      | true => rfl
      | false => exact (g ((beh_iff he (all_in x.m)).2 ((all_core he).2 e))).elim
  · unfold blE at h; rw [if_neg he] at h; exact (he h).elim
theorem blI_nuT (x : CaS) : ∀ i, blI x i = nuT x.S (fun i => behB (opY x) (wthN (opP x) x.m i x.m)) i
  | 0 => rfl
  | i + 1 => by
    cases h : behB (opY x) (wthN (opP x) x.m i x.m) with
    | true => rw [blI_t h, nuT_t (T := fun i => behB (opY x) (wthN (opP x) x.m i x.m)) h, blI_nuT x i]
    | false => rw [blI_f h, nuT_f (T := fun i => behB (opY x) (wthN (opP x) x.m i x.m)) h, blI_nuT x i]
theorem wth_bit {P : Nat → Nat} {m i t : Nat} : ∀ k, k ≤ m → ((wthN P m i k).testBit t = true ↔ t < m ∧ t ≠ i ∧ ¬ (t < k ∧ (P t).testBit i = true))
  | 0, _ => by
    show ((2 ^ m - 1) ^^^ ((2 ^ m - 1) &&& 2 ^ i)).testBit t = true ↔ _
    rw [Nat.testBit_xor, Nat.testBit_and, Nat.testBit_two_pow, Nat.testBit_two_pow_sub_one]
    by_cases h1 : t < m <;> by_cases h2 : i = t
    · simp [h1, h2]
    · simp [h1, h2, Ne.symm h2]
    · simp [h1]
    · simp [h1]
  | k + 1, hk => by
    have ih := wth_bit (P := P) (m := m) (i := i) (t := t) k (by omega)
    cases h : (P k).testBit i with
    | false =>
      rw [wth_f h, ih]
      refine and_congr_right fun _ => and_congr_right fun _ => not_congr ⟨fun g => ⟨by omega, g.2⟩, fun g => ⟨?_, g.2⟩⟩
      rcases (by omega : t < k ∨ t = k) with q | q
      · exact q
      · rw [q, h] at g; exact absurd g.2 (by decide)
    | true =>
      rw [wth_t h, Nat.testBit_xor, Nat.testBit_and, Nat.testBit_two_pow]
      by_cases e : k = t
      · subst e
        simp [h]
      · have e2 : decide (k = t) = false := decide_eq_false e
        rw [e2, Bool.and_false, Bool.xor_false, ih]
        refine and_congr_right fun _ => and_congr_right fun _ => not_congr ⟨fun g => ⟨by omega, g.2⟩, fun g => ⟨by omega, g.2⟩⟩
def rsT (x : CaS) (i k : Nat) : Bool := !hasZ (cluL x 1 (fun _ => (x.S k).nu)) (x.S i).nu
theorem rsT_iff {x : CaS} (he : cvE x = 0) {i k : Nat} (hi : i < x.m) (hk : k < x.m) : rsT x i k = true ↔ k ≠ i ∧ (opP x k).testBit i = false := by
  obtain ⟨hv, _, _, _, hm, _⟩ := cv_ok he
  have e : hasZ (cluL x 1 (fun _ => (x.S k).nu)) (x.S i).nu = true ↔ i = k ∨ (opP x k).testBit i = true := by
    rw [hasZ_iff]; unfold cluL
    rw [nuT_mem hv hi, cluT_iff hv hm hi]
    constructor
    · rintro ⟨j, h1, h2, h3⟩
      obtain ⟨u, _, e⟩ := zR_mem.1 h2
      have : k = j := nu_inj hv hk h1 e
      rw [this]; exact h3
    · intro h; exact ⟨k, hk, zR_mem.2 ⟨0, by omega, rfl⟩, h⟩
  unfold rsT
  cases g : hasZ (cluL x 1 (fun _ => (x.S k).nu)) (x.S i).nu with
  | true =>
    have := e.1 g
    constructor
    · intro h; cases h
    · rintro ⟨h1, h2⟩
      rcases this with q | q
      · exact absurd q.symm h1
      · rw [q] at h2; cases h2
  | false =>
    refine ⟨fun _ => ⟨fun q => ?_, ?_⟩, fun _ => rfl⟩
    · have := e.2 (Or.inl q.symm); rw [this] at g; cases g
    · cases q : (opP x k).testBit i with
      | false => rfl
      | true => have := e.2 (Or.inr q); rw [this] at g; cases g
def rsL (x : CaS) (i k : Nat) : List Int := nuT x.S (rsT x i) k
theorem rsL_0 (x : CaS) (i : Nat) : rsL x i 0 = [] := rfl
theorem rsL_t {x : CaS} {i k : Nat} (h : hasZ (cluL x 1 (fun _ => (x.S k).nu)) (x.S i).nu = false) : rsL x i (k + 1) = rsL x i k ++ [(x.S k).nu] := nuT_t (by unfold rsT; rw [h]; rfl)
theorem rsL_f {x : CaS} {i k : Nat} (h : hasZ (cluL x 1 (fun _ => (x.S k).nu)) (x.S i).nu = true) : rsL x i (k + 1) = rsL x i k := nuT_f (by unfold rsT; rw [h]; rfl)
theorem rsL_le (x : CaS) (i k : Nat) : (rsL x i k).length ≤ k := nuT_le _ _ _
theorem bm_i {x : CaS} (h : blE x = 0) {i : Nat} (hi : i < x.m) : askE x (rsL x i x.m).length (zL (rsL x i x.m)) = 0 ∧ askB x (rsL x i x.m).length (zL (rsL x i x.m)) = hasL (blL x).length (zL (blL x)) (x.S i).nu ∧ (askB x (rsL x i x.m).length (zL (rsL x i x.m)) = true → hasL (cluL x (coL x).length (zL (coL x))).length (zL (cluL x (coL x).length (zL (coL x)))) (x.S i).nu = true) := by
  obtain ⟨he, hco, hL⟩ := bm_0 h
  obtain ⟨hv, _, _, _, hm, _⟩ := cv_ok he
  obtain ⟨hc, hcL, _⟩ := co_0 he hco
  have e : mskT (rsT x i) x.m = wthN (opP x) x.m i x.m := by
    apply Nat.eq_of_testBit_eq
    intro t
    rw [Bool.eq_iff_iff, mskT_bit, wth_bit x.m (Nat.le_refl _)]
    refine and_congr_right fun ht => ?_
    rw [rsT_iff he hi ht]
    refine and_congr_right fun _ => ?_
    cases (opP x t).testBit i <;> simp [ht]
  have h1 := ask_T he (rsT x i)
  rw [e] at h1
  refine ⟨h1.1, ?_, ?_⟩
  · refine h1.2.trans ?_
    rw [Bool.eq_iff_iff, hasL_Z, hL, blI_nuT, nuT_mem hv hi]
  · intro g
    have g : behB (opY x) (wthN (opP x) x.m i x.m) = true := h1.2.symm.trans g
    have hst := (beh_iff he (wth_in x.m)).1 g
    rw [hasL_Z]
    unfold cluL
    rw [nuT_mem hv hi]
    have e2 : (cloN (opP x) (coB x).1).testBit i = true := Classical.byContradiction fun q => by
      have hb := fun t => wth_bit (P := opP x) (m := x.m) (i := i) (t := t) x.m (Nat.le_refl _)
      refine hc.n (stand_part he (wth_in x.m) (clo_in he hc.s) hst (clo_cl he hc.s) fun t ht => (hb t).2 ⟨inS_bit (clo_in he hc.s) ht, fun z => q (z ▸ ht), fun z => q ?_⟩)
      exact clo_cl he hc.s t ht i z.2
    have e3 := clu_msk he (coL x).length (zL (coL x))
    rw [hcL, msk_w he hc.s, ← hcL] at e3
    rw [← e3, mskT_bit] at e2
    exact e2.2
end Go.Proofs.YtmnejmpjmniiiaaGreatDoor
set_option maxRecDepth 100000
set_option maxHeartbeats 4000000
namespace Go.Proofs.YtmnejmpjmniiiaaGreatDoor
open Go.RowKit Go.Sea
open Nat renaming reduceAdd → xA, reduceLT → xL, reduceLeDiff → xD, reduceEqDiff → xE, reduceMul → xM, reduceSub → xS, reduceBEq → xB
theorem frs_p (q : Nat) (a : Nat → Int) (r : Nat) (c : Nat → Int) (hq : q ≤ 9223372036854775807) (hr : r ≤ 9223372036854775807) : CallsP Tryz.prog 31 [.one (.lst 1 q (intI a)), .one (.lst 1 r (intI c))] (.t (.one (.g (.bool (frsB q a r c))))) := by
  refine CallsP_of Tryz.func31 rfl (by rw [Tryz.ntmps31]; simp) ?_
  simp only [Tryz.ntmps31, zM, PT.tv, argEnv, Nat.zero_add, Nat.reduceAdd]
  repeat' (first
 | ((with_reducible show AW _ _ _ _); first
 | (with_reducible first | refine aS (fun K hK => ?_) | refine aI ?_ | refine aX ?_ | refine aT ?_ | refine aC ?_ | refine aB ?_)
 | (first
 | (with_reducible first | refine aP 0 [0,1] ?_ | refine aP 1 [0,1] ?_ | refine aP 2 [0,1,5] ?_ | refine aP 3 [0,1,5] ?_)
 | ((with_reducible refine aR (c := Code.region 4 _ true) [0,1,5] ?_); (with_reducible refine aD ?_ ?_ ?_ ?_); (focus kernel_rfl); (focus kernel_rfl); (focus kernel_rfl))
 | ((with_reducible refine aR (c := Code.region 5 _ true) [0,1,5] ?_); (with_reducible refine aD ?_ ?_ ?_ ?_); (focus kernel_rfl); (focus kernel_rfl); (focus kernel_rfl))
 | (with_reducible refine aP 6 [] ?_))
 | ((with_reducible show AW _ (Code.loop _) _ _); first
 | ((with_reducible refine aL (c := (Code.seq (Code.seq (Code.region 2 _ _) _) _)) (ι := Nat) [0,1] (fun i => [(5, iA .i64 (i : Int))]) (fun i => []) (fun i => i ≤ q ∧ i ≤ r ∧ (∀ k, k < i → a k = c k)) (fun i => q - i) 0 ?lg2 ?l12 ?l22 ?li2 ?lr2); (case' lg2 => rintro i _); (case' li2 => try (exact ⟨Nat.zero_le _, Nat.zero_le _, fun _ h => absurd h (Nat.not_lt_zero _)⟩)); (case' lr2 => rintro i ⟨hi, hi2, hai⟩ KR hR2; simp only [keepE, hupd, hset, lk, if_true, if_false, xE, reduceIte, zN]))))
 | (((with_reducible refine And.intro ?_ ?_)); focus (omega))
 | (with_reducible refine retK_n ?_)
 | ((with_reducible show condN _ _ _ _ _ _); first
 | ((with_reducible refine condN_t ?_ ?_) <;> (intro hc; (try simp only [zB, zC, reduceCtorEq] at hc); ((try (exfalso; omega))); (try (exfalso; contradiction)))))
 | ((with_reducible refine And.intro ?_ ?_); focus ((with_reducible show chkR _ _ _ = true); kernel_rfl))
 | ((with_reducible refine hR2 _ (i + 1) ?_); (try clear hR2 KR))
 | ((with_reducible refine Told.mk ?_); simp only [go_sem, reduceIte, reduceCtorEq, xA, xL, xD, xE, xM, xS, xB, intI] <;> ((((try simp (disch := omega) only [seaWrap, Int.natCast_add, Int.cast_ofNat_Int, and_true, true_and, and_self]); (repeat' (first | omega | (with_reducible refine And.intro ?_ ?_) | (exact all_succ (by assumption) (by assumption)))); done))))
 | ((fail_if_success (with_reducible show AW _ _ _ _)); simp (maxSteps := 2000000) only [go_sem, reduceIte, reduceCtorEq, xA, xL, xD, xE, xM, xS, xB, Tryz.f31, intI])
 | ((with_reducible refine hK _ ?_); clear hK K)
 | (with_reducible apply_assumption -exfalso only [*]))
  all_goals (first | exact frs_h (by omega) (by omega) (by assumption) hai | exact frs_n (by omega) hai)
theorem few_p (x : CaS) (hx : x.Ok) : CallsP Tryz.prog 20 [.one (.lst 9 x.n (featF x.f)), .one (.lst 2 x.m (stF x.S)), .one (.lst 1 x.mo (ptF x.O))] (.t (.one (.g (.bool (fewB x))))) := by
  have hxm := hx.m
  have hxo := hx.mo
  have mk0 : True := trivial
  have hfe : True := trivial
  refine CallsP_of Tryz.func20 rfl (by rw [Tryz.ntmps20]; simp) ?_
  simp only [Tryz.ntmps20, zM, PT.tv, argEnv, Nat.zero_add, Nat.reduceAdd]
  repeat' (first
 | ((with_reducible show AW _ _ _ _); first
 | (with_reducible first | refine aS (fun K hK => ?_) | refine aI ?_ | refine aX ?_ | refine aT ?_ | refine aC ?_ | refine aB ?_)
 | (first
 | (with_reducible first | refine aP 0 [0,1,2] ?_ | refine aP 1 [0,1,2] ?_ | refine aP 2 [1,2,7] ?_ | refine aP 3 [1,2,7,8] ?_ | refine aP 4 [1,2,7,8] ?_ | refine aP 5 [1,2,7,8] ?_ | refine aP 6 [1,2,7] ?_))
 | ((with_reducible show AW _ (Code.loop _) _ _); first
 | ((with_reducible refine aL (c := (Code.seq (Code.seq (Code.region 3 _ _) _) _)) (ι := Nat) [1,2] (fun i => [(7, iA .i64 (fwS x.n x.O i)), (8, iA .i64 (i : Int))]) (fun i => []) (fun i => i ≤ x.mo ∧ i ≤ 20) (fun i => x.mo - i) 0 ?lg3 ?l13 ?l23 ?li3 ?lr3); (case' lg3 => rintro i _); (case' li3 => try (exact ⟨Nat.zero_le _, Nat.zero_le _⟩)); (case' lr3 => rintro i ⟨hi, hi2⟩ KR hR3; simp only [keepE, hupd, hset, lk, if_true, if_false, xE, reduceIte, zN, stF0, stF1, ptF0, fwS_0, hfe]))))
 | (((with_reducible refine And.intro ?_ ?_)); focus (omega))
 | (with_reducible refine retK_n ?_)
 | ((with_reducible show condN _ _ _ _ _ _); first
 | ((with_reducible refine condN_t ?_ ?_) <;> (intro hc; (try simp only [zB, zC, reduceCtorEq] at hc); ((try (exfalso; omega)); (try (clear mk0; have ei : i = min x.mo 20 := (by omega)))); (try (exfalso; contradiction)))))
 | ((with_reducible refine hR3 _ (i + 1) ?_); (try clear hR3 KR))
 | ((with_reducible refine Told.mk ?_); simp only [go_sem, reduceIte, reduceCtorEq, xA, xL, xD, xE, xM, xS, xB, stF0, stF1, ptF0, fwS_0, hfe] <;> ((((try simp (disch := omega) only [seaWrap, Int.natCast_add, Int.cast_ofNat_Int, and_true, true_and, and_self]); (repeat' (first | omega | rfl | (with_reducible refine And.intro ?_ ?_))); done))))
 | ((fail_if_success (with_reducible show AW _ _ _ _)); simp (maxSteps := 2000000) only [go_sem, reduceIte, reduceCtorEq, xA, xL, xD, xE, xM, xS, xB, Tryz.f20, stF0, stF1, ptF0, fwS_0, hfe])
 | ((with_reducible refine hK _ ?_); clear hK K)
 | (with_reducible apply_assumption -exfalso only [*]))
  all_goals ((have ei : i = min x.mo 20 := (by omega); have e1 : decide ((x.m : Int) ≤ 6) = decide (x.m ≤ 6) := decide_eq_decide.2 (by omega); have e2 : decide ((x.mo : Int) ≤ 20) = decide (x.mo ≤ 20) := decide_eq_decide.2 (by omega); rw [ei, e1, e2]; rfl))
theorem std_z (x : CaS) (hx : x.Ok) (l : List Int) (hl : l.length ≤ 9223372036854775807) : CallsP Tryz.prog 15 [.one (.lst 9 x.n (featF x.f)), .one (.lst 2 x.m (stF x.S)), .one (.lst 1 x.mo (ptF x.O)), .one (.lst 1 l.length (fun p o => civ ((rowI l).getD (p + o) .any)))] (.tup [.one (.g (.bool (askB x l.length (zL l)))), .one (.g (.int .i64 (askE x l.length (zL l))))]) :=
  (std_p x hx l.length (zL l) hl).eqv ⟨PT.eqv_refl _, PT.eqv_refl _, PT.eqv_refl _, ⟨rfl, rfl, fun i o hi ho => row_zL l i o hi ho⟩, trivial⟩ (PV.eqv_refl _)
theorem clu_c (x : CaS) (hv : vsB x.S x.m = true) (hm : x.m ≤ 10) (q : Nat) (a : Nat → Int) (hq : q ≤ 1000000) : CallsP Tryz.prog 30 [.one (.lst 2 x.m (stF x.S)), .one (.lst 1 q (intI a))] (.t (.one (.lst 1 (cluL x q a).length (intI (zL (cluL x q a)))))) := clu_p x.S x.m hv hm q a hq
end Go.Proofs.YtmnejmpjmniiiaaGreatDoor
namespace Go.Proofs.YtmnejmpjmniiiaaGreatDoor
open Go.RowKit Go.Sea
open Nat renaming reduceAdd → xA, reduceLT → xL, reduceLeDiff → xD, reduceEqDiff → xE, reduceMul → xM, reduceSub → xS, reduceBEq → xB
theorem fnok_20 : fnOk Tryz.prog 20 = true := by kernel_rfl
theorem fnok_31 : fnOk Tryz.prog 31 = true := by kernel_rfl
attribute [go_sem] fnok_20 fnok_31
theorem few_m {x : CaS} (h : fewB x = true) : x.m ≤ 6 := by
  unfold fewB at h
  simp only [Bool.and_eq_true, decide_eq_true_eq] at h
  exact h.1.1
theorem coL_le (x : CaS) : (coL x).length ≤ 2 := by
  by_cases hv : cvE x = 0
  · by_cases h2 : (coB x).2 = true
    · have h0 : coE x = 0 := by unfold coE; rw [if_pos hv, if_pos h2]
      exact (co_len hv h0).2
    · have : coL x = [] := by unfold coL; rw [if_pos hv, if_neg h2]
      rw [this]; decide
  · have : coL x = [] := by unfold coL; rw [if_neg hv]
    rw [this]; decide
set_option maxRecDepth 100000 in
set_option maxHeartbeats 4000000 in
theorem co_law (x : CaS) (hx : x.Ok) (q : Nat) (a : Nat → Int) (hqq : q ≤ 9223372036854775807) : CallsP Tryz.prog 5 [.agg [.lst 9 x.n (featF x.f), .lst 2 x.m (stF x.S), .lst 1 x.mo (ptF x.O)], .one (.lst 1 q (intI a))] (.t (.one (.g (.bool (true))))) := by
  have hxm := hx.m
  have mk0 : True := trivial
  have mk1 : True := trivial
  have mk2 : True := trivial
  have mk3 : True := trivial
  have mk4 : True := trivial
  have mk5 : True := trivial
  have mk6 : True := trivial
  have mk7 : True := trivial
  have hba : True := trivial
  have hxe : True := trivial
  have hA1 : True := trivial
  have hA2 : True := trivial
  have hB1 : True := trivial
  have hB2 : True := trivial
  have hC1 : True := trivial
  have hC2 : True := trivial
  have hl1 : True := trivial
  have hl2 : True := trivial
  have hfo : True := trivial
  refine CallsP_of Tryz.func5 rfl (by rw [Tryz.ntmps5]; simp) ?_
  simp only [Tryz.ntmps5, zM, PT.tv, argEnv, Nat.zero_add, Nat.reduceAdd]
  repeat' (first
 | ((with_reducible refine Need.mk ?_); exact rowI_iv _)
 | ((with_reducible show AW _ _ _ _); first
 | (with_reducible first | refine aS (fun K hK => ?_) | refine aI ?_ | refine aX ?_ | refine aT ?_ | refine aC ?_ | refine aB ?_)
 | (first
 | (with_reducible first | refine aP 0 [0,1] ?_ | refine aP 1 [1,2] ?_ | refine aP 2 [1,2,5] ?_ | refine aP 3 [5] ?_ | refine aP 4 [1,2,5] ?_ | refine aP 5 [1,2,5,6,7] ?_ | refine aP 6 [5,6] ?_ | refine aP 7 [1,2,5,6,7] ?_ | refine aP 8 [1,2,5,6,7,8] ?_ | refine aP 9 [1,2,5,6,7,8,9] ?_ | refine aP 10 [1,2,5,6,7,8,9] ?_ | refine aP 11 [1,2,5,6,7,8,9] ?_ | refine AW_frz (c := Code.region 12 _ false) [1] ?_ (aP 12 [1,2,5,6,7,8] ?_) | refine aP 13 [1,2,5,6,7,10,11] ?_ | refine aP 14 [5,7,10,11] ?_)
 | ((with_reducible refine aR (c := Code.region 15 _ true) [1,2,5,6,10,11] ?_); (with_reducible refine aD ?_ ?_ ?_ ?_); (focus kernel_rfl); (focus kernel_rfl); (focus kernel_rfl))
 | (with_reducible first | refine aP 16 [1,2,5,6,10,11,12,13] ?_ | refine aP 17 [1,2,5,6] ?_ | refine aP 18 [1,2,5,6] ?_ | refine aP 19 [1,2,5,6,14,15] ?_ | refine aP 20 [1,2,5,6,14,15,16] ?_ | refine aP 21 [1,2,5,6,14,15,16,17] ?_ | refine aP 22 [1,2,5,6,14,15,16,17] ?_)
 | ((with_reducible refine aR (c := Code.region 23 _ true) [1,2,5,6,14,15,16,17] ?_); (with_reducible refine aD ?_ ?_ ?_ ?_); (focus kernel_rfl); (focus kernel_rfl); (focus kernel_rfl))
 | (with_reducible first | refine aP 24 [1,2,5,6,15,16] ?_ | refine aP 25 [1,2,5,6] ?_ | refine aP 26 [1,2,5,6,19] ?_ | refine aP 27 [5] ?_)
 | ((with_reducible refine aR (c := Code.region 28 _ true) [1,2,5] ?_); (with_reducible refine aD ?_ ?_ ?_ ?_); (focus kernel_rfl); (focus kernel_rfl); (focus kernel_rfl))
 | (with_reducible refine aP 29 [5,20,21] ?_))
 | ((with_reducible show AW _ (Code.loop _) _ _); first
 | ((with_reducible refine aL (c := (Code.seq (Code.seq (Code.region 9 _ _) _) _)) (ι := Nat) [1,2,5,6,7] (fun i => [(8, .t (.one (.slc 1 0 (allZ x i).length 1))), (9, iA .i64 (i : Int))]) (fun i => [(1, rowI (allZ x i))]) (fun i => i ≤ x.m) (fun i => x.m - i) 0 ?lg9 ?l19 ?l29 ?li9 ?lr9); (case' lg9 => rintro i _); (case' li9 => try (omega)); (case' lr9 => rintro i hi KR hR9; simp only [keepE, hupd, hset, lk, if_true, if_false, xE, reduceIte, zN, stF0, stF1, ptF0, kF0, maxLen, rowI_pur, rowI_snoc, rowI_len, allZ_0, foC_0, hA1, hA2, hB1, hB2, hC1, hC2, hl1, hl2, hfo, hba, hxe]))
 | ((with_reducible refine aL (c := (Code.seq (Code.seq (Code.region 21 _ _) _) _)) (ι := Nat) [1,2,5,6,14,15] (fun k => [(16, .t (.one (.iv (.g (.bool (foC x k)))))), (17, iA .i64 (k : Int))]) (fun k => []) (fun k => k ≤ prN (x0 x)) (fun k => prN (x0 x) - k) 0 ?lg21 ?l121 ?l221 ?li21 ?lr21); (case' lg21 => rintro k _); (case' li21 => try (omega)); (case' lr21 => rintro k hk KR hR21; simp only [keepE, hupd, hset, lk, if_true, if_false, xE, reduceIte, zN, stF0, stF1, ptF0, kF0, maxLen, rowI_pur, rowI_snoc, rowI_len, allZ_0, foC_0, hA1, hA2, hB1, hB2, hC1, hC2, hl1, hl2, hfo, hba, hxe]))))
 | ((first | (with_reducible refine And.intro ?_ ?_) | (with_reducible refine Need.mk ?_)); focus (first | exact True.intro | omega | (intro _; (with_reducible assumption)) | (intros; (repeat' (first | omega | (with_reducible refine And.intro ?_ ?_))); done) | (simp; done) | (simp; omega) | (simp +contextual; done)))
 | (with_reducible refine retK_n ?_)
 | ((with_reducible show condN _ _ _ _ _ _); first
 | ((with_reducible refine condN_t ?_ ?_) <;> (intro hc; (try simp only [zB, zC, reduceCtorEq] at hc); ((try (exfalso; omega)); (try (clear mk0; have hm6 : x.m ≤ 6 := few_m (by assumption); have hcl := coL_le x)); (try (clear mk1; have hcv := co_cv (x := x) (by omega); have hv := (cv_ok hcv).1; have hm10 : x.m ≤ 10 := (by omega))); (try (clear mk2; have ei : i = x.m := (by omega); subst ei; clear hA1 hA2; have hA1 := (ask_all hcv).1; have hA2 := (ask_all hcv).2; have haz := allZ_le x x.m)); (try (clear mk3; have h0 : coE x = 0 := (by omega); clear hB1 hB2 hl1 hl2; have hB1 := (co_clo hcv h0).1; have hB2 := (co_clo hcv h0).2; have hl := co_len hcv h0; have hl1 : (1 : Int) ≤ ((coL x).length : Int) := (by omega); have hl2 : ((coL x).length : Int) ≤ 2 := (by omega); have hkl := cluL_len x (coL x).length (zL (coL x)); clear hba hxe; have hba := co_all hcv h0; have hxe := x0_e hcv; have hpn : prN (x0 x) = (opL x).length := prN_t hxe; have hpl := opL_le x hm10)); (try (clear mk4; have hal := allZ_le x i; have him : i < x.m := (by omega))); (try (clear mk5; have hq2 : q ≤ (coL x).length := (by omega); have hko := cluL_len x q a)); (try (clear mk6; have hc2 : ((coL x).length : Int) = 2 := hc)); (try (clear mk7 hfo; have ek : k = (opL x).length := (by omega); subst ek; have hfo := co_two hcv h0 (by omega)))); (try (exfalso; contradiction)))))
 | ((with_reducible refine And.intro ?_ ?_); focus ((with_reducible show chkR _ _ _ = true); kernel_rfl))
 | ((with_reducible show callN _ _ _ _ _ _ _ _ _ _); first
 | (refine callN_q (k := 11) fnok_11 (head_p) ?_ ?_)
 | (refine callN_q (k := 20) fnok_20 (few_p x hx) ?_ ?_)
 | (refine callN_q (k := 21) fnok_21 (core_p x hx) ?_ ?_)
 | (refine callN_q (k := 15) fnok_15 (std_z x hx (allZ x x.m) (by omega)) ?_ ?_)
 | (refine callN_q (k := 15) fnok_15 (std_p x hx q a hqq) ?_ ?_)
 | (refine callN_q (k := 12) fnok_12 (prs_x x hx) ?_ ?_))
 | ((with_reducible show callDN _ _ _ _ _ _ _ _ _ _ _ _ _); first
 | (refine callDN_q (k := 15) fnok_15 (std_p x hx (cluL x (coL x).length (zL (coL x))).length (zL (cluL x (coL x).length (zL (coL x)))) (by omega)) ?_ ?_)
 | (refine callDN_q (k := 15) fnok_15 (std_p x hx (cluL x q a).length (zL (cluL x q a)) (by omega)) ?_ ?_)
 | (refine callDN_q (k := 30) fnok_30 (clu_c x hv hm10 (coL x).length (zL (coL x)) (by omega)) ?_ ?_)
 | (refine callDN_q (k := 30) fnok_30 (clu_c x hv hm10 q a (by omega)) ?_ ?_))
 | ((with_reducible show callGN _ _ _ _ _ _ _ _ _ _); first
 | (refine callGN_q (k := 31) fnok_31 (fun hg => frs_p q a (coL x).length (zL (coL x)) hqq (by omega)) ?_ ?_))
 | ((with_reducible refine hR9 _ (i + 1) ?_); (try clear hR9 KR))
 | ((with_reducible refine hR21 _ (k + 1) ?_); (try clear hR21 KR))
 | ((with_reducible refine Told.mk ?_); simp only [go_sem, reduceIte, reduceCtorEq, xA, xL, xD, xE, xM, xS, xB, stF0, stF1, ptF0, intI, kF0, maxLen, rowI_pur, rowI_snoc, rowI_len, allZ_0, foC_0, hA1, hA2, hB1, hB2, hC1, hC2, hl1, hl2, hfo, hba, hxe] <;> ((((try simp (disch := omega) only [seaWrap, Int.natCast_add, Int.cast_ofNat_Int, and_true, true_and, and_self]); (repeat' (first | omega | rfl | (with_reducible refine And.intro ?_ ?_) | ((rw [allZ_s]; first | exact wkC_eq rfl (rowI_iv _) | (simp; done))))); done))))
 | ((fail_if_success (with_reducible show AW _ _ _ _)); simp (maxSteps := 2000000) only [go_sem, reduceIte, reduceCtorEq, xA, xL, xD, xE, xM, xS, xB, Tryz.f5, stF0, stF1, ptF0, intI, kF0, maxLen, rowI_pur, rowI_snoc, rowI_len, allZ_0, foC_0, hA1, hA2, hB1, hB2, hC1, hC2, hl1, hl2, hfo, hba, hxe])
 | ((with_reducible refine hK _ ?_); clear hK K)
 | (with_reducible apply_assumption -exfalso only [*]))
  all_goals (first | (have h4 := co_4 hcv hc; rw [h4.1, h4.2]; rfl) | (rw [co_c hc]; rfl) | (have ho := co_oth (q := q) (a := a) hcv h0 hc.1.1 hq2 (hc.2.imp (fun g => by omega) id); rw [ho.1, ho.2]; rfl))
end Go.Proofs.YtmnejmpjmniiiaaGreatDoor
namespace Go.Sea
open Go.RowKit Go.Sea
def callU (P : Program) (s : AS) (K : AS → Prop) : Option Oper → Prop
  | some o => o.guard = none ∧ dstOk s o.dst ∧ callK P [] o [] s K
  | none => False
theorem callU_some (P : Program) (s : AS) (K : AS → Prop) (o : Oper) : callU P s K (some o) = (o.guard = none ∧ dstOk s o.dst ∧ callK P [] o [] s K) := rfl
attribute [go_sem] callU_some
def opU (P : Program) (n0 i : Nat) (s : AS) (K : AS → Prop) (o : Option Oper) : Bool → Prop
  | false => opTr P n0 i s K o
  | true => callU P s K o
def runU (P : Program) (os : List Oper) (n0 : Nat) (L cs : List Nat) (S : (Nat → Bool) → AS) : Nat → List (List Nat × List Nat) → Prop
  | _, [] => True
  | i, (T, F) :: r => (∀ D, dnT D T → dnF D F → opU P n0 i (S D) (fun s' => Leaf ⟨keepE s'.env L, s'.heap, s'.N, s'.gh, s'.lp⟩ (S (updD D i))) (nthO os i) (cs.contains i)) ∧ runU P os n0 L cs S (i + 1) r
theorem runU_nilI {P : Program} {os : List Oper} {n0 i : Nat} {L cs : List Nat} {S : (Nat → Bool) → AS} : runU P os n0 L cs S i [] := trivial
theorem runU_consO {P : Program} {os : List Oper} {n0 i : Nat} {L cs : List Nat} {S : (Nat → Bool) → AS} {T F : List Nat} {r : List (List Nat × List Nat)} (e : cs.contains i = false) (h : ∀ D, dnT D T → dnF D F → ∀ K : AS → Prop, (∀ s' : AS, Leaf ⟨keepE s'.env L, s'.heap, s'.N, s'.gh, s'.lp⟩ (S (updD D i)) → K s') → opTr P n0 i (S D) K (nthO os i)) (h2 : runU P os n0 L cs S (i + 1) r) : runU P os n0 L cs S i ((T, F) :: r) :=
  ⟨fun D hT hF => by rw [e]; exact h D hT hF _ fun _ h => h, h2⟩
theorem runU_consC {P : Program} {os : List Oper} {n0 i : Nat} {L cs : List Nat} {S : (Nat → Bool) → AS} {T F : List Nat} {r : List (List Nat × List Nat)} (e : cs.contains i = true) (h : ∀ D, dnT D T → dnF D F → ∀ K : AS → Prop, (∀ s' : AS, Leaf ⟨keepE s'.env L, s'.heap, s'.N, s'.gh, s'.lp⟩ (S (updD D i)) → K s') → callU P (S D) K (nthO os i)) (h2 : runU P os n0 L cs S (i + 1) r) : runU P os n0 L cs S i ((T, F) :: r) :=
  ⟨fun D hT hF => by rw [e]; exact h D hT hF _ fun _ h => h, h2⟩
theorem runU_at {P : Program} {os : List Oper} {n0 : Nat} {L cs : List Nat} {S : (Nat → Bool) → AS} : ∀ {TF : List (List Nat × List Nat)} {j i : Nat}, runU P os n0 L cs S j TF → i < TF.length → ∀ D, dnT D (TF.getD i ([], [])).1 → dnF D (TF.getD i ([], [])).2 → opU P n0 (j + i) (S D) (fun s' => Leaf ⟨keepE s'.env L, s'.heap, s'.N, s'.gh, s'.lp⟩ (S (updD D (j + i)))) (nthO os (j + i)) (cs.contains (j + i))
  | (T, F) :: r, j, 0, h, _ => h.1
  | (T, F) :: r, j, i + 1, h, hi => by
    have := runU_at (i := i) h.2 (by simpa using hi)
    rw [show j + 1 + i = j + (i + 1) by omega] at this
    exact this
theorem AW_regionU {P : Program} {s : AS} {Q : Exit → AS → Prop} {id : Nat} {ops : Array Oper} (n0 : Nat) (L cs : List Nat) (TF : List (List Nat × List Nat)) (A : List Nat) (S : (Nat → Bool) → AS) (hm : P.follows .mixedOrders = true) (hback : backB .any ops = true) (hd : noDefer ops = true) (hc : ancT ops TF = true)
    (h0 : Leaf ⟨keepE s.env L, s.heap, s.N, s.gh, s.lp⟩ (S fun _ => false)) (h : runU P ops.toList n0 L cs S 0 TF) (hA : (A.all fun k => decide (k < ops.size)) = true) (hq : ∀ D, dnT D A → Q .normal (S D)) : AW P (.region id ops true) s Q := fun w0 Z0 a w n R => by
  simp only [ancT, Bool.and_eq_true, beq_iff_eq] at hc
  refine regionIn_byI (free_fo _) (fun _ D a w => Rep w0 Z0 (S D) a w) hm hd hback ?_ ?_ fun D a w hD R' => ?_
  · obtain ⟨J, Z, R⟩ := Rep_keepT h0 R
    exact ⟨J, Z, R.drew⟩
  · refine StepsI.of ops.toList 0 fun i o ho D a w R' hDi hpre hcl K hK => ?_
    rw [Nat.zero_add] at hDi
    simp only [Nat.zero_add] at hK
    have hoi : ops[i]? = some o := by rw [← Array.getElem?_toList]; exact ho
    have hi : i < ops.size := (Array.getElem?_eq_some_iff.1 hoi).1
    have hE := List.all_eq_true.1 hc.2 i (List.mem_range.2 hi)
    rw [Bool.and_eq_true] at hE
    have hT : dnT D (TF.getD i ([], [])).1 := dnT_of fun k hk => (masks_anc (ops := ops) (List.all_eq_true.1 hE.1 k hk)).done hcl o hoi hpre
    have hF : dnF D (TF.getD i ([], [])).2 := dnF_of fun k hk => by
      have h1 := List.all_eq_true.1 hE.2 k hk
      rw [Bool.or_eq_true, beq_iff_eq, Bool.and_eq_true, decide_eq_true_eq] at h1
      rcases h1 with rfl | ⟨h1, h2⟩
      · exact hDi
      · cases hk' : D k with
        | false => rfl
        | true =>
          have ho' : ops[k]? = some ops[k] := Array.getElem?_eq_getElem h1
          have := (masks_anc (ops := ops) h2).done hcl _ ho' (hcl k _ ho' hk')
          rw [hDi] at this; cases this
    have e : upd D i = updD D i := by
      funext k
      unfold updD
      by_cases hk : k = i
      · subst hk; simp [upd]
      · rw [upd_ne D hk, if_neg hk]
    have hop := runU_at h (i := i) (by omega) D hT hF
    rw [Nat.zero_add] at hop
    rw [nthO_get, Array.getElem?_toList, hoi] at hop
    have hdo := noDefer_at hd hoi
    rw [e] at hK
    cases hcs : cs.contains i with
    | false =>
      rw [hcs] at hop
      obtain ⟨hg, hop⟩ := hop
      have hw : Region.wanted o (yielded ops a.tmps) = true := by simp [Region.wanted, hg]
      rw [if_pos hw]
      split at hop
      · rename_i nd v ef hof
        obtain ⟨hh, hdst, hnd, hrun⟩ := hop
        obtain ⟨J, Z, R'⟩ := R'
        exact opIn_of_wp (free_fo _) hdo (does_wp (opF_sound R' hh hof hnd) fun J' w' u R'' hr' => hK _ _ (Rep_keepT hrun ⟨J', Z, R''.put (fun k e => by rw [eff_N]; exact dstOk_spec hdst k e) hr'⟩))
      · exact hop.elim
    | true =>
      rw [hcs] at hop
      obtain ⟨hg, hdd, hop⟩ := hop
      have hw : Region.wanted o (yielded ops a.tmps) = true := by simp [Region.wanted, hg]
      rw [if_pos hw]
      obtain ⟨J, Z, R'⟩ := R'
      refine callF_sound (K := fun s2 => Leaf ⟨keepE s2.env L, s2.heap, s2.N, s2.gh, s2.lp⟩ (S (updD D i))) R' hdd ?_ fun s2 a' w' R2 hk => hK _ _ (Rep_keepT hk R2)
      exact hop
  · exact ⟨S D, R', hq D (dnT_of fun k hk => hD k (of_decide_eq_true (List.all_eq_true.1 hA k hk)))⟩
end Go.Sea
namespace Go.Proofs.YtmnejmpjmniiiaaGreatDoor
open Go.RowKit Go.Sea
open Nat renaming reduceAdd → xA, reduceLT → xL, reduceLeDiff → xD, reduceEqDiff → xE, reduceMul → xM, reduceSub → xS, reduceBEq → xB
theorem zR_zL (l : List Int) : zR l.length (zL l) = l := by
  unfold zR zL
  apply List.ext_getElem
  · simp
  · intro i h1 h2
    simp [List.getD_eq_getElem?_getD, List.getElem?_eq_getElem h2]
theorem lst_zL (l : List Int) (i : Nat) : List.map (CV.purge i) (lstC (intI (zL l)) 1 l.length 0) = rowI l := by rw [lst_zR, zR_zL]
theorem rpL_le (x : CaS) : (rpL x).length ≤ 10 := by
  by_cases he : cvE x = 0
  · have h := (rp_ask he).1
    have hm := (cv_ok he).2.2.2.2.1
    have := set_len (cv_ok he).1 (ask_ok h).2.1
    omega
  · have := (rp_e he).2; omega
theorem rpm_len (x : CaS) (n : Int) : (rpL x).length + 1 = (rpL x ++ [n]).length := by simp
theorem rpm_tt (x : CaS) (n : Int) : ((rpL x).length + 1 ≤ (rpL x ++ [n]).length) = True := eq_true (by simp)
theorem rpm_le (x : CaS) (n : Int) : (rpL x ++ [n]).length ≤ 1000000 := by have := rpL_le x; have := rpm_len x n; omega
theorem rpm_lt (x : CaS) (n : Int) {i : Nat} (h : i < (rpL x).length + 1) : i < (rpL x ++ [n]).length := by have := rpm_len x n; omega
theorem ixV_cn {x : CaS} {n : Int} (h : 0 ≤ ixV x.S x.m n) : ixM x.S x.m n < x.m := (ixV_c (x := x) (b := fun _ => n) (i := 0) h).2
theorem rp_alB {x : CaS} (he : cvE x = 0) : ((((rpL x).length : Int) == (x.m : Int)) == (coE x == 4)) = true := by
  have h := rp_all he
  by_cases g : coE x = 4
  · have := h.2 g
    rw [beq_iff_eq.2 g, beq_iff_eq.2 (by omega : ((rpL x).length : Int) = x.m)]; rfl
  · have e1 : ((coE x == 4) : Bool) = false := by rw [beq_eq_false_iff_ne]; exact g
    have e2 : (((rpL x).length : Int) == (x.m : Int)) = false := by rw [beq_eq_false_iff_ne]; intro k; exact g (h.1 (by omega))
    rw [e1, e2]; rfl
theorem rp_oB {x : CaS} (he : cvE x = 0) {q : Nat} {a : Nat → Int} (ha : askE x q a = 0) (hb : askB x q a = true) : (decide ((q : Int) < ((rpL x).length : Int)) || ((q : Int) == ((rpL x).length : Int) && !frsB q a (rpL x).length (zL (rpL x)))) = true := by
  rcases rp_oth he ha hb with h | ⟨h1, h2⟩
  · rw [decide_eq_true (by omega : (q : Int) < ((rpL x).length : Int))]; rfl
  · rw [h2, beq_iff_eq.2 (by omega : (q : Int) = ((rpL x).length : Int))]; simp
theorem clu_z (x : CaS) (hv : vsB x.S x.m = true) (hm : x.m ≤ 10) (l : List Int) (hl : l.length ≤ 1000000) (k : Nat) (F : Nat → Nat → IV) (hk : k = l.length) (hF : ∀ i o, i < k → o < 1 → (F i o).eqv (intI (zL l) i o)) : CallsP Tryz.prog 30 [.one (.lst 2 x.m (stF x.S)), .one (.lst 1 k F)] (.t (.one (.lst 1 (cluL x l.length (zL l)).length (intI (zL (cluL x l.length (zL l))))))) := by
  subst hk
  exact (clu_c x hv hm l.length (zL l) hl).eqv ⟨PT.eqv_refl _, ⟨rfl, rfl, hF⟩, trivial⟩ (PV.eqv_refl _)
def rpmS (x : CaS) (n : Int) (D : Nat → Bool) : AS := ⟨[(1, .t (.one (.iv (.g (.int .i64 n))))), (3, .t (.one (.ptr 0 0))), (7, .t (.one (.iv (.g (.bool true))))), (8, .t (.one (.iv (.lst 1 (rpL x).length (intI (zL (rpL x))))))), (140, bif D 0 then .t (.one (.ptr 0 1)) else .any), (141, bif D 1 then .t (.one (.iv (.lst 2 x.m (stF x.S)))) else .any), (142, bif D 4 then .any else bif D 2 then .t (.one (.slc 3 0 0 1)) else .any), (143, bif D 3 then .t (.one (.iv (.lst 1 (rpL x).length (intI (zL (rpL x)))))) else .any), (144, bif D 7 then .any else bif D 4 then .t (.one (.slc 3 0 (rpL x).length 1)) else .any), (145, bif D 5 then .t (.one (.iv (.g (.int .i64 n)))) else .any), (146, bif D 6 then .t (.one (.slc 7 0 1 1)) else .any), (147, bif D 8 then .t (.one (.iv (.lst 1 ((rpL x).length + 1) (fun p o => civ ((rowI (rpL x ++ [n])).getD (p + o) .any))))) else bif D 7 then .t (.one (.slc 3 0 ((rpL x).length + 1) 1)) else .any), (148, bif D 8 then .t (.one (.iv (.lst 1 (cluL x (rpL x ++ [n]).length (zL (rpL x ++ [n]))).length (intI (zL (cluL x (rpL x ++ [n]).length (zL (rpL x ++ [n])))))))) else .any), (16, bif D 9 then .t (.one (.iv (.lst 1 (cluL x (rpL x ++ [n]).length (zL (rpL x ++ [n]))).length (intI (zL (cluL x (rpL x ++ [n]).length (zL (rpL x ++ [n])))))))) else .any)], bif D 6 then [some [.iv (.lst 9 x.n (featF x.f)), .iv (.lst 2 x.m (stF x.S)), .iv (.lst 1 x.mo (ptF x.O))], none, none, bif D 8 then none else bif D 2 then some (bif D 7 then rowI (rpL x ++ [n]) else bif D 4 then rowI (rpL x) else []) else none, none, none, none, some [.iv (.g (.int .i64 n))]] else bif D 2 then [some [.iv (.lst 9 x.n (featF x.f)), .iv (.lst 2 x.m (stF x.S)), .iv (.lst 1 x.mo (ptF x.O))], none, none, some (bif D 7 then rowI (rpL x ++ [n]) else bif D 4 then rowI (rpL x) else [])] else [some [.iv (.lst 9 x.n (featF x.f)), .iv (.lst 2 x.m (stF x.S)), .iv (.lst 1 x.mo (ptF x.O))]], 169, [], LP.top⟩
attribute [go_sem] rpmS
set_option maxRecDepth 100000 in
set_option maxHeartbeats 4000000 in
theorem rp_law (x : CaS) (hx : x.Ok) (n : Int) (q : Nat) (a : Nat → Int) (hqq : q ≤ 9223372036854775807) : CallsP Tryz.prog 6 [.agg [.lst 9 x.n (featF x.f), .lst 2 x.m (stF x.S), .lst 1 x.mo (ptF x.O)], .one (.g (.int .i64 n)), .one (.lst 1 q (intI a))] (.t (.one (.g (.bool (true))))) := by
  have hxm := hx.m
  have mk0 : True := trivial
  have mk1 : True := trivial
  have mk2 : True := trivial
  have mk3 : True := trivial
  have hA1 : True := trivial
  have hA2 : True := trivial
  have hra : True := trivial
  have hB1 : True := trivial
  have hB2 : True := trivial
  have ho1 : True := trivial
  refine CallsP_of Tryz.func6 rfl (by rw [Tryz.ntmps6]; simp) ?_
  simp only [Tryz.ntmps6, zM, PT.tv, argEnv, Nat.zero_add, Nat.reduceAdd]
  repeat' (first
 | ((with_reducible show AW _ _ _ _); first
 | (with_reducible first | refine aS (fun K hK => ?_) | refine aI ?_ | refine aT ?_ | refine aC ?_)
 | (first
 | (with_reducible first | refine aP 0 [0,1,2] ?_ | refine aP 1 [1,2,3] ?_ | refine aP 2 [1,2,3,7] ?_ | refine aP 3 [7] ?_ | refine aP 4 [1,2,3,7] ?_ | refine aP 5 [1,2,3,7,8,9] ?_ | refine aP 6 [1,2,3,7,8,9,11] ?_ | refine aP 7 [7,8,9,11] ?_ | refine aP 8 [1,2,3,7,8,11] ?_ | refine aP 9 [1,2,3,7,8,11,12,13] ?_ | refine aP 10 [1,2,3,7,8] ?_ | refine aP 11 [1,2,3,7,8,14,15] ?_ | refine aP 12 [1,2,3,7,8] ?_ | refine aP 13 [1,3,7,8] ?_ | refine aP 14 [7] ?_)
 | ((with_reducible refine aR (c := Code.region 15 _ true) [1,3,7,8] ?_); (with_reducible refine AW_regionU 1 [1,3,7,8,140,141,142,143,144,145,146,147,148,16] [8] [([], [0,1,8,9]), ([0], [1,8,9]), ([], [2,4,7,8,9]), ([], [3,4,7,8,9]), ([2,3], [4,7,8,9]), ([], [5,6,7,8,9]), ([5], [6,7,8,9]), ([2,3,4,5,6], [7,8,9]), ([0,1,2,3,4,5,6,7], [8,9]), ([0,1,2,3,4,5,6,7,8], [9])] [0,1,2,3,4,5,6,7,8,9] (rpmS x n) ?hm15 ?hb15 ?hd15 ?hc15 ?h015 ?hh15 ?ha15 ?hq15); (case' hm15 => kernel_rfl); (case' hb15 => kernel_rfl); (case' hd15 => kernel_rfl); (case' hc15 => kernel_rfl); (case' ha15 => kernel_rfl); (case' h015 => (exact ⟨rfl⟩)); (case' hh15 => (simp only [List.toList_toArray, List.length_cons, List.length_nil, Nat.reduceAdd]; repeat' (first | ((with_reducible show runU _ _ _ _ _ _ _ _); first | exact runU_nilI | (refine runU_consO (by rfl) (fun D hT hF K hK => ?_) ?_) | (refine runU_consC (by rfl) (fun D hT hF K hK => ?_) ?_)) | ((with_reducible show opTr _ _ _ _ _ _); (simp only [dnT, dnF, and_true] at hT hF); simp (maxSteps := 2000000) only [go_sem, reduceIte, reduceCtorEq, xA, xL, xD, xE, xM, xS, xB, Tryz.f6, stF0, stF1, ptF0, intI, maxLen, rowI_pur, rowI_snoc, rowI_len, hgetB, geB, gdB, purB, Bool.cond_self, lst_zL, hA1, hA2, hra, hB1, hB2, ho1, rpm_tt, hT, hF, updD]) | ((with_reducible show callU _ _ _ _); (simp only [dnT, dnF, and_true] at hT hF); simp (maxSteps := 2000000) only [go_sem, reduceIte, reduceCtorEq, xA, xL, xD, xE, xM, xS, xB, Tryz.f6, stF0, stF1, ptF0, intI, maxLen, rowI_pur, rowI_snoc, rowI_len, hgetB, geB, gdB, purB, Bool.cond_self, lst_zL, hA1, hA2, hra, hB1, hB2, ho1, rpm_tt, hT, hF, updD]) | (refine callN_q (k := 30) fnok_30 (clu_z x hv hm10 (rpL x ++ [n]) (rpm_le x n) _ _ (rpm_len x n) (fun i o hi ho => row_zL (rpL x ++ [n]) i o (rpm_lt x n hi) ho)) ?_ ?_) | (refine callN_zq (k := 30) [3] ?_ ?_) | ((with_reducible refine Need.mk ?_); first | trivial | (simp (maxSteps := 2000000) only [go_sem, reduceIte, reduceCtorEq, xA, xL, xD, xE, xM, xS, xB, Tryz.f6, stF0, stF1, ptF0, intI, maxLen, rowI_pur, rowI_snoc, rowI_len, hgetB, geB, gdB, purB, Bool.cond_self, lst_zL, hA1, hA2, hra, hB1, hB2, ho1, rpm_tt, hT, hF, updD]; exact rowI_iv _)) | ((with_reducible show callZ _ _ _ _ _ _); simp (maxSteps := 2000000) only [go_sem, reduceIte, reduceCtorEq, xA, xL, xD, xE, xM, xS, xB, Tryz.f6, stF0, stF1, ptF0, intI, maxLen, rowI_pur, rowI_snoc, rowI_len, hgetB, geB, gdB, purB, Bool.cond_self, lst_zL, hA1, hA2, hra, hB1, hB2, ho1, rpm_tt, hT, hF, updD]) | ((with_reducible show arun _ _ _ _ _); simp only [arun_nil]) | ((with_reducible refine hK _ ?_); clear hK K) | ((with_reducible show Leaf _ _); simp (maxSteps := 2000000) only [go_sem, reduceIte, reduceCtorEq, xA, xL, xD, xE, xM, xS, xB, Tryz.f6, stF0, stF1, ptF0, intI, maxLen, rowI_pur, rowI_snoc, rowI_len, hgetB, geB, gdB, purB, Bool.cond_self, lst_zL, hA1, hA2, hra, hB1, hB2, ho1, rpm_tt, hT, hF, updD]; exact ⟨rfl⟩) | ((with_reducible show Leaf _ _); cases hDu2 : D 2 <;> (simp (maxSteps := 2000000) only [go_sem, reduceIte, reduceCtorEq, xA, xL, xD, xE, xM, xS, xB, Tryz.f6, stF0, stF1, ptF0, intI, maxLen, rowI_pur, rowI_snoc, rowI_len, hgetB, geB, gdB, purB, Bool.cond_self, lst_zL, hA1, hA2, hra, hB1, hB2, ho1, rpm_tt, hT, hF, updD, hDu2]; exact ⟨rfl⟩)) | ((with_reducible show Leaf _ _); cases hDu6 : D 6 <;> (simp (maxSteps := 2000000) only [go_sem, reduceIte, reduceCtorEq, xA, xL, xD, xE, xM, xS, xB, Tryz.f6, stF0, stF1, ptF0, intI, maxLen, rowI_pur, rowI_snoc, rowI_len, hgetB, geB, gdB, purB, Bool.cond_self, lst_zL, hA1, hA2, hra, hB1, hB2, ho1, rpm_tt, hT, hF, updD, hDu6]; exact ⟨rfl⟩)) | ((with_reducible show Leaf _ _); cases hDu0 : D 0 <;> cases hDu1 : D 1 <;> (simp (maxSteps := 2000000) only [go_sem, reduceIte, reduceCtorEq, xA, xL, xD, xE, xM, xS, xB, Tryz.f6, stF0, stF1, ptF0, intI, maxLen, rowI_pur, rowI_snoc, rowI_len, hgetB, geB, gdB, purB, Bool.cond_self, lst_zL, hA1, hA2, hra, hB1, hB2, ho1, rpm_tt, hT, hF, updD, hDu0, hDu1]; exact ⟨rfl⟩)) | ((with_reducible show Leaf _ _); cases hDu0 : D 0 <;> cases hDu1 : D 1 <;> cases hDu5 : D 5 <;> cases hDu6 : D 6 <;> (simp (maxSteps := 2000000) only [go_sem, reduceIte, reduceCtorEq, xA, xL, xD, xE, xM, xS, xB, Tryz.f6, stF0, stF1, ptF0, intI, maxLen, rowI_pur, rowI_snoc, rowI_len, hgetB, geB, gdB, purB, Bool.cond_self, lst_zL, hA1, hA2, hra, hB1, hB2, ho1, rpm_tt, hT, hF, updD, hDu0, hDu1, hDu5, hDu6]; exact ⟨rfl⟩)) | (with_reducible refine And.intro ?_ ?_) | omega))); (case' hq15 => (intro D hT; simp only [dnT, and_true] at hT; simp (maxSteps := 2000000) only [go_sem, reduceIte, reduceCtorEq, xA, xL, xD, xE, xM, xS, xB, Tryz.f6, stF0, stF1, ptF0, intI, maxLen, rowI_pur, rowI_snoc, rowI_len, hgetB, geB, gdB, purB, Bool.cond_self, lst_zL, hA1, hA2, hra, hB1, hB2, ho1, rpm_tt, hT, updD])))
 | ((with_reducible refine aR (c := Code.region 15 _ true) [1,3,7,8] ?_); (with_reducible refine AW_regionU 1 [1,3,7,8,140,141,142,143,144,145,146,147,148,16] [8] [([], [0,1,8,9]), ([0], [1,8,9]), ([], [2,4,7,8,9]), ([], [3,4,7,8,9]), ([2,3], [4,7,8,9]), ([], [5,6,7,8,9]), ([5], [6,7,8,9]), ([2,3,4,5,6], [7,8,9]), ([0,1,2,3,4,5,6,7], [8,9]), ([0,1,2,3,4,5,6,7,8], [9])] [0,1,2,3,4,5,6,7,8,9] (rpmS x n) ?hm15b ?hb15b ?hd15b ?hc15b ?h015b ?hh15b ?ha15b ?hq15b); (case' hm15b => kernel_rfl); (case' hb15b => kernel_rfl); (case' hd15b => kernel_rfl); (case' hc15b => kernel_rfl); (case' ha15b => kernel_rfl); (case' h015b => (exact ⟨rfl⟩)); (case' hh15b => (simp only [List.toList_toArray, List.length_cons, List.length_nil, Nat.reduceAdd]; repeat' (first | ((with_reducible show runU _ _ _ _ _ _ _ _); first | exact runU_nilI | (refine runU_consO (by rfl) (fun D hT hF K hK => ?_) ?_) | (refine runU_consC (by rfl) (fun D hT hF K hK => ?_) ?_)) | ((with_reducible show opTr _ _ _ _ _ _); (simp only [dnT, dnF, and_true] at hT hF); simp (maxSteps := 2000000) only [go_sem, reduceIte, reduceCtorEq, xA, xL, xD, xE, xM, xS, xB, Tryz.f6, stF0, stF1, ptF0, intI, maxLen, rowI_pur, rowI_snoc, rowI_len, hgetB, geB, gdB, purB, Bool.cond_self, lst_zL, hA1, hA2, hra, hB1, hB2, ho1, rpm_tt, hT, hF, updD]) | ((with_reducible show callU _ _ _ _); (simp only [dnT, dnF, and_true] at hT hF); simp (maxSteps := 2000000) only [go_sem, reduceIte, reduceCtorEq, xA, xL, xD, xE, xM, xS, xB, Tryz.f6, stF0, stF1, ptF0, intI, maxLen, rowI_pur, rowI_snoc, rowI_len, hgetB, geB, gdB, purB, Bool.cond_self, lst_zL, hA1, hA2, hra, hB1, hB2, ho1, rpm_tt, hT, hF, updD]) | (refine callN_q (k := 30) fnok_30 (clu_z x hv hm10 (rpL x ++ [n]) (rpm_le x n) _ _ (rpm_len x n) (fun i o hi ho => row_zL (rpL x ++ [n]) i o (rpm_lt x n hi) ho)) ?_ ?_) | (refine callN_zq (k := 30) [3] ?_ ?_) | ((with_reducible refine Need.mk ?_); first | trivial | (simp (maxSteps := 2000000) only [go_sem, reduceIte, reduceCtorEq, xA, xL, xD, xE, xM, xS, xB, Tryz.f6, stF0, stF1, ptF0, intI, maxLen, rowI_pur, rowI_snoc, rowI_len, hgetB, geB, gdB, purB, Bool.cond_self, lst_zL, hA1, hA2, hra, hB1, hB2, ho1, rpm_tt, hT, hF, updD]; exact rowI_iv _)) | ((with_reducible show callZ _ _ _ _ _ _); simp (maxSteps := 2000000) only [go_sem, reduceIte, reduceCtorEq, xA, xL, xD, xE, xM, xS, xB, Tryz.f6, stF0, stF1, ptF0, intI, maxLen, rowI_pur, rowI_snoc, rowI_len, hgetB, geB, gdB, purB, Bool.cond_self, lst_zL, hA1, hA2, hra, hB1, hB2, ho1, rpm_tt, hT, hF, updD]) | ((with_reducible show arun _ _ _ _ _); simp only [arun_nil]) | ((with_reducible refine hK _ ?_); clear hK K) | ((with_reducible show Leaf _ _); simp (maxSteps := 2000000) only [go_sem, reduceIte, reduceCtorEq, xA, xL, xD, xE, xM, xS, xB, Tryz.f6, stF0, stF1, ptF0, intI, maxLen, rowI_pur, rowI_snoc, rowI_len, hgetB, geB, gdB, purB, Bool.cond_self, lst_zL, hA1, hA2, hra, hB1, hB2, ho1, rpm_tt, hT, hF, updD]; exact ⟨rfl⟩) | ((with_reducible show Leaf _ _); cases hDu2 : D 2 <;> (simp (maxSteps := 2000000) only [go_sem, reduceIte, reduceCtorEq, xA, xL, xD, xE, xM, xS, xB, Tryz.f6, stF0, stF1, ptF0, intI, maxLen, rowI_pur, rowI_snoc, rowI_len, hgetB, geB, gdB, purB, Bool.cond_self, lst_zL, hA1, hA2, hra, hB1, hB2, ho1, rpm_tt, hT, hF, updD, hDu2]; exact ⟨rfl⟩)) | ((with_reducible show Leaf _ _); cases hDu6 : D 6 <;> (simp (maxSteps := 2000000) only [go_sem, reduceIte, reduceCtorEq, xA, xL, xD, xE, xM, xS, xB, Tryz.f6, stF0, stF1, ptF0, intI, maxLen, rowI_pur, rowI_snoc, rowI_len, hgetB, geB, gdB, purB, Bool.cond_self, lst_zL, hA1, hA2, hra, hB1, hB2, ho1, rpm_tt, hT, hF, updD, hDu6]; exact ⟨rfl⟩)) | ((with_reducible show Leaf _ _); cases hDu0 : D 0 <;> cases hDu1 : D 1 <;> (simp (maxSteps := 2000000) only [go_sem, reduceIte, reduceCtorEq, xA, xL, xD, xE, xM, xS, xB, Tryz.f6, stF0, stF1, ptF0, intI, maxLen, rowI_pur, rowI_snoc, rowI_len, hgetB, geB, gdB, purB, Bool.cond_self, lst_zL, hA1, hA2, hra, hB1, hB2, ho1, rpm_tt, hT, hF, updD, hDu0, hDu1]; exact ⟨rfl⟩)) | ((with_reducible show Leaf _ _); cases hDu0 : D 0 <;> cases hDu1 : D 1 <;> cases hDu5 : D 5 <;> cases hDu6 : D 6 <;> (simp (maxSteps := 2000000) only [go_sem, reduceIte, reduceCtorEq, xA, xL, xD, xE, xM, xS, xB, Tryz.f6, stF0, stF1, ptF0, intI, maxLen, rowI_pur, rowI_snoc, rowI_len, hgetB, geB, gdB, purB, Bool.cond_self, lst_zL, hA1, hA2, hra, hB1, hB2, ho1, rpm_tt, hT, hF, updD, hDu0, hDu1, hDu5, hDu6]; exact ⟨rfl⟩)) | (with_reducible refine And.intro ?_ ?_) | omega))); (case' hq15b => (intro D hT; simp only [dnT, and_true] at hT; simp (maxSteps := 2000000) only [go_sem, reduceIte, reduceCtorEq, xA, xL, xD, xE, xM, xS, xB, Tryz.f6, stF0, stF1, ptF0, intI, maxLen, rowI_pur, rowI_snoc, rowI_len, hgetB, geB, gdB, purB, Bool.cond_self, lst_zL, hA1, hA2, hra, hB1, hB2, ho1, rpm_tt, hT, updD])))
 | (with_reducible first | refine aP 16 [3,7,16] ?_ | refine aP 17 [7,17,18] ?_)))
 | ((first | (with_reducible refine And.intro ?_ ?_) | (with_reducible refine Need.mk ?_)); focus (first | exact True.intro | (intro _; (with_reducible assumption)) | (simp; done) | (simp; omega)))
 | (with_reducible refine retK_n ?_)
 | ((with_reducible show condN _ _ _ _ _ _); first
 | ((with_reducible refine condN_t ?_ ?_) <;> (intro hc; (try simp only [zB, zC, reduceCtorEq] at hc); ((try (exfalso; omega)); (try (clear mk0; have hm6 : x.m ≤ 6 := few_m (by assumption); have hrl := rpL_le x)); (try (clear mk1; have hcv : cvE x = 0 := hc; have hv := (cv_ok hcv).1; have hm10 : x.m ≤ 10 := (by omega); clear hA1 hA2 hra; have hA1 := (rp_ask hcv).1; have hA2 := (rp_ask hcv).2; have hra := rp_alB hcv)); (try (clear mk2 ho1; have ho1 := rp_oB hcv (q := q) (a := a) hc.1 hc.2)); (try (clear mk3; have hib : ixM x.S x.m n < x.m := ixV_cn (by omega); clear hB1 hB2; have hB1 := (rp_more hcv hib hc.2).1; have hB2 := (rp_more hcv hib hc.2).2; have hkl := cluL_len x (rpL x ++ [n]).length (zL (rpL x ++ [n]))))); (try (exfalso; contradiction)))))
 | ((with_reducible show callN _ _ _ _ _ _ _ _ _ _); first
 | (refine callN_q (k := 11) fnok_11 (head_p) ?_ ?_)
 | (refine callN_q (k := 20) fnok_20 (few_p x hx) ?_ ?_)
 | (refine callN_q (k := 21) fnok_21 (core_p x hx) ?_ ?_)
 | (refine callN_q (k := 24) fnok_24 (rep_p x hx) ?_ ?_)
 | (refine callN_q (k := 15) fnok_15 (std_p x hx (rpL x).length (zL (rpL x)) (by omega)) ?_ ?_)
 | (refine callN_q (k := 15) fnok_15 (std_p x hx (cluL x (rpL x ++ [n]).length (zL (rpL x ++ [n]))).length (zL (cluL x (rpL x ++ [n]).length (zL (rpL x ++ [n])))) (by omega)) ?_ ?_)
 | (refine callN_q (k := 15) fnok_15 (std_p x hx q a hqq) ?_ ?_)
 | (refine callN_q (k := 32) fnok_32 (rix_p x.S x.m hx.m hx.q n) ?_ ?_))
 | ((with_reducible show callGN _ _ _ _ _ _ _ _ _ _); first
 | (refine callGN_q (k := 31) fnok_31 (fun hg => frs_p q a (rpL x).length (zL (rpL x)) hqq (by omega)) ?_ ?_)
 | (refine callGN_q (k := 28) fnok_28 (fun hg => rhas_p (rpL x).length (zL (rpL x)) n (by omega)) ?_ ?_))
 | ((fail_if_success (with_reducible show AW _ _ _ _)); simp (maxSteps := 2000000) only [go_sem, reduceIte, reduceCtorEq, xA, xL, xD, xE, xM, xS, xB, Tryz.f6, stF0, stF1, ptF0, intI, maxLen, rowI_pur, rowI_snoc, rowI_len, hgetB, geB, gdB, purB, Bool.cond_self, lst_zL, hA1, hA2, hra, hB1, hB2, ho1, rpm_tt])
 | ((with_reducible refine hK _ ?_); clear hK K))
  all_goals ((rw [(rp_e hc).1, (rp_e hc).2]; simp; done))
end Go.Proofs.YtmnejmpjmniiiaaGreatDoor
namespace Go.Proofs.YtmnejmpjmniiiaaGreatDoor
open Go.RowKit Go.Sea
open Nat renaming reduceAdd → xA, reduceLT → xL, reduceLeDiff → xD, reduceEqDiff → xE, reduceMul → xM, reduceSub → xS, reduceBEq → xB
theorem blL_le (x : CaS) : (blL x).length ≤ x.m := by
  unfold blL
  split
  · split
    · exact Nat.zero_le _
    · exact blI_le x x.m
  · exact Nat.zero_le _
theorem rowI_frz2 (zs : List Int) (i : Nat) (cs : List CV) : List.map (frzC i cs) (rowI zs) = rowI zs := frz_ivf _ (rowI_iv zs)
theorem bm_im {a b c : Bool} (h : a = b) (g : a = true → c = true) : (!b || c) = true := by
  subst h
  cases a with
  | false => rfl
  | true => rw [g rfl]; rfl
theorem one_zL (y : Int) : ∀ i o, i < 1 → o < 1 → (civ (([.iv (.g (.int .i64 y))] : List CV).getD (i + o) .any)).eqv (intI (fun _ => y) i o) := fun i o hi ho => by
  obtain rfl : i = 0 := by omega
  obtain rfl : o = 0 := by omega
  exact IV.eqv_refl _
theorem clu_1 (x : CaS) (hv : vsB x.S x.m = true) (hm : x.m ≤ 10) (y : Int) (F : Nat → Nat → IV) (hF : ∀ i o, i < 1 → o < 1 → (F i o).eqv (intI (fun _ => y) i o)) : CallsP Tryz.prog 30 [.one (.lst 2 x.m (stF x.S)), .one (.lst 1 1 F)] (.t (.one (.lst 1 (cluL x 1 fun _ => y).length (intI (zL (cluL x 1 fun _ => y)))))) := by
  exact (clu_c x hv hm 1 (fun _ => y) (by decide)).eqv ⟨PT.eqv_refl _, ⟨rfl, rfl, hF⟩, trivial⟩ (PV.eqv_refl _)
def bmS (x : CaS) (i k : Nat) (D : Nat → Bool) : AS := ⟨[(1, .t (.one (.ptr 0 0))), (3, .t (.one (.iv (.g (.bool true))))), (4, .t (.one (.iv (.lst 1 (blL x).length (intI (zL (blL x))))))), (8, .t (.one (.iv (.lst 1 (cluL x (coL x).length (zL (coL x))).length (intI (zL (cluL x (coL x).length (zL (coL x))))))))), (9, .t (.one (.iv (.g (.int .i64 (i : Int)))))), (10, .t (.one (.iv (.g (.int .i64 (x.S i).nu))))), (11, .t (.one (.slc 1 0 (rsL x i k).length 1))), (12, .t (.one (.iv (.g (.int .i64 (k : Int)))))), (87, bif D 0 then .t (.one (.ptr 0 1)) else .any), (88, bif D 1 then .t (.one (.iv (.lst 2 x.m (stF x.S)))) else .any), (89, bif D 2 then .t (.one (.ptr 0 1)) else .any), (90, bif D 3 then .t (.one (.iv (.lst 2 x.m (stF x.S)))) else .any), (91, bif D 4 then .t (.one (.iv (.g (.int .i64 (k : Int))))) else .any), (92, bif D 5 then .t (.one (.ip 2 fun o => stF x.S k o)) else .any), (93, bif D 6 then .t (.one (.ip 2 fun o => stF x.S k o)) else .any), (94, bif D 7 then .t (.one (.iv (.g (.int .i64 (x.S k).nu)))) else .any), (95, bif D 9 then .t (.one (.iv (.lst 1 1 (fun p o => civ (([.iv (.g (.int .i64 (x.S k).nu))] : List CV).getD (p + o) .any))))) else bif D 8 then .t (.one (.slc 10 0 1 1)) else .any), (96, bif D 9 then .t (.one (.iv (.lst 1 (cluL x 1 (fun _ => (x.S k).nu)).length (intI (zL (cluL x 1 (fun _ => (x.S k).nu))))))) else .any), (97, bif D 10 then .t (.one (.iv (.g (.int .i64 (x.S i).nu)))) else .any), (98, bif D 11 then .t (.one (.iv (.g (.bool (hasL (cluL x 1 (fun _ => (x.S k).nu)).length (zL (cluL x 1 (fun _ => (x.S k).nu))) (x.S i).nu))))) else .any), (99, bif D 12 then .t (.one (.iv (.g (.bool (!(hasL (cluL x 1 (fun _ => (x.S k).nu)).length (zL (cluL x 1 (fun _ => (x.S k).nu))) (x.S i).nu)))))) else .any)], bif D 8 then [some [.iv (.lst 9 x.n (featF x.f)), .iv (.lst 2 x.m (stF x.S)), .iv (.lst 1 x.mo (ptF x.O))], some (rowI (rsL x i k)), none, none, none, none, none, none, none, none, bif D 9 then none else some [.iv (.g (.int .i64 (x.S k).nu))]] else [some [.iv (.lst 9 x.n (featF x.f)), .iv (.lst 2 x.m (stF x.S)), .iv (.lst 1 x.mo (ptF x.O))], some (rowI (rsL x i k))], 150, [], LP.top⟩
attribute [go_sem] bmS
set_option maxRecDepth 100000 in
set_option maxHeartbeats 4000000 in
theorem bm_law (x : CaS) (hx : x.Ok) : CallsP Tryz.prog 7 [.agg [.lst 9 x.n (featF x.f), .lst 2 x.m (stF x.S), .lst 1 x.mo (ptF x.O)]] (.t (.one (.g (.bool (true))))) := by
  have hxm := hx.m
  have mk0 : True := trivial
  have mk1 : True := trivial
  have mk2 : True := trivial
  have mk3 : True := trivial
  have mk4 : True := trivial
  have hA1 : True := trivial
  have hA2 : True := trivial
  have hco : True := trivial
  refine CallsP_of Tryz.func7 rfl (by rw [Tryz.ntmps7]; simp) ?_
  simp only [Tryz.ntmps7, zM, PT.tv, argEnv, Nat.zero_add, Nat.reduceAdd]
  repeat' (first
 | ((with_reducible refine Need.mk ?_); exact rowI_iv _)
 | ((with_reducible show AW _ _ _ _); first
 | (with_reducible first | refine aS (fun K hK => ?_) | refine aI ?_ | refine aX ?_ | refine aT ?_ | refine aC ?_ | refine aB ?_)
 | (first
 | (with_reducible first | refine aP 0 [0] ?_ | refine aP 1 [1] ?_ | refine aP 2 [1,3] ?_ | refine aP 3 [3] ?_ | refine aP 4 [1,3] ?_ | refine aP 5 [1,3,4,5] ?_ | refine aP 6 [1,3,4,5,6,7] ?_ | refine aP 7 [3,4,5,7] ?_ | refine aP 8 [1,3,4,6,7] ?_ | refine aP 9 [1,3,4,6] ?_ | refine aP 10 [1,3,4,8] ?_ | refine aP 11 [1,3,4,8,9] ?_ | refine aP 12 [1,3,4,8,9] ?_ | refine aP 13 [1,3,4,8,9] ?_ | refine aP 14 [1,3,4,8,9,10] ?_ | refine aP 15 [1,3,4,8,9,10,11] ?_ | refine aP 16 [1,3,4,8,9,10,11,12] ?_ | refine aP 17 [1,3,4,8,9,10,11,12] ?_)
 | ((with_reducible refine aR (c := Code.region 18 _ true) [1,3,4,8,9,10,11,12] ?_); (with_reducible refine AW_regionU 2 [1,3,4,8,9,10,11,12,87,88,89,90,91,92,93,94,95,96,97,98,99] [9,11] [([], [0,1,9,11,12]), ([0], [1,9,11,12]), ([], [2,3,5,6,7,8,9,11,12]), ([2], [3,5,6,7,8,9,11,12]), ([], [4,5,6,7,8,9,11,12]), ([2,3,4], [5,6,7,8,9,11,12]), ([2,3,4,5], [6,7,8,9,11,12]), ([2,3,4,5,6], [7,8,9,11,12]), ([2,3,4,5,6,7], [8,9,11,12]), ([0,1,2,3,4,5,6,7,8], [9,11,12]), ([], [10,11,12]), ([0,1,2,3,4,5,6,7,8,9,10], [11,12]), ([0,1,2,3,4,5,6,7,8,9,10,11], [12])] [0,1,2,3,4,5,6,7,8,9,10,11,12] (bmS x i k) ?hm18 ?hb18 ?hd18 ?hc18 ?h018 ?hh18 ?ha18 ?hq18); (case' hm18 => kernel_rfl); (case' hb18 => kernel_rfl); (case' hd18 => kernel_rfl); (case' hc18 => kernel_rfl); (case' ha18 => kernel_rfl); (case' h018 => (exact ⟨rfl⟩)); (case' hh18 => (simp only [List.toList_toArray, List.length_cons, List.length_nil, Nat.reduceAdd]; repeat' (first | ((with_reducible show runU _ _ _ _ _ _ _ _); first | exact runU_nilI | (refine runU_consO (by rfl) (fun D hT hF K hK => ?_) ?_) | (refine runU_consC (by rfl) (fun D hT hF K hK => ?_) ?_)) | ((with_reducible show opTr _ _ _ _ _ _); (simp only [dnT, dnF, and_true] at hT hF); simp (maxSteps := 2000000) only [go_sem, reduceIte, reduceCtorEq, xA, xL, xD, xE, xM, xS, xB, Tryz.f7, stF0, stF1, ptF0, intI, maxLen, rowI_pur, rowI_snoc, rowI_len, rsL_0, rowI_frz2, hA1, hA2, hco, hgetB, geB, gdB, purB, Bool.cond_self, hT, hF, updD]) | ((with_reducible show callU _ _ _ _); (simp only [dnT, dnF, and_true] at hT hF); simp (maxSteps := 2000000) only [go_sem, reduceIte, reduceCtorEq, xA, xL, xD, xE, xM, xS, xB, Tryz.f7, stF0, stF1, ptF0, intI, maxLen, rowI_pur, rowI_snoc, rowI_len, rsL_0, rowI_frz2, hA1, hA2, hco, hgetB, geB, gdB, purB, Bool.cond_self, hT, hF, updD]) | (refine callN_q (k := 30) fnok_30 (clu_1 x hv hm10 (x.S k).nu _ (fun i o hi ho => one_zL _ i o hi ho)) ?_ ?_) | (refine callN_q (k := 28) fnok_28 (rhas_p (cluL x 1 (fun _ => (x.S k).nu)).length (zL (cluL x 1 (fun _ => (x.S k).nu))) (x.S i).nu (by omega)) ?_ ?_) | (refine callN_zq (k := 30) [10] ?_ ?_) | ((with_reducible refine Need.mk ?_); trivial) | ((with_reducible show callZ _ _ _ _ _ _); simp (maxSteps := 2000000) only [go_sem, reduceIte, reduceCtorEq, xA, xL, xD, xE, xM, xS, xB, Tryz.f7, stF0, stF1, ptF0, intI, maxLen, rowI_pur, rowI_snoc, rowI_len, rsL_0, rowI_frz2, hA1, hA2, hco, hgetB, geB, gdB, purB, Bool.cond_self, hT, hF, updD]) | ((with_reducible show arun _ _ _ _ _); simp only [arun_nil]) | ((with_reducible refine hK _ ?_); clear hK K) | ((with_reducible show Leaf _ _); simp (maxSteps := 2000000) only [go_sem, reduceIte, reduceCtorEq, xA, xL, xD, xE, xM, xS, xB, Tryz.f7, stF0, stF1, ptF0, intI, maxLen, rowI_pur, rowI_snoc, rowI_len, rsL_0, rowI_frz2, hA1, hA2, hco, hgetB, geB, gdB, purB, Bool.cond_self, hT, hF, updD]; exact ⟨rfl⟩) | ((with_reducible show Leaf _ _); cases hDu10 : D 10 <;> (simp (maxSteps := 2000000) only [go_sem, reduceIte, reduceCtorEq, xA, xL, xD, xE, xM, xS, xB, Tryz.f7, stF0, stF1, ptF0, intI, maxLen, rowI_pur, rowI_snoc, rowI_len, rsL_0, rowI_frz2, hA1, hA2, hco, hgetB, geB, gdB, purB, Bool.cond_self, hT, hF, updD, hDu10]; exact ⟨rfl⟩)) | (with_reducible refine And.intro ?_ ?_) | omega))); (case' hq18 => (intro D hT; simp only [dnT, and_true] at hT; simp (maxSteps := 2000000) only [go_sem, reduceIte, reduceCtorEq, xA, xL, xD, xE, xM, xS, xB, Tryz.f7, stF0, stF1, ptF0, intI, maxLen, rowI_pur, rowI_snoc, rowI_len, rsL_0, rowI_frz2, hA1, hA2, hco, hgetB, geB, gdB, purB, Bool.cond_self, hT, updD])))
 | (with_reducible first | refine aP 19 [1,3,4,8,9,10,11,12] ?_ | refine AW_frz (c := Code.region 20 _ false) [1] ?_ (aP 20 [1,3,4,8,9,10,11] ?_) | refine aP 21 [1,3,4,8,9,10,13,14] ?_ | refine aP 22 [1,3,4] ?_))
 | ((with_reducible show AW _ (Code.loop _) _ _); first
 | ((with_reducible refine aL (c := (Code.seq (Code.seq (Code.region 11 _ _) _) _)) (ι := Nat) [1,4,8] (fun i => [(3, .t (.one (.iv (.g (.bool true))))), (9, iA .i64 (i : Int))]) (fun i => []) (fun i => i ≤ x.m) (fun i => x.m - i) 0 ?lg11 ?l111 ?l211 ?li11 ?lr11); (case' lg11 => rintro i _); (case' li11 => try (omega)); (case' lr11 => rintro i hi KR hR11; simp only [keepE, hupd, hset, lk, if_true, if_false, xE, reduceIte, zN, stF0, stF1, ptF0, maxLen, rowI_pur, rowI_snoc, rowI_len, rsL_0, rowI_frz2, hA1, hA2, hco, hgetB, geB, gdB, purB, Bool.cond_self]))
 | ((with_reducible refine aL (c := (Code.seq (Code.seq (Code.region 16 _ _) _) _)) (ι := Nat) [1,3,4,8,9,10] (fun k => [(11, .t (.one (.slc 1 0 (rsL x i k).length 1))), (12, iA .i64 (k : Int))]) (fun k => [(1, rowI (rsL x i k))]) (fun k => k ≤ x.m) (fun k => x.m - k) 0 ?lg16 ?l116 ?l216 ?li16 ?lr16); (case' lg16 => rintro k _); (case' li16 => try (omega)); (case' lr16 => rintro k hk KR hR16; simp only [keepE, hupd, hset, lk, if_true, if_false, xE, reduceIte, zN, stF0, stF1, ptF0, maxLen, rowI_pur, rowI_snoc, rowI_len, rsL_0, rowI_frz2, hA1, hA2, hco, hgetB, geB, gdB, purB, Bool.cond_self]))))
 | ((first | (with_reducible refine And.intro ?_ ?_) | (with_reducible refine Need.mk ?_)); focus (first | exact True.intro | omega | (intro _; first | exact True.intro | (with_reducible assumption)) | (simp; done)))
 | (with_reducible refine retK_n ?_)
 | ((with_reducible show condN _ _ _ _ _ _); first
 | ((with_reducible refine condN_t ?_ ?_) <;> (intro hc; (try simp only [zB, zC, reduceCtorEq] at hc); ((try (exfalso; omega)); (try (clear mk0; have hm6 : x.m ≤ 6 := few_m (by assumption); have hcl := coL_le x; have hbl := blL_le x)); (try (clear mk1 hco; have h0 : blE x = 0 := hc; have hb0 := bm_0 h0; have hcv := hb0.1; have hco := hb0.2.1; have hv := (cv_ok hcv).1; have hm10 : x.m ≤ 10 := (by omega); have hkl := cluL_len x (coL x).length (zL (coL x)))); (try (clear mk2; have him : i < x.m := (by omega))); (try (clear mk3; have hkm : k < x.m := (by omega); have hrl := rsL_le x i k; have hk1 := cluL_len x 1 (fun _ => (x.S k).nu))); (try (clear mk4; have ek : k = x.m := (by omega); subst ek; clear hA1 hA2; have hbi := bm_i h0 him; have hA1 := hbi.1; have hA2 := hbi.2.1; have hrm := rsL_le x i x.m))); (try (exfalso; contradiction)))))
 | ((with_reducible show callN _ _ _ _ _ _ _ _ _ _); first
 | (refine callN_q (k := 11) fnok_11 (head_p) ?_ ?_)
 | (refine callN_q (k := 20) fnok_20 (few_p x hx) ?_ ?_)
 | (refine callN_q (k := 21) fnok_21 (core_p x hx) ?_ ?_)
 | (refine callN_q (k := 26) fnok_26 (blm_p x hx) ?_ ?_)
 | (refine callN_q (k := 15) fnok_15 (std_z x hx (rsL x i x.m) (by omega)) ?_ ?_)
 | (refine callN_q (k := 30) fnok_30 (clu_c x hv hm10 (coL x).length (zL (coL x)) (by omega)) ?_ ?_))
 | ((with_reducible show callGN _ _ _ _ _ _ _ _ _ _); first
 | (refine callGN_q (k := 28) fnok_28 (fun hg => rhas_p (blL x).length (zL (blL x)) (x.S i).nu (by omega)) ?_ ?_)
 | (refine callGN_q (k := 28) fnok_28 (fun hg => rhas_p (cluL x (coL x).length (zL (coL x))).length (zL (cluL x (coL x).length (zL (coL x)))) (x.S i).nu (by omega)) ?_ ?_))
 | ((with_reducible refine hR11 _ (i + 1) ?_); (try clear hR11 KR))
 | ((with_reducible refine hR16 _ (k + 1) ?_); (try clear hR16 KR))
 | ((with_reducible refine Told.mk ?_); simp only [go_sem, reduceIte, reduceCtorEq, xA, xL, xD, xE, xM, xS, xB, stF0, stF1, ptF0, intI, maxLen, rowI_pur, rowI_snoc, rowI_len, rsL_0, rowI_frz2, hA1, hA2, hco, hgetB, geB, gdB, purB, Bool.cond_self] <;> (first | (((try simp (disch := omega) only [seaWrap, Int.natCast_add, Int.cast_ofNat_Int, and_true, true_and, and_self]); (repeat' (first | omega | rfl | (with_reducible refine And.intro ?_ ?_) | ((exact bm_im hbi.2.1 hbi.2.2)))); done)) | (((try simp (disch := omega) only [seaWrap, Int.natCast_add, Int.cast_ofNat_Int, and_true, true_and, and_self]); (repeat' (first | omega | (with_reducible refine And.intro ?_ ?_) | ((rw [rsL_t (by assumption)]; first | exact wkC_eq rfl (rowI_iv _) | (simp; done))) | ((rw [rsL_f (by assumption)]; exact wkC_eq rfl (rowI_iv _))) | ((rw [rsL_f (by assumption)])))); done))))
 | ((fail_if_success (with_reducible show AW _ _ _ _)); simp (maxSteps := 2000000) only [go_sem, reduceIte, reduceCtorEq, xA, xL, xD, xE, xM, xS, xB, Tryz.f7, stF0, stF1, ptF0, intI, maxLen, rowI_pur, rowI_snoc, rowI_len, rsL_0, rowI_frz2, hA1, hA2, hco, hgetB, geB, gdB, purB, Bool.cond_self])
 | ((with_reducible refine hK _ ?_); clear hK K)
 | (with_reducible apply_assumption -exfalso only [*]))
  all_goals (first | (rw [(bm_e hc).1, (bm_e hc).2]; simp; done) | exact decide_eq_true (by omega))
end Go.Proofs.YtmnejmpjmniiiaaGreatDoor
