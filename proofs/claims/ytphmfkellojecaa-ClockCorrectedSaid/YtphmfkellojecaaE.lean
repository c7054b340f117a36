/- Walks: the closure, sort.Search, first. -/
import Derived.Test.YtphmfkellojecaaD
import Derived.Shelf.Abstract
import Derived.Deep.LoopGhost
set_option linter.unusedVariables false
set_option linter.unusedSimpArgs false
namespace Go.Proofs.Ytphmfkellojecaa
open Go.RowKit
attribute [local go_sem] World.cell?_alloc_some frozen_alloc_some

/-- The least k below n with p k, or n. -/
def lst (p : Nat → Bool) (n : Nat) : Nat := ((List.range n).find? p).getD n
theorem lst_eq {p : Nat → Bool} {n j : Nat} (hj : j ≤ n) (h1 : ∀ k, k < j → p k = false) (h2 : j < n → p j = true) : lst p n = j := by
  unfold lst
  rcases Nat.lt_or_ge j n with h | h
  · have : (List.range n).find? p = some j := by
      rw [List.find?_range_eq_some]
      exact ⟨h2 h, by simpa using h, fun k hk => by simp [h1 k hk]⟩
    rw [this]; rfl
  · have : (List.range n).find? p = none := by
      rw [List.find?_range_eq_none]
      intro k hk; simp [h1 k (by omega)]
    rw [this]; simp; omega

set_option maxHeartbeats 4000000 in
set_option maxRecDepth 1000000 in
theorem search_any (g : Nat) (cb : Array Value) (n : Nat) (p : Nat → Bool) (w : World) (eg : ∀ args w, (callFunc g args).run Try.prog w = .ok (.enter g args) w) (hsz : n < 4611686018427387904)
    (hf : ∀ (i : Nat) (W : World), i < n → Below w.heap.size w W → Calls Try.prog g (#[.int .i64 i] ++ cb) W fun e w' => e = .returned (.bool (p i)) ∧ Below W.heap.size W w')
    (hmono : ∀ a b, a ≤ b → b < n → p a = true → p b = true) :
    Calls Try.prog 45 #[.int .i64 n, .func (.func g) #[] cb] w fun e w' => e = .returned (.int .i64 (lst p n : Nat)) ∧ Below w.heap.size w w' := by
  have HF := Lib.hid hf
  have M := Lib.hid hmono
  clear hf hmono
  go_enter Try.func45, Try.ntmps45
  go_wp2
  go_loopg [5, 6] n (fun kx s5 s6 wr => ∃ (lo hi : Nat), s5 = .int .i64 lo ∧ s6 = .int .i64 hi ∧ lo ≤ hi ∧ hi ≤ n ∧ hi - lo ≤ kx ∧ Below w.heap.size w wr ∧
    Hid ((∀ t, t < lo → p t = false) ∧ (∀ t, hi ≤ t → t < n → p t = true)))
  case atStart => exact ⟨0, n, rfl, rfl, Nat.zero_le _, Nat.le_refl _, by omega, Below.refl _ _, (⟨fun t ht => absurd ht (Nat.not_lt_zero _), fun t h1 h2 => by omega⟩ : (∀ t, t < 0 → p t = false) ∧ (∀ t, n ≤ t → t < n → p t = true))⟩
  case round =>
    obtain ⟨lo, hi, rfl, rfl, hlh, hin, hg, hB, II⟩ := hrel
    by_cases hlt : lo < hi
    · have hc := HF.out ((lo + hi) / 2) wr (by omega) hB
      rw [show (((lo + hi) / 2 : Nat) : Int) = ((lo : Int) + (hi : Int)) / 2 by omega] at hc
      cases hp : p ((lo + hi) / 2) <;> rw [hp] at hc
      · have HP := Lib.hid hp
        clear hp
        go_wp2_with (go_at_fn g; refine hc.mono ?_; rintro e w' ⟨rfl, hb⟩)
        go_roundg (hi - ((lo + hi) / 2 + 1))
        case measure => omega
        case rel =>
          have I2 : Hid ((∀ t, t < (lo + hi) / 2 + 1 → p t = false) ∧ (∀ t, hi ≤ t → t < n → p t = true)) := ⟨fun t ht => (by
            cases h : p t with
            | false => rfl
            | true => have := M.out t ((lo + hi) / 2) (by omega) (by omega) h; rw [HP.out] at this; cases this), II.out.2⟩
          exact ⟨(lo + hi) / 2 + 1, hi, by rw [show ((lo : Int) + (hi : Int)) / 2 + 1 = (((lo + hi) / 2 + 1 : Nat) : Int) by omega], rfl, by omega, hin, Nat.le_refl _, hB.trans (hb.mono hB.size), I2⟩
      · have HP := Lib.hid hp
        clear hp
        go_wp2_with (go_at_fn g; refine hc.mono ?_; rintro e w' ⟨rfl, hb⟩)
        go_roundg ((lo + hi) / 2 - lo)
        case measure => omega
        case rel =>
          have I2 : Hid ((∀ t, t < lo → p t = false) ∧ (∀ t, (lo + hi) / 2 ≤ t → t < n → p t = true)) := ⟨II.out.1, fun t ht htn => M.out ((lo + hi) / 2) t ht htn HP.out⟩
          exact ⟨lo, (lo + hi) / 2, rfl, by rw [show ((lo : Int) + (hi : Int)) / 2 = (((lo + hi) / 2 : Nat) : Int) by omega], by omega, by omega, Nat.le_refl _, hB.trans (hb.mono hB.size), I2⟩
    · obtain rfl : hi = lo := by omega
      have ecnt : hi = lst p n := (lst_eq hin II.out.1 (fun h => II.out.2 hi (Nat.le_refl _) h)).symm
      have EC := Lib.hid ecnt
      clear ecnt
      go_wp2
      go_ret
      exact ⟨ri (by rw [← EC.out]), hB⟩

set_option maxHeartbeats 1600000 in
theorem clos_low (a l u d t : Int) (k : Nat) (pe pf pt : Nat) (w : World) (hv : vld a l u d = true) (hk : a + k ≤ 10000000) (t0 : -1000000000 ≤ t ∧ t ≤ 1000000000)
    (ce : w.cell? ⟨pe, 0, none⟩ = some (.func (.func 33) #[ck a l u d] #[])) (cf : w.cell? ⟨pf, 0, none⟩ = some (.int .i64 a)) (ct : w.cell? ⟨pt, 0, none⟩ = some (.int .i64 t)) :
    Calls Try.prog 46 #[.int .i64 k, .pointer (some ⟨pe, 0, none⟩), .pointer (some ⟨pf, 0, none⟩), .pointer (some ⟨pt, 0, none⟩)] w fun e w' => e = .returned (.bool (decide (t ≤ (a + k) + l - slip a d (a + k)))) ∧ Below w.heap.size w w' := by
  obtain ⟨a0, a1, d0, d1, l0, l1, l2, u0, u1⟩ := vld_bd hv
  have hw : IntKind.i64.wrap (a + k) = a + k := IntWalk.i64_in _ (by omega)
  go_enter Try.func46, Try.ntmps46
  go_wp2_with fail
  go_region_held3 (fun w' => Below w.heap.size w w' ∧ w.heap.size ≤ w'.heap.size ∧ w'.cell? ⟨pe, 0, none⟩ = some (.func (.func 33) #[ck a l u d] #[]) ∧ w'.cell? ⟨pf, 0, none⟩ = some (.int .i64 a) ∧ w'.cell? ⟨pt, 0, none⟩ = some (.int .i64 t))
    (first | (go_split_ands; exact ⟨keepB (by assumption) (by assumption) hb, Nat.le_trans (by assumption) hb.size, keepC hb (by assumption), keepC hb (by assumption), keepC hb (by assumption)⟩) | (go_split_ands; exact ⟨by (repeat' (first | (with_reducible exact Below.refl _ _) | (with_reducible assumption) | (with_reducible refine Below.alloc ?_ ?_ _) | (with_reducible refine Below.drew ?_) | (with_reducible refine Below.setCell ?_ ?_ _) | (with_reducible refine keepB ?_ ?_ (by assumption)) | omega | (simp; done) | (simp; omega))), by simp <;> omega, by simp [go_sem, *], by simp [go_sem, *], by simp [go_sem, *]⟩) | (exact ⟨by (repeat' (first | (with_reducible exact Below.refl _ _) | (with_reducible assumption) | (with_reducible refine Below.alloc ?_ ?_ _) | (with_reducible refine Below.drew ?_) | (with_reducible refine Below.setCell ?_ ?_ _) | (with_reducible refine keepB ?_ ?_ (by assumption)) | omega | (simp; done) | (simp; omega))), by simp <;> omega, by simp [go_sem, *], by simp [go_sem, *], by simp [go_sem, *]⟩))
    (first | (go_at_call 33; refine (low_any a l u d _ _ hv (by omega) (by omega)).mono ?_; rintro e w' ⟨rfl, hb⟩))
  rename_i hH
  obtain ⟨hB, hz1, _, _, _⟩ := hH
  clear hb
  go_wp2
  go_ret
  exact ⟨rfl, hB⟩

set_option maxHeartbeats 1600000 in
theorem clos_high (a l u d t : Int) (k : Nat) (pe pf pt : Nat) (w : World) (hv : vld a l u d = true) (hk : a + k ≤ 10000000) (t0 : -1000000000 ≤ t ∧ t ≤ 1000000000)
    (ce : w.cell? ⟨pe, 0, none⟩ = some (.func (.func 34) #[ck a l u d] #[])) (cf : w.cell? ⟨pf, 0, none⟩ = some (.int .i64 a)) (ct : w.cell? ⟨pt, 0, none⟩ = some (.int .i64 t)) :
    Calls Try.prog 46 #[.int .i64 k, .pointer (some ⟨pe, 0, none⟩), .pointer (some ⟨pf, 0, none⟩), .pointer (some ⟨pt, 0, none⟩)] w fun e w' => e = .returned (.bool (decide (t ≤ (a + k) + u + slip a d (a + k)))) ∧ Below w.heap.size w w' := by
  obtain ⟨a0, a1, d0, d1, l0, l1, l2, u0, u1⟩ := vld_bd hv
  have hw : IntKind.i64.wrap (a + k) = a + k := IntWalk.i64_in _ (by omega)
  go_enter Try.func46, Try.ntmps46
  go_wp2_with fail
  go_region_held3 (fun w' => Below w.heap.size w w' ∧ w.heap.size ≤ w'.heap.size ∧ w'.cell? ⟨pe, 0, none⟩ = some (.func (.func 34) #[ck a l u d] #[]) ∧ w'.cell? ⟨pf, 0, none⟩ = some (.int .i64 a) ∧ w'.cell? ⟨pt, 0, none⟩ = some (.int .i64 t))
    (first | (go_split_ands; exact ⟨keepB (by assumption) (by assumption) hb, Nat.le_trans (by assumption) hb.size, keepC hb (by assumption), keepC hb (by assumption), keepC hb (by assumption)⟩) | (go_split_ands; exact ⟨by (repeat' (first | (with_reducible exact Below.refl _ _) | (with_reducible assumption) | (with_reducible refine Below.alloc ?_ ?_ _) | (with_reducible refine Below.drew ?_) | (with_reducible refine Below.setCell ?_ ?_ _) | (with_reducible refine keepB ?_ ?_ (by assumption)) | omega | (simp; done) | (simp; omega))), by simp <;> omega, by simp [go_sem, *], by simp [go_sem, *], by simp [go_sem, *]⟩) | (exact ⟨by (repeat' (first | (with_reducible exact Below.refl _ _) | (with_reducible assumption) | (with_reducible refine Below.alloc ?_ ?_ _) | (with_reducible refine Below.drew ?_) | (with_reducible refine Below.setCell ?_ ?_ _) | (with_reducible refine keepB ?_ ?_ (by assumption)) | omega | (simp; done) | (simp; omega))), by simp <;> omega, by simp [go_sem, *], by simp [go_sem, *], by simp [go_sem, *]⟩))
    (first | (go_at_call 34; refine (high_any a l u d _ _ hv (by omega) (by omega)).mono ?_; rintro e w' ⟨rfl, hb⟩))
  rename_i hH
  obtain ⟨hB, hz1, _, _, _⟩ := hH
  clear hb
  go_wp2
  go_ret
  exact ⟨rfl, hB⟩

end Go.Proofs.Ytphmfkellojecaa
