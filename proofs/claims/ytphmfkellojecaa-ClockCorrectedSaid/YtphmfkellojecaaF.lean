/- Walks: first, of both texts. -/
import Derived.Test.YtphmfkellojecaaE
set_option linter.unusedVariables false
set_option linter.unusedSimpArgs false
namespace Go.Proofs.Ytphmfkellojecaa
open Go.RowKit
attribute [local go_sem] World.cell?_alloc_some frozen_alloc_some

theorem lst_le (p : Nat → Bool) (n : Nat) : lst p n ≤ n := by
  unfold lst
  cases h : (List.range n).find? p with
  | none => simp
  | some j => have := List.mem_range.1 (List.mem_of_find?_eq_some h); simp; omega
theorem slip_mono (a d : Int) (i j : Nat) (d0 : 0 ≤ d) (d1 : d ≤ 1000) (h : i ≤ j) : slip a d (a + i) ≤ slip a d (a + j) ∧ slip a d (a + j) ≤ slip a d (a + i) + (j - i) := by
  have e1 : a + (i : Int) - a = i := by omega
  have e2 : a + (j : Int) - a = j := by omega
  unfold slip
  rw [e1, e2]
  have h1 : d * (j : Int) = d * i + d * (j - i) := by rw [← Int.mul_add]; congr 1; omega
  have h2 : 0 ≤ d * ((j : Int) - i) := Int.mul_nonneg d0 (by omega)
  have h3 : d * ((j : Int) - i) ≤ 1000 * (j - i) := Int.mul_le_mul_of_nonneg_right d1 (by omega)
  omega
def lowP (a l d t : Int) (k : Nat) : Bool := decide (t ≤ (a + k) + l - slip a d (a + k))
def highP (a u d t : Int) (k : Nat) : Bool := decide (t ≤ (a + k) + u + slip a d (a + k))
theorem lowP_mono {a l d t : Int} (d0 : 0 ≤ d) (d1 : d ≤ 1000) {i j : Nat} (h : i ≤ j) (hp : lowP a l d t i = true) : lowP a l d t j = true := by
  have := slip_mono a d i j d0 d1 h
  have := of_decide_eq_true hp
  exact decide_eq_true (by omega)
theorem highP_mono {a u d t : Int} (d0 : 0 ≤ d) (d1 : d ≤ 1000) {i j : Nat} (h : i ≤ j) (hp : highP a u d t i = true) : highP a u d t j = true := by
  have := slip_mono a d i j d0 d1 h
  have := of_decide_eq_true hp
  exact decide_eq_true (by omega)
def fstL (a l d t : Int) : Int := a + lst (lowP a l d t) (10000001 - a).toNat
def fstH (a u d t : Int) : Int := a + lst (highP a u d t) (10000001 - a).toNat
theorem fstL_bd (a l d t : Int) (h : a ≤ 10000000) : a ≤ fstL a l d t ∧ fstL a l d t ≤ 10000001 := by
  have := lst_le (lowP a l d t) (10000001 - a).toNat; unfold fstL; omega
theorem fstH_bd (a u d t : Int) (h : a ≤ 10000000) : a ≤ fstH a u d t ∧ fstH a u d t ≤ 10000001 := by
  have := lst_le (highP a u d t) (10000001 - a).toNat; unfold fstH; omega
theorem search_int (g : Nat) (cb : Array Value) (n : Int) (p : Nat → Bool) (w : World) (eg : ∀ args w, (callFunc g args).run Try.prog w = .ok (.enter g args) w) (h0 : 0 ≤ n) (hsz : n < 4611686018427387904)
    (hf : ∀ (i : Nat) (W : World), (i : Int) < n → Below w.heap.size w W → Calls Try.prog g (#[.int .i64 i] ++ cb) W fun e w' => e = .returned (.bool (p i)) ∧ Below W.heap.size W w')
    (hmono : ∀ a b, a ≤ b → p a = true → p b = true) :
    Calls Try.prog 45 #[.int .i64 n, .func (.func g) #[] cb] w fun e w' => e = .returned (.int .i64 (lst p n.toNat : Nat)) ∧ Below w.heap.size w w' := by
  obtain ⟨m, rfl⟩ := Int.eq_ofNat_of_zero_le h0
  rw [Int.toNat_natCast]
  exact search_any g cb m p w eg (by omega) (fun i W hi hB => hf i W (by omega) hB) (fun a b hab _ h => hmono a b hab h)
theorem enters46 : ∀ args w, (callFunc 46 args).run Try.prog w = .ok (.enter 46 args) w := enters_of Try.func46 (by kernel_rfl) rfl

set_option maxHeartbeats 1600000 in
theorem firstL (a l u d t : Int) (w : World) (hv : vld a l u d = true) (t0 : -1000000000 ≤ t ∧ t ≤ 1000000000) :
    Calls Try.prog 38 #[ck a l u d, .func (.func 33) #[ck a l u d] #[], .int .i64 t] w fun e w' => e = .returned (.int .i64 (fstL a l d t)) ∧ Below w.heap.size w w' := by
  obtain ⟨a0, a1, d0, d1, l0, l1, l2, u0, u1⟩ := vld_bd hv
  have hw : IntKind.i64.wrap (10000001 - a) = 10000001 - a := IntWalk.i64_in _ (by omega)
  have hbd := lst_le (lowP a l d t) (10000001 - a).toNat
  go_enter Try.func38, Try.ntmps38
  go_wp2_with fail
  go_region_held3 (fun w' => Below w.heap.size w w' ∧ w.heap.size ≤ w'.heap.size ∧ w'.cell? ⟨w.heap.size + 1, 0, none⟩ = some (.func (.func 33) #[ck a l u d] #[]) ∧ w'.cell? ⟨w.heap.size, 0, none⟩ = some (.int .i64 a) ∧ w'.cell? ⟨w.heap.size + 1 + 1, 0, none⟩ = some (.int .i64 t))
    (first | (go_split_ands; exact ⟨keepB (by assumption) (by assumption) hb, Nat.le_trans (by assumption) hb.size, keepC hb (by assumption), keepC hb (by assumption), keepC hb (by assumption)⟩) | (go_split_ands; exact ⟨by (repeat' (first | (with_reducible exact Below.refl _ _) | (with_reducible assumption) | (with_reducible refine Below.alloc ?_ ?_ _) | (with_reducible refine Below.drew ?_) | (with_reducible refine Below.setCell ?_ ?_ _) | (with_reducible refine keepB ?_ ?_ (by assumption)) | omega | (simp; done) | (simp; omega))), by simp <;> omega, by simp [go_sem, *], by simp [go_sem, *], by simp [go_sem, *]⟩) | (exact ⟨by (repeat' (first | (with_reducible exact Below.refl _ _) | (with_reducible assumption) | (with_reducible refine Below.alloc ?_ ?_ _) | (with_reducible refine Below.drew ?_) | (with_reducible refine Below.setCell ?_ ?_ _) | (with_reducible refine keepB ?_ ?_ (by assumption)) | omega | (simp; done) | (simp; omega))), by simp <;> omega, by simp [go_sem, *], by simp [go_sem, *], by simp [go_sem, *]⟩))
    (first | (go_at_call 45; go_split_ands; refine (search_int 46 #[.pointer (some ⟨w.heap.size + 1, 0, none⟩), .pointer (some ⟨w.heap.size, 0, none⟩), .pointer (some ⟨w.heap.size + 1 + 1, 0, none⟩)] _ (lowP a l d t) _ enters46 (by omega) (by omega) (fun i W hi hB => clos_low a l u d t i _ _ _ W hv (by omega) ⟨by omega, by omega⟩ (keepC hB (by assumption)) (keepC hB (by assumption)) (keepC hB (by assumption))) (fun i j h hp => lowP_mono d0 d1 h hp)).mono ?_; rintro e w' ⟨rfl, hb⟩))
  rename_i hH
  obtain ⟨hB, hz1, _, _, _⟩ := hH
  clear hb
  go_wp2
  go_ret
  exact ⟨ri (by rw [IntWalk.i64_in _ (by omega)]; rfl), hB⟩

set_option maxHeartbeats 1600000 in
theorem firstH (a l u d t : Int) (w : World) (hv : vld a l u d = true) (t0 : -1000000000 ≤ t ∧ t ≤ 1000000000) :
    Calls Try.prog 38 #[ck a l u d, .func (.func 34) #[ck a l u d] #[], .int .i64 t] w fun e w' => e = .returned (.int .i64 (fstH a u d t)) ∧ Below w.heap.size w w' := by
  obtain ⟨a0, a1, d0, d1, l0, l1, l2, u0, u1⟩ := vld_bd hv
  have hw : IntKind.i64.wrap (10000001 - a) = 10000001 - a := IntWalk.i64_in _ (by omega)
  have hbd := lst_le (highP a u d t) (10000001 - a).toNat
  go_enter Try.func38, Try.ntmps38
  go_wp2_with fail
  go_region_held3 (fun w' => Below w.heap.size w w' ∧ w.heap.size ≤ w'.heap.size ∧ w'.cell? ⟨w.heap.size + 1, 0, none⟩ = some (.func (.func 34) #[ck a l u d] #[]) ∧ w'.cell? ⟨w.heap.size, 0, none⟩ = some (.int .i64 a) ∧ w'.cell? ⟨w.heap.size + 1 + 1, 0, none⟩ = some (.int .i64 t))
    (first | (go_split_ands; exact ⟨keepB (by assumption) (by assumption) hb, Nat.le_trans (by assumption) hb.size, keepC hb (by assumption), keepC hb (by assumption), keepC hb (by assumption)⟩) | (go_split_ands; exact ⟨by (repeat' (first | (with_reducible exact Below.refl _ _) | (with_reducible assumption) | (with_reducible refine Below.alloc ?_ ?_ _) | (with_reducible refine Below.drew ?_) | (with_reducible refine Below.setCell ?_ ?_ _) | (with_reducible refine keepB ?_ ?_ (by assumption)) | omega | (simp; done) | (simp; omega))), by simp <;> omega, by simp [go_sem, *], by simp [go_sem, *], by simp [go_sem, *]⟩) | (exact ⟨by (repeat' (first | (with_reducible exact Below.refl _ _) | (with_reducible assumption) | (with_reducible refine Below.alloc ?_ ?_ _) | (with_reducible refine Below.drew ?_) | (with_reducible refine Below.setCell ?_ ?_ _) | (with_reducible refine keepB ?_ ?_ (by assumption)) | omega | (simp; done) | (simp; omega))), by simp <;> omega, by simp [go_sem, *], by simp [go_sem, *], by simp [go_sem, *]⟩))
    (first | (go_at_call 45; go_split_ands; refine (search_int 46 #[.pointer (some ⟨w.heap.size + 1, 0, none⟩), .pointer (some ⟨w.heap.size, 0, none⟩), .pointer (some ⟨w.heap.size + 1 + 1, 0, none⟩)] _ (highP a u d t) _ enters46 (by omega) (by omega) (fun i W hi hB => clos_high a l u d t i _ _ _ W hv (by omega) ⟨by omega, by omega⟩ (keepC hB (by assumption)) (keepC hB (by assumption)) (keepC hB (by assumption))) (fun i j h hp => highP_mono d0 d1 h hp)).mono ?_; rintro e w' ⟨rfl, hb⟩))
  rename_i hH
  obtain ⟨hB, hz1, _, _, _⟩ := hH
  clear hb
  go_wp2
  go_ret
  exact ⟨ri (by rw [IntWalk.i64_in _ (by omega)]; rfl), hB⟩

end Go.Proofs.Ytphmfkellojecaa
