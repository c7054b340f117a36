/- Walks over the clock's small functions. -/
import Derived.Test.YtphmfkellojecaaRows
import Derived.WalkKit
import Derived.WalkSpells
import Derived.WalkLawsBesides
import Derived.Lib.Hide
import Derived.Deep.QuietTactic
import Derived.BigQuiet
import Derived.Deep.RegionHeld3
import Derived.Handy
set_option linter.unusedVariables false
set_option linter.unusedSimpArgs false
namespace Go.Proofs.Ytphmfkellojecaa
open Go.RowKit

theorem bsome {W w1 : World} (hb : Below W.heap.size W w1) : (∀ b o, (W.cell? ⟨b, o, none⟩).isSome = true → w1.cell? ⟨b, o, none⟩ = W.cell? ⟨b, o, none⟩) ∧ (∀ b o, (W.cell? ⟨b, o, none⟩).isSome = true → w1.frozen? ⟨b, o, none⟩ = W.frozen? ⟨b, o, none⟩) ∧ W.heap.size ≤ w1.heap.size :=
  ⟨fun b o h => (Option.isSome_iff_exists.1 h).elim fun _ hv => hb.cell (p := ⟨b, o, none⟩) (World.block_lt_of_cell? W _ hv), fun b o h => (Option.isSome_iff_exists.1 h).elim fun _ hv => hb.frozen (p := ⟨b, o, none⟩) (World.block_lt_of_cell? W _ hv), hb.size⟩
theorem frozen_alloc_some (w : World) (a : Addr) (o : Obj) (h : (w.cell? a).isSome = true) : (w.alloc o).frozen? a = w.frozen? a :=
  (Option.isSome_iff_exists.1 h).elim fun _ hv => World.frozen?_alloc_old _ _ _ (Nat.ne_of_lt (World.block_lt_of_cell? w a hv))
abbrev sp (l u : Int) : Value := .agg #[.int .i64 l, .int .i64 u]
abbrev ck (a l u d : Int) : Value := .agg #[.int .i64 a, .int .i64 l, .int .i64 u, .int .i64 d]
def tm (t : Int) : Bool := decide (0 ≤ t ∧ t ≤ 10000000)
def sg (l u : Int) : Bool := decide ((0 ≤ l ∧ l ≤ 10000000) ∧ (0 ≤ u ∧ u ≤ 10000000) ∧ l ≤ u)
def sv (l u : Int) : Bool := decide (-1000000000000 ≤ l ∧ l ≤ u ∧ u ≤ 1000000000000)
def vld (a l u d : Int) : Bool := decide ((0 ≤ a ∧ a ≤ 10000000) ∧ 0 ≤ d ∧ d ≤ 1000 ∧ -100000 ≤ l ∧ l ≤ u ∧ u ≤ 100000)
def slip (a d r : Int) : Int := d * (r - a) / 1000000
theorem rb {a b : Bool} (u : a = b) : Ending.returned (.bool a) = .returned (.bool b) := by rw [u]
theorem ri {k : IntKind} {a b : Int} (u : a = b) : Ending.returned (.int k a) = .returned (.int k b) := by rw [u]
theorem be {p : Prop} [Decidable p] {b : Bool} (u : p ↔ b = true) : b = decide p := by cases b <;> simp_all

set_option maxHeartbeats 400000 in
theorem moment_any (t : Int) (w : World) :
    Calls Try.prog 29 #[.int .i64 t] w fun e w' => e = .returned (.bool (tm t)) ∧ w = w' := by
  go_enter Try.func29, Try.ntmps29
  go_wp2
  all_goals (go_ret; exact ⟨rb (be (by simp; omega)), rfl⟩)
set_option maxHeartbeats 400000 in
theorem rmoment_any (t : Int) (w : World) :
    Calls Try.prog 30 #[.int .i64 t] w fun e w' => e = .returned (.bool (tm t)) ∧ w = w' := by
  go_enter Try.func30, Try.ntmps30
  go_wp2
  all_goals (go_ret; exact ⟨rb (be (by simp; omega)), rfl⟩)
set_option maxHeartbeats 400000 in
theorem spanValid_any (l u : Int) (w : World) :
    Calls Try.prog 42 #[sp l u] w fun e w' => e = .returned (.bool (sv l u)) ∧ Below w.heap.size w w' := by
  go_enter Try.func42, Try.ntmps42
  go_wp2
  all_goals (go_ret; exact ⟨rb (be (by simp; omega)), (Below.refl _ _).alloc (Nat.le_refl _) _⟩)
set_option maxHeartbeats 400000 in
theorem signal_any (l u : Int) (w : World) :
    Calls Try.prog 40 #[sp l u] w fun e w' => e = .returned (.bool (sg l u)) ∧ Below w.heap.size w w' := by
  go_enter Try.func40, Try.ntmps40
  go_wp2
  all_goals (go_ret; exact ⟨rb (be (by simp; omega)), (Below.refl _ _).alloc (Nat.le_refl _) _⟩)
set_option maxHeartbeats 400000 in
theorem valid_any (a l u d : Int) (w : World) :
    Calls Try.prog 12 #[ck a l u d] w fun e w' => e = .returned (.bool (vld a l u d)) ∧ Below w.heap.size w w' := by
  go_enter Try.func12, Try.ntmps12
  go_wp2
  all_goals (go_ret; exact ⟨rb (be (by simp; omega)), (Below.refl _ _).alloc (Nat.le_refl _) _⟩)

set_option maxHeartbeats 400000 in
theorem rsignal_any (l u : Int) (w : World) :
    Calls Try.prog 41 #[sp l u] w fun e w' => e = .returned (.bool (sg l u)) ∧ Below w.heap.size w w' := by
  go_enter Try.func41, Try.ntmps41
  go_wp2
  all_goals (go_ret; exact ⟨rb (be (by simp; omega)), (Below.refl _ _).alloc (Nat.le_refl _) _⟩)
set_option maxHeartbeats 400000 in
theorem rvalid_any (a l u d : Int) (w : World) :
    Calls Try.prog 13 #[ck a l u d] w fun e w' => e = .returned (.bool (vld a l u d)) ∧ Below w.heap.size w w' := by
  go_enter Try.func13, Try.ntmps13
  go_wp2
  all_goals (go_ret; exact ⟨rb (be (by simp; omega)), (Below.refl _ _).alloc (Nat.le_refl _) _⟩)
def rdg (a r : Int) : Bool := decide (a ≤ r ∧ r ≤ 10000000)
set_option maxHeartbeats 400000 in
theorem rreading_any (a l u d r : Int) (w : World) :
    Calls Try.prog 35 #[ck a l u d, .int .i64 r] w fun e w' => e = .returned (.bool (rdg a r)) ∧ Below w.heap.size w w' := by
  go_enter Try.func35, Try.ntmps35
  go_wp2
  all_goals (go_ret; exact ⟨rb (be (by simp; omega)), (Below.refl _ _).alloc (Nat.le_refl _) _⟩)
theorem prod_bd (d x : Int) (h0 : 0 ≤ d) (h1 : d ≤ 1000) (h2 : 0 ≤ x) (h3 : x ≤ 10000001) : 0 ≤ d * x ∧ d * x ≤ 10000001000 := by
  have a := Int.mul_nonneg h0 h2
  have b : d * x ≤ 1000 * 10000001 := Int.mul_le_mul h1 h3 h2 (by omega)
  omega
theorem keepC {W w1 : World} {a : Addr} {v : Value} (hb : Below W.heap.size W w1) (u : W.cell? a = some v) : w1.cell? a = some v := (hb.cell (World.block_lt_of_cell? W a u)).trans u
theorem keepF {W w1 : World} {a : Addr} {v : Value} (hb : Below W.heap.size W w1) (u : W.cell? a = some v) (hf : W.frozen? a = false) : w1.frozen? a = false := (hb.frozen (World.block_lt_of_cell? W a u)).trans hf
theorem keepS {W w1 : World} {a : Addr} (hb : Below W.heap.size W w1) (h : (W.cell? a).isSome = true) : (w1.cell? a).isSome = true := (Option.isSome_iff_exists.1 h).elim fun _ hv => by rw [keepC hb hv]; rfl
theorem keepSF {W w1 : World} {a : Addr} (hb : Below W.heap.size W w1) (h : (W.cell? a).isSome = true) (hf : W.frozen? a = false) : w1.frozen? a = false := (Option.isSome_iff_exists.1 h).elim fun _ hv => keepF hb hv hf
def cv (w : World) (b o : Nat) : Value := (w.cell? ⟨b, o, none⟩).getD undef
theorem cv_some {w : World} {b o : Nat} (h : (w.cell? ⟨b, o, none⟩).isSome = true) : w.cell? ⟨b, o, none⟩ = some (cv w b o) := by
  obtain ⟨v, hv⟩ := Option.isSome_iff_exists.1 h
  rw [cv, hv]; rfl
theorem set_get {w : World} {a : Addr} {v x : Value} (h : (w.setCell a v).cell? a = some x) : (w.setCell a v).cell? a = some v := by
  cases hc : w.cell? a with
  | some u => exact World.cell?_setCell_same w a v hc
  | none =>
    exfalso
    simp only [World.setCell, World.cell?, Array.getElem?_modify] at h hc
    cases hb : w.heap[a.block]? with
    | none => simp [hb] at h
    | some o =>
      cases o <;> simp [hb] at h hc
      split at h
      · simp_all
      · simp_all
theorem set_get2 {w : World} {b o b' o' : Nat} {v y x : Value} (hne : b ≠ b' ∨ o ≠ o') (h : ((w.setCell ⟨b, o, none⟩ v).setCell ⟨b', o', none⟩ y).cell? ⟨b, o, none⟩ = some x) : ((w.setCell ⟨b, o, none⟩ v).setCell ⟨b', o', none⟩ y).cell? ⟨b, o, none⟩ = some v := by
  have hn : (⟨b', o', none⟩ : Addr) ≠ ⟨b, o, none⟩ := fun e => by injection e; omega
  rw [World.cell?_setCell_other _ _ _ _ hn] at h ⊢
  exact set_get h
theorem keepB {n : Nat} {w W w1 : World} (u : Below n w W) (hn : n ≤ W.heap.size) (hb : Below W.heap.size W w1) : Below n w w1 := u.trans (hb.mono hn)
theorem below_new (w : World) (o : Obj) : Below w.heap.size w (w.alloc o) := (Below.refl _ _).alloc (Nat.le_refl _) o
theorem below_le {n : Nat} {w W : World} (u : Below n w W) (hn : n ≤ w.heap.size) : n ≤ W.heap.size := Nat.le_trans hn u.size
set_option maxHeartbeats 400000 in
theorem slip_any (a l u d r : Int) (w : World) (a0 : 0 ≤ a) (d0 : 0 ≤ d) (d1 : d ≤ 1000) (r0 : a ≤ r) (r1 : r ≤ 10000001) :
    Calls Try.prog 43 #[ck a l u d, .int .i64 r] w fun e w' => e = .returned (.int .i64 (slip a d r)) ∧ Below w.heap.size w w' := by
  obtain ⟨p0, p1⟩ := prod_bd d (r - a) d0 d1 (by omega) (by omega)
  go_enter Try.func43, Try.ntmps43
  go_wp2
  go_ret; exact ⟨ri (by simp [slip]), below_new _ _⟩
set_option maxHeartbeats 400000 in
theorem rslip_any (a l u d r : Int) (w : World) (a0 : 0 ≤ a) (d0 : 0 ≤ d) (d1 : d ≤ 1000) (r0 : a ≤ r) (r1 : r ≤ 10000001) :
    Calls Try.prog 44 #[ck a l u d, .int .i64 r] w fun e w' => e = .returned (.int .i64 (slip a d r)) ∧ Below w.heap.size w w' := by
  obtain ⟨p0, p1⟩ := prod_bd d (r - a) d0 d1 (by omega) (by omega)
  go_enter Try.func44, Try.ntmps44
  go_wp2
  go_ret; exact ⟨ri (by simp [slip]), below_new _ _⟩
theorem slip_bd (a d r : Int) (d0 : 0 ≤ d) (d1 : d ≤ 1000) (r0 : a ≤ r) (r1 : r - a ≤ 10000001) : 0 ≤ slip a d r ∧ slip a d r ≤ 10001 := by
  obtain ⟨p0, p1⟩ := prod_bd d (r - a) d0 d1 (by omega) (by omega)
  unfold slip; omega

theorem vld_bd {a l u d : Int} (hv : vld a l u d = true) : 0 ≤ a ∧ a ≤ 10000000 ∧ 0 ≤ d ∧ d ≤ 1000 ∧ -100000 ≤ l ∧ l ≤ 100000 ∧ l ≤ u ∧ -100000 ≤ u ∧ u ≤ 100000 := by
  have := of_decide_eq_true hv; omega

set_option maxHeartbeats 800000 in
theorem low_any (a l u d r : Int) (w : World) (hv : vld a l u d = true) (r0 : a ≤ r) (r1 : r ≤ 10000001) :
    Calls Try.prog 33 #[ck a l u d, .int .i64 r] w fun e w' => e = .returned (.int .i64 (r + l - slip a d r)) ∧ Below w.heap.size w w' := by
  obtain ⟨a0, a1, d0, d1, l0, l1, l2, h0, h1⟩ := vld_bd hv
  clear hv
  obtain ⟨p0, p1⟩ := slip_bd a d r d0 d1 r0 (by omega)
  go_enter Try.func33, Try.ntmps33
  go_wp2_with fail
  go_region_held3 (fun w' => Below w.heap.size w w' ∧ w.heap.size ≤ w'.heap.size ∧ w'.cell? ⟨w.heap.size, 0, none⟩ = some (.int .i64 a) ∧ w'.cell? ⟨w.heap.size, 1, none⟩ = some (.int .i64 l)
      ∧ w'.cell? ⟨w.heap.size, 2, none⟩ = some (.int .i64 u) ∧ w'.cell? ⟨w.heap.size, 3, none⟩ = some (.int .i64 d))
    (first
      | (exact ⟨(below_new _ _).drew, by simp, by simp, by simp, by simp, by simp⟩)
      | (go_split_ands; exact ⟨keepB (by assumption) (by assumption) hb, Nat.le_trans (by assumption) hb.size, keepC hb (by assumption), keepC hb (by assumption), keepC hb (by assumption), keepC hb (by assumption)⟩))
    ((go_at_call 43; refine (slip_any a l u d r _ a0 d0 d1 r0 r1).mono ?_; rintro e w' ⟨rfl, hb⟩))
  rename_i hH
  have hB := hH.1
  clear hH hb
  go_wp2
  go_ret
  exact ⟨ri (by simp (disch := omega) only [IntWalk.i64_in]), hB⟩

set_option maxHeartbeats 800000 in
theorem high_any (a l u d r : Int) (w : World) (hv : vld a l u d = true) (r0 : a ≤ r) (r1 : r ≤ 10000001) :
    Calls Try.prog 34 #[ck a l u d, .int .i64 r] w fun e w' => e = .returned (.int .i64 (r + u + slip a d r)) ∧ Below w.heap.size w w' := by
  obtain ⟨a0, a1, d0, d1, l0, l1, l2, h0, h1⟩ := vld_bd hv
  clear hv
  obtain ⟨p0, p1⟩ := slip_bd a d r d0 d1 r0 (by omega)
  go_enter Try.func34, Try.ntmps34
  go_wp2_with fail
  go_region_held3 (fun w' => Below w.heap.size w w' ∧ w.heap.size ≤ w'.heap.size ∧ w'.cell? ⟨w.heap.size, 0, none⟩ = some (.int .i64 a) ∧ w'.cell? ⟨w.heap.size, 1, none⟩ = some (.int .i64 l)
      ∧ w'.cell? ⟨w.heap.size, 2, none⟩ = some (.int .i64 u) ∧ w'.cell? ⟨w.heap.size, 3, none⟩ = some (.int .i64 d))
    (first
      | (exact ⟨(below_new _ _).drew, by simp, by simp, by simp, by simp, by simp⟩)
      | (go_split_ands; exact ⟨keepB (by assumption) (by assumption) hb, Nat.le_trans (by assumption) hb.size, keepC hb (by assumption), keepC hb (by assumption), keepC hb (by assumption), keepC hb (by assumption)⟩))
    ((go_at_call 43; refine (slip_any a l u d r _ a0 d0 d1 r0 r1).mono ?_; rintro e w' ⟨rfl, hb⟩))
  rename_i hH
  have hB := hH.1
  clear hH hb
  go_wp2
  go_ret
  exact ⟨ri (by simp (disch := omega) only [IntWalk.i64_in]), hB⟩

set_option maxHeartbeats 800000 in
theorem rlow_any (a l u d r : Int) (w : World) (hv : vld a l u d = true) (r0 : a ≤ r) (r1 : r ≤ 10000001) :
    Calls Try.prog 36 #[ck a l u d, .int .i64 r] w fun e w' => e = .returned (.int .i64 (r + l - slip a d r)) ∧ Below w.heap.size w w' := by
  obtain ⟨a0, a1, d0, d1, l0, l1, l2, h0, h1⟩ := vld_bd hv
  clear hv
  obtain ⟨p0, p1⟩ := slip_bd a d r d0 d1 r0 (by omega)
  go_enter Try.func36, Try.ntmps36
  go_wp2_with fail
  go_region_held3 (fun w' => Below w.heap.size w w' ∧ w.heap.size ≤ w'.heap.size ∧ w'.cell? ⟨w.heap.size, 0, none⟩ = some (.int .i64 a) ∧ w'.cell? ⟨w.heap.size, 1, none⟩ = some (.int .i64 l)
      ∧ w'.cell? ⟨w.heap.size, 2, none⟩ = some (.int .i64 u) ∧ w'.cell? ⟨w.heap.size, 3, none⟩ = some (.int .i64 d))
    (first
      | (exact ⟨(below_new _ _).drew, by simp, by simp, by simp, by simp, by simp⟩)
      | (go_split_ands; exact ⟨keepB (by assumption) (by assumption) hb, Nat.le_trans (by assumption) hb.size, keepC hb (by assumption), keepC hb (by assumption), keepC hb (by assumption), keepC hb (by assumption)⟩))
    ((go_at_call 44; refine (rslip_any a l u d r _ a0 d0 d1 r0 r1).mono ?_; rintro e w' ⟨rfl, hb⟩))
  rename_i hH
  have hB := hH.1
  clear hH hb
  go_wp2
  go_ret
  exact ⟨ri (by simp (disch := omega) only [IntWalk.i64_in]), hB⟩

set_option maxHeartbeats 800000 in
theorem rhigh_any (a l u d r : Int) (w : World) (hv : vld a l u d = true) (r0 : a ≤ r) (r1 : r ≤ 10000001) :
    Calls Try.prog 37 #[ck a l u d, .int .i64 r] w fun e w' => e = .returned (.int .i64 (r + u + slip a d r)) ∧ Below w.heap.size w w' := by
  obtain ⟨a0, a1, d0, d1, l0, l1, l2, h0, h1⟩ := vld_bd hv
  clear hv
  obtain ⟨p0, p1⟩ := slip_bd a d r d0 d1 r0 (by omega)
  go_enter Try.func37, Try.ntmps37
  go_wp2_with fail
  go_region_held3 (fun w' => Below w.heap.size w w' ∧ w.heap.size ≤ w'.heap.size ∧ w'.cell? ⟨w.heap.size, 0, none⟩ = some (.int .i64 a) ∧ w'.cell? ⟨w.heap.size, 1, none⟩ = some (.int .i64 l)
      ∧ w'.cell? ⟨w.heap.size, 2, none⟩ = some (.int .i64 u) ∧ w'.cell? ⟨w.heap.size, 3, none⟩ = some (.int .i64 d))
    (first
      | (exact ⟨(below_new _ _).drew, by simp, by simp, by simp, by simp, by simp⟩)
      | (go_split_ands; exact ⟨keepB (by assumption) (by assumption) hb, Nat.le_trans (by assumption) hb.size, keepC hb (by assumption), keepC hb (by assumption), keepC hb (by assumption), keepC hb (by assumption)⟩))
    ((go_at_call 44; refine (rslip_any a l u d r _ a0 d0 d1 r0 r1).mono ?_; rintro e w' ⟨rfl, hb⟩))
  rename_i hH
  have hB := hH.1
  clear hH hb
  go_wp2
  go_ret
  exact ⟨ri (by simp (disch := omega) only [IntWalk.i64_in]), hB⟩
end Go.Proofs.Ytphmfkellojecaa
