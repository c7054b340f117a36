/- Tide: Next. -/
import Derived.Test.YtmljnelmnagfoaaY
import Derived.OwnWalk
set_option linter.unusedVariables false
set_option linter.unusedSimpArgs false
namespace Go.Proofs.Ytmljnelmnagfoaa
open Go.RowKit
attribute [local go_sem] World.cell?_alloc_some frozen_alloc_some isSome_alloc isSome_setCell

theorem we_01 (s st : Int) (n : Nat) (lo hi : Nat → Int) (need : Int) : WE s st n lo hi need = 0 ∨ WE s st n lo hi need = 1 := by
  unfold WE; cases (tval s st n lo hi && nd need) <;> simp
def nres (o : Option Nat) (g : Nat → Int) : Value := match o with | some k => .tuple #[.int .i64 (g k), .int .i64 0] | none => .tuple #[.int .i64 0, .int .i64 4]
def NE (s st : Int) (n : Nat) (lo hi : Nat → Int) (need f long : Int) : Int :=
  if WE s st n lo hi need = 0 ∧ tm f = true ∧ tm long = true then (match nxO (WS s st n lo hi need).length (L1 (WS s st n lo hi need)) (L2 (WS s st n lo hi need)) f long with | some _ => 0 | none => 4) else 1
def NV (s st : Int) (n : Nat) (lo hi : Nat → Int) (need f long : Int) : Int :=
  if WE s st n lo hi need = 0 ∧ tm f = true ∧ tm long = true then (match nxO (WS s st n lo hi need).length (L1 (WS s st n lo hi need)) (L2 (WS s st n lo hi need)) f long with | some k => max (L1 (WS s st n lo hi need) k) f | none => 0) else 0

set_option maxHeartbeats 1600000 in
theorem next_b1 (s st : Int) (p : Option Addr) (n c : Nat) (lo hi : Nat → Int) (need f long : Int) (w : World) (hL : Lie w p n lo hi) (hW : WE s st n lo hi need = 1) (h2 : tm f = false) (h3 : tm long = false) :
    Calls Try.prog 20 #[tv s st p n c, .int .i64 need, .int .i64 f, .int .i64 long] w fun e w' => e = .returned (.tuple #[.int .i64 0, .int .i64 1]) ∧ Below w.heap.size w w' := by
  go_enter Try.func20, Try.ntmps20
  go_wp2_with (first | (go_at_call 17; refine (windows_any s st p n c lo hi need _ (hL.keep (by (repeat' (first | (with_reducible assumption) | (with_reducible exact Below.refl _ _) | (with_reducible exact Cels.nil _) | (with_reducible refine Cels.cons ?_ ?_) | (with_reducible refine Own.mk ?_ ?_ ?_ ?_) | ((with_reducible refine Cel.new ?_ rfl); first | (with_reducible rfl) | omega | (simp; done) | (simp; omega)) | (with_reducible refine Cel.alloc ?_ _) | (with_reducible refine Cel.drew ?_) | (with_reducible refine Cel.setS ?_ _) | (with_reducible refine Has.set ?_ _ _) | (with_reducible exact Has.of (by assumption)) | (with_reducible refine Cel.setO ?_ ?_ _) | (with_reducible refine Cel.keep (by assumption) ?_) | (with_reducible refine Below.alloc ?_ ?_ _) | (with_reducible refine Below.drew ?_) | (with_reducible refine Below.setCell ?_ ?_ _) | (with_reducible refine below_keep ?_ ?_ (by assumption)) | omega | (simp; done) | (simp; omega)))))).mono ?_; rintro e w1 ⟨⟨p', c', rfl, hl⟩, hb⟩; rw [hW]; have hs := hb.size; (try simp at hs); have hB : Below w.heap.size w w1 := (by (repeat' (first | (with_reducible assumption) | (with_reducible exact Below.refl _ _) | (with_reducible exact Cels.nil _) | (with_reducible refine Cels.cons ?_ ?_) | (with_reducible refine Own.mk ?_ ?_ ?_ ?_) | ((with_reducible refine Cel.new ?_ rfl); first | (with_reducible rfl) | omega | (simp; done) | (simp; omega)) | (with_reducible refine Cel.alloc ?_ _) | (with_reducible refine Cel.drew ?_) | (with_reducible refine Cel.setS ?_ _) | (with_reducible refine Has.set ?_ _ _) | (with_reducible exact Has.of (by assumption)) | (with_reducible refine Cel.setO ?_ ?_ _) | (with_reducible refine Cel.keep (by assumption) ?_) | (with_reducible refine Below.alloc ?_ ?_ _) | (with_reducible refine Below.drew ?_) | (with_reducible refine Below.setCell ?_ ?_ _) | (with_reducible refine below_keep ?_ ?_ (by assumption)) | omega | (simp; done) | (simp; omega)))); clear hb) | (go_at_call 38; refine (isTime_any _ _).mono ?_; rintro e w' ⟨rfl, rfl⟩))
  all_goals
    go_ret2
    refine ⟨rfl, ?_⟩
    (repeat' (first | (with_reducible assumption) | (with_reducible exact Below.refl _ _) | (with_reducible exact Cels.nil _) | (with_reducible refine Cels.cons ?_ ?_) | (with_reducible refine Own.mk ?_ ?_ ?_ ?_) | ((with_reducible refine Cel.new ?_ rfl); first | (with_reducible rfl) | omega | (simp; done) | (simp; omega)) | (with_reducible refine Cel.alloc ?_ _) | (with_reducible refine Cel.drew ?_) | (with_reducible refine Cel.setS ?_ _) | (with_reducible refine Has.set ?_ _ _) | (with_reducible exact Has.of (by assumption)) | (with_reducible refine Cel.setO ?_ ?_ _) | (with_reducible refine Cel.keep (by assumption) ?_) | (with_reducible refine Below.alloc ?_ ?_ _) | (with_reducible refine Below.drew ?_) | (with_reducible refine Below.setCell ?_ ?_ _) | (with_reducible refine below_keep ?_ ?_ (by assumption)) | omega | (simp; done) | (simp; omega)))

set_option maxHeartbeats 1600000 in
theorem next_b1b (s st : Int) (p : Option Addr) (n c : Nat) (lo hi : Nat → Int) (need f long : Int) (w : World) (hL : Lie w p n lo hi) (hW : WE s st n lo hi need = 1) (h2 : tm f = true) (h3 : tm long = false) :
    Calls Try.prog 20 #[tv s st p n c, .int .i64 need, .int .i64 f, .int .i64 long] w fun e w' => e = .returned (.tuple #[.int .i64 0, .int .i64 1]) ∧ Below w.heap.size w w' := by
  go_enter Try.func20, Try.ntmps20
  go_wp2_with (first | (go_at_call 17; refine (windows_any s st p n c lo hi need _ (hL.keep (by (repeat' (first | (with_reducible assumption) | (with_reducible exact Below.refl _ _) | (with_reducible exact Cels.nil _) | (with_reducible refine Cels.cons ?_ ?_) | (with_reducible refine Own.mk ?_ ?_ ?_ ?_) | ((with_reducible refine Cel.new ?_ rfl); first | (with_reducible rfl) | omega | (simp; done) | (simp; omega)) | (with_reducible refine Cel.alloc ?_ _) | (with_reducible refine Cel.drew ?_) | (with_reducible refine Cel.setS ?_ _) | (with_reducible refine Has.set ?_ _ _) | (with_reducible exact Has.of (by assumption)) | (with_reducible refine Cel.setO ?_ ?_ _) | (with_reducible refine Cel.keep (by assumption) ?_) | (with_reducible refine Below.alloc ?_ ?_ _) | (with_reducible refine Below.drew ?_) | (with_reducible refine Below.setCell ?_ ?_ _) | (with_reducible refine below_keep ?_ ?_ (by assumption)) | omega | (simp; done) | (simp; omega)))))).mono ?_; rintro e w1 ⟨⟨p', c', rfl, hl⟩, hb⟩; rw [hW]; have hs := hb.size; (try simp at hs); have hB : Below w.heap.size w w1 := (by (repeat' (first | (with_reducible assumption) | (with_reducible exact Below.refl _ _) | (with_reducible exact Cels.nil _) | (with_reducible refine Cels.cons ?_ ?_) | (with_reducible refine Own.mk ?_ ?_ ?_ ?_) | ((with_reducible refine Cel.new ?_ rfl); first | (with_reducible rfl) | omega | (simp; done) | (simp; omega)) | (with_reducible refine Cel.alloc ?_ _) | (with_reducible refine Cel.drew ?_) | (with_reducible refine Cel.setS ?_ _) | (with_reducible refine Has.set ?_ _ _) | (with_reducible exact Has.of (by assumption)) | (with_reducible refine Cel.setO ?_ ?_ _) | (with_reducible refine Cel.keep (by assumption) ?_) | (with_reducible refine Below.alloc ?_ ?_ _) | (with_reducible refine Below.drew ?_) | (with_reducible refine Below.setCell ?_ ?_ _) | (with_reducible refine below_keep ?_ ?_ (by assumption)) | omega | (simp; done) | (simp; omega)))); clear hb) | (go_at_call 38; refine (isTime_any _ _).mono ?_; rintro e w' ⟨rfl, rfl⟩))
  all_goals
    go_ret2
    refine ⟨rfl, ?_⟩
    (repeat' (first | (with_reducible assumption) | (with_reducible exact Below.refl _ _) | (with_reducible exact Cels.nil _) | (with_reducible refine Cels.cons ?_ ?_) | (with_reducible refine Own.mk ?_ ?_ ?_ ?_) | ((with_reducible refine Cel.new ?_ rfl); first | (with_reducible rfl) | omega | (simp; done) | (simp; omega)) | (with_reducible refine Cel.alloc ?_ _) | (with_reducible refine Cel.drew ?_) | (with_reducible refine Cel.setS ?_ _) | (with_reducible refine Has.set ?_ _ _) | (with_reducible exact Has.of (by assumption)) | (with_reducible refine Cel.setO ?_ ?_ _) | (with_reducible refine Cel.keep (by assumption) ?_) | (with_reducible refine Below.alloc ?_ ?_ _) | (with_reducible refine Below.drew ?_) | (with_reducible refine Below.setCell ?_ ?_ _) | (with_reducible refine below_keep ?_ ?_ (by assumption)) | omega | (simp; done) | (simp; omega)))

set_option maxHeartbeats 1600000 in
theorem next_b1c (s st : Int) (p : Option Addr) (n c : Nat) (lo hi : Nat → Int) (need f long : Int) (w : World) (hL : Lie w p n lo hi) (hW : WE s st n lo hi need = 1) (h2 : tm f = false) (h3 : tm long = true) :
    Calls Try.prog 20 #[tv s st p n c, .int .i64 need, .int .i64 f, .int .i64 long] w fun e w' => e = .returned (.tuple #[.int .i64 0, .int .i64 1]) ∧ Below w.heap.size w w' := by
  go_enter Try.func20, Try.ntmps20
  go_wp2_with (first | (go_at_call 17; refine (windows_any s st p n c lo hi need _ (hL.keep (by (repeat' (first | (with_reducible assumption) | (with_reducible exact Below.refl _ _) | (with_reducible exact Cels.nil _) | (with_reducible refine Cels.cons ?_ ?_) | (with_reducible refine Own.mk ?_ ?_ ?_ ?_) | ((with_reducible refine Cel.new ?_ rfl); first | (with_reducible rfl) | omega | (simp; done) | (simp; omega)) | (with_reducible refine Cel.alloc ?_ _) | (with_reducible refine Cel.drew ?_) | (with_reducible refine Cel.setS ?_ _) | (with_reducible refine Has.set ?_ _ _) | (with_reducible exact Has.of (by assumption)) | (with_reducible refine Cel.setO ?_ ?_ _) | (with_reducible refine Cel.keep (by assumption) ?_) | (with_reducible refine Below.alloc ?_ ?_ _) | (with_reducible refine Below.drew ?_) | (with_reducible refine Below.setCell ?_ ?_ _) | (with_reducible refine below_keep ?_ ?_ (by assumption)) | omega | (simp; done) | (simp; omega)))))).mono ?_; rintro e w1 ⟨⟨p', c', rfl, hl⟩, hb⟩; rw [hW]; have hs := hb.size; (try simp at hs); have hB : Below w.heap.size w w1 := (by (repeat' (first | (with_reducible assumption) | (with_reducible exact Below.refl _ _) | (with_reducible exact Cels.nil _) | (with_reducible refine Cels.cons ?_ ?_) | (with_reducible refine Own.mk ?_ ?_ ?_ ?_) | ((with_reducible refine Cel.new ?_ rfl); first | (with_reducible rfl) | omega | (simp; done) | (simp; omega)) | (with_reducible refine Cel.alloc ?_ _) | (with_reducible refine Cel.drew ?_) | (with_reducible refine Cel.setS ?_ _) | (with_reducible refine Has.set ?_ _ _) | (with_reducible exact Has.of (by assumption)) | (with_reducible refine Cel.setO ?_ ?_ _) | (with_reducible refine Cel.keep (by assumption) ?_) | (with_reducible refine Below.alloc ?_ ?_ _) | (with_reducible refine Below.drew ?_) | (with_reducible refine Below.setCell ?_ ?_ _) | (with_reducible refine below_keep ?_ ?_ (by assumption)) | omega | (simp; done) | (simp; omega)))); clear hb) | (go_at_call 38; refine (isTime_any _ _).mono ?_; rintro e w' ⟨rfl, rfl⟩))
  all_goals
    go_ret2
    refine ⟨rfl, ?_⟩
    (repeat' (first | (with_reducible assumption) | (with_reducible exact Below.refl _ _) | (with_reducible exact Cels.nil _) | (with_reducible refine Cels.cons ?_ ?_) | (with_reducible refine Own.mk ?_ ?_ ?_ ?_) | ((with_reducible refine Cel.new ?_ rfl); first | (with_reducible rfl) | omega | (simp; done) | (simp; omega)) | (with_reducible refine Cel.alloc ?_ _) | (with_reducible refine Cel.drew ?_) | (with_reducible refine Cel.setS ?_ _) | (with_reducible refine Has.set ?_ _ _) | (with_reducible exact Has.of (by assumption)) | (with_reducible refine Cel.setO ?_ ?_ _) | (with_reducible refine Cel.keep (by assumption) ?_) | (with_reducible refine Below.alloc ?_ ?_ _) | (with_reducible refine Below.drew ?_) | (with_reducible refine Below.setCell ?_ ?_ _) | (with_reducible refine below_keep ?_ ?_ (by assumption)) | omega | (simp; done) | (simp; omega)))

set_option maxHeartbeats 1600000 in
theorem next_b1d (s st : Int) (p : Option Addr) (n c : Nat) (lo hi : Nat → Int) (need f long : Int) (w : World) (hL : Lie w p n lo hi) (hW : WE s st n lo hi need = 1) (h2 : tm f = true) (h3 : tm long = true) :
    Calls Try.prog 20 #[tv s st p n c, .int .i64 need, .int .i64 f, .int .i64 long] w fun e w' => e = .returned (.tuple #[.int .i64 0, .int .i64 1]) ∧ Below w.heap.size w w' := by
  go_enter Try.func20, Try.ntmps20
  go_wp2_with (first | (go_at_call 17; refine (windows_any s st p n c lo hi need _ (hL.keep (by (repeat' (first | (with_reducible assumption) | (with_reducible exact Below.refl _ _) | (with_reducible exact Cels.nil _) | (with_reducible refine Cels.cons ?_ ?_) | (with_reducible refine Own.mk ?_ ?_ ?_ ?_) | ((with_reducible refine Cel.new ?_ rfl); first | (with_reducible rfl) | omega | (simp; done) | (simp; omega)) | (with_reducible refine Cel.alloc ?_ _) | (with_reducible refine Cel.drew ?_) | (with_reducible refine Cel.setS ?_ _) | (with_reducible refine Has.set ?_ _ _) | (with_reducible exact Has.of (by assumption)) | (with_reducible refine Cel.setO ?_ ?_ _) | (with_reducible refine Cel.keep (by assumption) ?_) | (with_reducible refine Below.alloc ?_ ?_ _) | (with_reducible refine Below.drew ?_) | (with_reducible refine Below.setCell ?_ ?_ _) | (with_reducible refine below_keep ?_ ?_ (by assumption)) | omega | (simp; done) | (simp; omega)))))).mono ?_; rintro e w1 ⟨⟨p', c', rfl, hl⟩, hb⟩; rw [hW]; have hs := hb.size; (try simp at hs); have hB : Below w.heap.size w w1 := (by (repeat' (first | (with_reducible assumption) | (with_reducible exact Below.refl _ _) | (with_reducible exact Cels.nil _) | (with_reducible refine Cels.cons ?_ ?_) | (with_reducible refine Own.mk ?_ ?_ ?_ ?_) | ((with_reducible refine Cel.new ?_ rfl); first | (with_reducible rfl) | omega | (simp; done) | (simp; omega)) | (with_reducible refine Cel.alloc ?_ _) | (with_reducible refine Cel.drew ?_) | (with_reducible refine Cel.setS ?_ _) | (with_reducible refine Has.set ?_ _ _) | (with_reducible exact Has.of (by assumption)) | (with_reducible refine Cel.setO ?_ ?_ _) | (with_reducible refine Cel.keep (by assumption) ?_) | (with_reducible refine Below.alloc ?_ ?_ _) | (with_reducible refine Below.drew ?_) | (with_reducible refine Below.setCell ?_ ?_ _) | (with_reducible refine below_keep ?_ ?_ (by assumption)) | omega | (simp; done) | (simp; omega)))); clear hb) | (go_at_call 38; refine (isTime_any _ _).mono ?_; rintro e w' ⟨rfl, rfl⟩))
  all_goals
    go_ret2
    refine ⟨rfl, ?_⟩
    (repeat' (first | (with_reducible assumption) | (with_reducible exact Below.refl _ _) | (with_reducible exact Cels.nil _) | (with_reducible refine Cels.cons ?_ ?_) | (with_reducible refine Own.mk ?_ ?_ ?_ ?_) | ((with_reducible refine Cel.new ?_ rfl); first | (with_reducible rfl) | omega | (simp; done) | (simp; omega)) | (with_reducible refine Cel.alloc ?_ _) | (with_reducible refine Cel.drew ?_) | (with_reducible refine Cel.setS ?_ _) | (with_reducible refine Has.set ?_ _ _) | (with_reducible exact Has.of (by assumption)) | (with_reducible refine Cel.setO ?_ ?_ _) | (with_reducible refine Cel.keep (by assumption) ?_) | (with_reducible refine Below.alloc ?_ ?_ _) | (with_reducible refine Below.drew ?_) | (with_reducible refine Below.setCell ?_ ?_ _) | (with_reducible refine below_keep ?_ ?_ (by assumption)) | omega | (simp; done) | (simp; omega)))

set_option maxHeartbeats 1600000 in
theorem next_b2 (s st : Int) (p : Option Addr) (n c : Nat) (lo hi : Nat → Int) (need f long : Int) (w : World) (hL : Lie w p n lo hi) (hW : WE s st n lo hi need = 0) (h2 : tm f = false) (h3 : tm long = false) :
    Calls Try.prog 20 #[tv s st p n c, .int .i64 need, .int .i64 f, .int .i64 long] w fun e w' => e = .returned (.tuple #[.int .i64 0, .int .i64 1]) ∧ Below w.heap.size w w' := by
  go_enter Try.func20, Try.ntmps20
  go_wp2_with (first | (go_at_call 17; refine (windows_any s st p n c lo hi need _ (hL.keep (by (repeat' (first | (with_reducible assumption) | (with_reducible exact Below.refl _ _) | (with_reducible exact Cels.nil _) | (with_reducible refine Cels.cons ?_ ?_) | (with_reducible refine Own.mk ?_ ?_ ?_ ?_) | ((with_reducible refine Cel.new ?_ rfl); first | (with_reducible rfl) | omega | (simp; done) | (simp; omega)) | (with_reducible refine Cel.alloc ?_ _) | (with_reducible refine Cel.drew ?_) | (with_reducible refine Cel.setS ?_ _) | (with_reducible refine Has.set ?_ _ _) | (with_reducible exact Has.of (by assumption)) | (with_reducible refine Cel.setO ?_ ?_ _) | (with_reducible refine Cel.keep (by assumption) ?_) | (with_reducible refine Below.alloc ?_ ?_ _) | (with_reducible refine Below.drew ?_) | (with_reducible refine Below.setCell ?_ ?_ _) | (with_reducible refine below_keep ?_ ?_ (by assumption)) | omega | (simp; done) | (simp; omega)))))).mono ?_; rintro e w1 ⟨⟨p', c', rfl, hl⟩, hb⟩; rw [hW]; have hs := hb.size; (try simp at hs); have hB : Below w.heap.size w w1 := (by (repeat' (first | (with_reducible assumption) | (with_reducible exact Below.refl _ _) | (with_reducible exact Cels.nil _) | (with_reducible refine Cels.cons ?_ ?_) | (with_reducible refine Own.mk ?_ ?_ ?_ ?_) | ((with_reducible refine Cel.new ?_ rfl); first | (with_reducible rfl) | omega | (simp; done) | (simp; omega)) | (with_reducible refine Cel.alloc ?_ _) | (with_reducible refine Cel.drew ?_) | (with_reducible refine Cel.setS ?_ _) | (with_reducible refine Has.set ?_ _ _) | (with_reducible exact Has.of (by assumption)) | (with_reducible refine Cel.setO ?_ ?_ _) | (with_reducible refine Cel.keep (by assumption) ?_) | (with_reducible refine Below.alloc ?_ ?_ _) | (with_reducible refine Below.drew ?_) | (with_reducible refine Below.setCell ?_ ?_ _) | (with_reducible refine below_keep ?_ ?_ (by assumption)) | omega | (simp; done) | (simp; omega)))); clear hb) | (go_at_call 38; refine (isTime_any _ _).mono ?_; rintro e w' ⟨rfl, rfl⟩))
  all_goals
    go_ret2
    refine ⟨rfl, ?_⟩
    (repeat' (first | (with_reducible assumption) | (with_reducible exact Below.refl _ _) | (with_reducible exact Cels.nil _) | (with_reducible refine Cels.cons ?_ ?_) | (with_reducible refine Own.mk ?_ ?_ ?_ ?_) | ((with_reducible refine Cel.new ?_ rfl); first | (with_reducible rfl) | omega | (simp; done) | (simp; omega)) | (with_reducible refine Cel.alloc ?_ _) | (with_reducible refine Cel.drew ?_) | (with_reducible refine Cel.setS ?_ _) | (with_reducible refine Has.set ?_ _ _) | (with_reducible exact Has.of (by assumption)) | (with_reducible refine Cel.setO ?_ ?_ _) | (with_reducible refine Cel.keep (by assumption) ?_) | (with_reducible refine Below.alloc ?_ ?_ _) | (with_reducible refine Below.drew ?_) | (with_reducible refine Below.setCell ?_ ?_ _) | (with_reducible refine below_keep ?_ ?_ (by assumption)) | omega | (simp; done) | (simp; omega)))

set_option maxHeartbeats 1600000 in
theorem next_b2b (s st : Int) (p : Option Addr) (n c : Nat) (lo hi : Nat → Int) (need f long : Int) (w : World) (hL : Lie w p n lo hi) (hW : WE s st n lo hi need = 0) (h2 : tm f = false) (h3 : tm long = true) :
    Calls Try.prog 20 #[tv s st p n c, .int .i64 need, .int .i64 f, .int .i64 long] w fun e w' => e = .returned (.tuple #[.int .i64 0, .int .i64 1]) ∧ Below w.heap.size w w' := by
  go_enter Try.func20, Try.ntmps20
  go_wp2_with (first | (go_at_call 17; refine (windows_any s st p n c lo hi need _ (hL.keep (by (repeat' (first | (with_reducible assumption) | (with_reducible exact Below.refl _ _) | (with_reducible exact Cels.nil _) | (with_reducible refine Cels.cons ?_ ?_) | (with_reducible refine Own.mk ?_ ?_ ?_ ?_) | ((with_reducible refine Cel.new ?_ rfl); first | (with_reducible rfl) | omega | (simp; done) | (simp; omega)) | (with_reducible refine Cel.alloc ?_ _) | (with_reducible refine Cel.drew ?_) | (with_reducible refine Cel.setS ?_ _) | (with_reducible refine Has.set ?_ _ _) | (with_reducible exact Has.of (by assumption)) | (with_reducible refine Cel.setO ?_ ?_ _) | (with_reducible refine Cel.keep (by assumption) ?_) | (with_reducible refine Below.alloc ?_ ?_ _) | (with_reducible refine Below.drew ?_) | (with_reducible refine Below.setCell ?_ ?_ _) | (with_reducible refine below_keep ?_ ?_ (by assumption)) | omega | (simp; done) | (simp; omega)))))).mono ?_; rintro e w1 ⟨⟨p', c', rfl, hl⟩, hb⟩; rw [hW]; have hs := hb.size; (try simp at hs); have hB : Below w.heap.size w w1 := (by (repeat' (first | (with_reducible assumption) | (with_reducible exact Below.refl _ _) | (with_reducible exact Cels.nil _) | (with_reducible refine Cels.cons ?_ ?_) | (with_reducible refine Own.mk ?_ ?_ ?_ ?_) | ((with_reducible refine Cel.new ?_ rfl); first | (with_reducible rfl) | omega | (simp; done) | (simp; omega)) | (with_reducible refine Cel.alloc ?_ _) | (with_reducible refine Cel.drew ?_) | (with_reducible refine Cel.setS ?_ _) | (with_reducible refine Has.set ?_ _ _) | (with_reducible exact Has.of (by assumption)) | (with_reducible refine Cel.setO ?_ ?_ _) | (with_reducible refine Cel.keep (by assumption) ?_) | (with_reducible refine Below.alloc ?_ ?_ _) | (with_reducible refine Below.drew ?_) | (with_reducible refine Below.setCell ?_ ?_ _) | (with_reducible refine below_keep ?_ ?_ (by assumption)) | omega | (simp; done) | (simp; omega)))); clear hb) | (go_at_call 38; refine (isTime_any _ _).mono ?_; rintro e w' ⟨rfl, rfl⟩))
  all_goals
    go_ret2
    refine ⟨rfl, ?_⟩
    (repeat' (first | (with_reducible assumption) | (with_reducible exact Below.refl _ _) | (with_reducible exact Cels.nil _) | (with_reducible refine Cels.cons ?_ ?_) | (with_reducible refine Own.mk ?_ ?_ ?_ ?_) | ((with_reducible refine Cel.new ?_ rfl); first | (with_reducible rfl) | omega | (simp; done) | (simp; omega)) | (with_reducible refine Cel.alloc ?_ _) | (with_reducible refine Cel.drew ?_) | (with_reducible refine Cel.setS ?_ _) | (with_reducible refine Has.set ?_ _ _) | (with_reducible exact Has.of (by assumption)) | (with_reducible refine Cel.setO ?_ ?_ _) | (with_reducible refine Cel.keep (by assumption) ?_) | (with_reducible refine Below.alloc ?_ ?_ _) | (with_reducible refine Below.drew ?_) | (with_reducible refine Below.setCell ?_ ?_ _) | (with_reducible refine below_keep ?_ ?_ (by assumption)) | omega | (simp; done) | (simp; omega)))

set_option maxHeartbeats 1600000 in
theorem next_b3 (s st : Int) (p : Option Addr) (n c : Nat) (lo hi : Nat → Int) (need f long : Int) (w : World) (hL : Lie w p n lo hi) (hW : WE s st n lo hi need = 0) (h2 : tm f = true) (h3 : tm long = false) :
    Calls Try.prog 20 #[tv s st p n c, .int .i64 need, .int .i64 f, .int .i64 long] w fun e w' => e = .returned (.tuple #[.int .i64 0, .int .i64 1]) ∧ Below w.heap.size w w' := by
  go_enter Try.func20, Try.ntmps20
  go_wp2_with (first | (go_at_call 17; refine (windows_any s st p n c lo hi need _ (hL.keep (by (repeat' (first | (with_reducible assumption) | (with_reducible exact Below.refl _ _) | (with_reducible exact Cels.nil _) | (with_reducible refine Cels.cons ?_ ?_) | (with_reducible refine Own.mk ?_ ?_ ?_ ?_) | ((with_reducible refine Cel.new ?_ rfl); first | (with_reducible rfl) | omega | (simp; done) | (simp; omega)) | (with_reducible refine Cel.alloc ?_ _) | (with_reducible refine Cel.drew ?_) | (with_reducible refine Cel.setS ?_ _) | (with_reducible refine Has.set ?_ _ _) | (with_reducible exact Has.of (by assumption)) | (with_reducible refine Cel.setO ?_ ?_ _) | (with_reducible refine Cel.keep (by assumption) ?_) | (with_reducible refine Below.alloc ?_ ?_ _) | (with_reducible refine Below.drew ?_) | (with_reducible refine Below.setCell ?_ ?_ _) | (with_reducible refine below_keep ?_ ?_ (by assumption)) | omega | (simp; done) | (simp; omega)))))).mono ?_; rintro e w1 ⟨⟨p', c', rfl, hl⟩, hb⟩; rw [hW]; have hs := hb.size; (try simp at hs); have hB : Below w.heap.size w w1 := (by (repeat' (first | (with_reducible assumption) | (with_reducible exact Below.refl _ _) | (with_reducible exact Cels.nil _) | (with_reducible refine Cels.cons ?_ ?_) | (with_reducible refine Own.mk ?_ ?_ ?_ ?_) | ((with_reducible refine Cel.new ?_ rfl); first | (with_reducible rfl) | omega | (simp; done) | (simp; omega)) | (with_reducible refine Cel.alloc ?_ _) | (with_reducible refine Cel.drew ?_) | (with_reducible refine Cel.setS ?_ _) | (with_reducible refine Has.set ?_ _ _) | (with_reducible exact Has.of (by assumption)) | (with_reducible refine Cel.setO ?_ ?_ _) | (with_reducible refine Cel.keep (by assumption) ?_) | (with_reducible refine Below.alloc ?_ ?_ _) | (with_reducible refine Below.drew ?_) | (with_reducible refine Below.setCell ?_ ?_ _) | (with_reducible refine below_keep ?_ ?_ (by assumption)) | omega | (simp; done) | (simp; omega)))); clear hb) | (go_at_call 38; refine (isTime_any _ _).mono ?_; rintro e w' ⟨rfl, rfl⟩))
  all_goals
    go_ret2
    refine ⟨rfl, ?_⟩
    (repeat' (first | (with_reducible assumption) | (with_reducible exact Below.refl _ _) | (with_reducible exact Cels.nil _) | (with_reducible refine Cels.cons ?_ ?_) | (with_reducible refine Own.mk ?_ ?_ ?_ ?_) | ((with_reducible refine Cel.new ?_ rfl); first | (with_reducible rfl) | omega | (simp; done) | (simp; omega)) | (with_reducible refine Cel.alloc ?_ _) | (with_reducible refine Cel.drew ?_) | (with_reducible refine Cel.setS ?_ _) | (with_reducible refine Has.set ?_ _ _) | (with_reducible exact Has.of (by assumption)) | (with_reducible refine Cel.setO ?_ ?_ _) | (with_reducible refine Cel.keep (by assumption) ?_) | (with_reducible refine Below.alloc ?_ ?_ _) | (with_reducible refine Below.drew ?_) | (with_reducible refine Below.setCell ?_ ?_ _) | (with_reducible refine below_keep ?_ ?_ (by assumption)) | omega | (simp; done) | (simp; omega)))

set_option maxHeartbeats 4000000 in
theorem next_ok (s st : Int) (p : Option Addr) (n c : Nat) (lo hi : Nat → Int) (need f long : Int) (w : World) (hL : Lie w p n lo hi) (hW : WE s st n lo hi need = 0) (h2 : tm f = true) (h3 : tm long = true) :
    Calls Try.prog 20 #[tv s st p n c, .int .i64 need, .int .i64 f, .int .i64 long] w fun e w' => e = .returned (nres (nxO (WS s st n lo hi need).length (L1 (WS s st n lo hi need)) (L2 (WS s st n lo hi need)) f long) (fun k => max (L1 (WS s st n lo hi need) k) f)) ∧ Below w.heap.size w w' := by
  obtain ⟨hokw, hlen⟩ := ws_ok s st n lo hi need
  obtain ⟨f0, f1⟩ := tm_bd h2
  obtain ⟨g0, g1⟩ := tm_bd h3
  go_enter Try.func20, Try.ntmps20
  go_wp2_with (first | (go_at_call 17; refine (windows_any s st p n c lo hi need _ (hL.keep (by (repeat' (first | (with_reducible assumption) | (with_reducible exact Below.refl _ _) | (with_reducible exact Cels.nil _) | (with_reducible refine Cels.cons ?_ ?_) | (with_reducible refine Own.mk ?_ ?_ ?_ ?_) | ((with_reducible refine Cel.new ?_ rfl); first | (with_reducible rfl) | omega | (simp; done) | (simp; omega)) | (with_reducible refine Cel.alloc ?_ _) | (with_reducible refine Cel.drew ?_) | (with_reducible refine Cel.setS ?_ _) | (with_reducible refine Has.set ?_ _ _) | (with_reducible exact Has.of (by assumption)) | (with_reducible refine Cel.setO ?_ ?_ _) | (with_reducible refine Cel.keep (by assumption) ?_) | (with_reducible refine Below.alloc ?_ ?_ _) | (with_reducible refine Below.drew ?_) | (with_reducible refine Below.setCell ?_ ?_ _) | (with_reducible refine below_keep ?_ ?_ (by assumption)) | omega | (simp; done) | (simp; omega)))))).mono ?_; rintro e w1 ⟨⟨p', c', rfl, hl⟩, hb⟩; rw [hW]; have hs := hb.size; (try simp at hs); have hB : Below w.heap.size w w1 := (by (repeat' (first | (with_reducible assumption) | (with_reducible exact Below.refl _ _) | (with_reducible exact Cels.nil _) | (with_reducible refine Cels.cons ?_ ?_) | (with_reducible refine Own.mk ?_ ?_ ?_ ?_) | ((with_reducible refine Cel.new ?_ rfl); first | (with_reducible rfl) | omega | (simp; done) | (simp; omega)) | (with_reducible refine Cel.alloc ?_ _) | (with_reducible refine Cel.drew ?_) | (with_reducible refine Cel.setS ?_ _) | (with_reducible refine Has.set ?_ _ _) | (with_reducible exact Has.of (by assumption)) | (with_reducible refine Cel.setO ?_ ?_ _) | (with_reducible refine Cel.keep (by assumption) ?_) | (with_reducible refine Below.alloc ?_ ?_ _) | (with_reducible refine Below.drew ?_) | (with_reducible refine Below.setCell ?_ ?_ _) | (with_reducible refine below_keep ?_ ?_ (by assumption)) | omega | (simp; done) | (simp; omega)))); clear hb) | (go_at_call 38; refine (isTime_any _ _).mono ?_; rintro e w' ⟨rfl, rfl⟩))
  obtain ⟨ws, hws⟩ : ∃ ws, ws = WS s st n lo hi need := ⟨_, rfl⟩
  rw [← hws] at hokw hlen hl
  simp only [← hws]
  have HWS := Lib.hid hws
  clear hws
  go_loopw [35] (fun i wr => ∃ k : Nat, k ≤ ws.length ∧ i = .int .i64 k ∧ (∀ j, j < k → nxC (L1 ws) (L2 ws) f long j = false) ∧ Below w1.heap.size w1 wr) (fun i _ => ws.length - (intOf i).toNat)
  case atStart => exact ⟨0, Nat.zero_le _, rfl, fun j hj => absurd hj (Nat.not_lt_zero _), Below.refl _ _⟩
  case round =>
    obtain ⟨k, hk, rfl, hall, hb1⟩ := hrel
    have hBw : Below w.heap.size w wr := hB.trans (hb1.mono (by omega))
    have hsz := hBw.size
    have hsz1 := hb1.size
    rcases Nat.lt_or_ge k ws.length with hlt | hge
    · obtain hn0 | ⟨b, off, rfl, hc⟩ := hl.keep hb1
      · omega
      obtain ⟨u1, u2, u3⟩ := ws_at hokw hlt
      have c0 := (hc k hlt).1
      have c1 := (hc k hlt).2
      clear hc hl
      by_cases g1 : L1 ws k < f
      · skip
        have em : max (L1 ws k) f = f := by omega
        by_cases g2 : f ≤ L2 ws k - long
        · go_wp2_with fail
          go_ret2
          have hk2 : nxO ws.length (L1 ws) (L2 ws) f long = some k := nxO_hit hall hlt (decide_eq_true (by rw [em]; omega))
          have hws := HWS.out
          subst hws
          rw [hk2]
          refine ⟨?_, (by (repeat' (first | (with_reducible assumption) | (with_reducible exact Below.refl _ _) | (with_reducible exact Cels.nil _) | (with_reducible refine Cels.cons ?_ ?_) | (with_reducible refine Own.mk ?_ ?_ ?_ ?_) | ((with_reducible refine Cel.new ?_ rfl); first | (with_reducible rfl) | omega | (simp; done) | (simp; omega)) | (with_reducible refine Cel.alloc ?_ _) | (with_reducible refine Cel.drew ?_) | (with_reducible refine Cel.setS ?_ _) | (with_reducible refine Has.set ?_ _ _) | (with_reducible exact Has.of (by assumption)) | (with_reducible refine Cel.setO ?_ ?_ _) | (with_reducible refine Cel.keep (by assumption) ?_) | (with_reducible refine Below.alloc ?_ ?_ _) | (with_reducible refine Below.drew ?_) | (with_reducible refine Below.setCell ?_ ?_ _) | (with_reducible refine below_keep ?_ ?_ (by assumption)) | omega | (simp; done) | (simp; omega))))⟩
          simp only [nres, em]
          rfl
        · go_wp2_with fail
          go_roundw
          case rel =>
            refine ⟨k + 1, by omega, by go_num, fun j hj => ?_, by (repeat' (first | (with_reducible assumption) | (with_reducible exact Below.refl _ _) | (with_reducible exact Cels.nil _) | (with_reducible refine Cels.cons ?_ ?_) | (with_reducible refine Own.mk ?_ ?_ ?_ ?_) | ((with_reducible refine Cel.new ?_ rfl); first | (with_reducible rfl) | omega | (simp; done) | (simp; omega)) | (with_reducible refine Cel.alloc ?_ _) | (with_reducible refine Cel.drew ?_) | (with_reducible refine Cel.setS ?_ _) | (with_reducible refine Has.set ?_ _ _) | (with_reducible exact Has.of (by assumption)) | (with_reducible refine Cel.setO ?_ ?_ _) | (with_reducible refine Cel.keep (by assumption) ?_) | (with_reducible refine Below.alloc ?_ ?_ _) | (with_reducible refine Below.drew ?_) | (with_reducible refine Below.setCell ?_ ?_ _) | (with_reducible refine below_keep ?_ ?_ (by assumption)) | omega | (simp; done) | (simp; omega)))⟩
            rcases Nat.lt_or_ge j k with q | q
            · exact hall j q
            · obtain rfl : j = k := by omega
              exact decide_eq_false (by rw [em]; omega)
          case measure => simp [intOf]; omega
      · skip
        have em : max (L1 ws k) f = L1 ws k := by omega
        by_cases g2 : L1 ws k ≤ L2 ws k - long
        · go_wp2_with fail
          go_ret2
          have hk2 : nxO ws.length (L1 ws) (L2 ws) f long = some k := nxO_hit hall hlt (decide_eq_true (by rw [em]; omega))
          have hws := HWS.out
          subst hws
          rw [hk2]
          refine ⟨?_, (by (repeat' (first | (with_reducible assumption) | (with_reducible exact Below.refl _ _) | (with_reducible exact Cels.nil _) | (with_reducible refine Cels.cons ?_ ?_) | (with_reducible refine Own.mk ?_ ?_ ?_ ?_) | ((with_reducible refine Cel.new ?_ rfl); first | (with_reducible rfl) | omega | (simp; done) | (simp; omega)) | (with_reducible refine Cel.alloc ?_ _) | (with_reducible refine Cel.drew ?_) | (with_reducible refine Cel.setS ?_ _) | (with_reducible refine Has.set ?_ _ _) | (with_reducible exact Has.of (by assumption)) | (with_reducible refine Cel.setO ?_ ?_ _) | (with_reducible refine Cel.keep (by assumption) ?_) | (with_reducible refine Below.alloc ?_ ?_ _) | (with_reducible refine Below.drew ?_) | (with_reducible refine Below.setCell ?_ ?_ _) | (with_reducible refine below_keep ?_ ?_ (by assumption)) | omega | (simp; done) | (simp; omega))))⟩
          simp only [nres, em]
          rfl
        · go_wp2_with fail
          go_roundw
          case rel =>
            refine ⟨k + 1, by omega, by go_num, fun j hj => ?_, by (repeat' (first | (with_reducible assumption) | (with_reducible exact Below.refl _ _) | (with_reducible exact Cels.nil _) | (with_reducible refine Cels.cons ?_ ?_) | (with_reducible refine Own.mk ?_ ?_ ?_ ?_) | ((with_reducible refine Cel.new ?_ rfl); first | (with_reducible rfl) | omega | (simp; done) | (simp; omega)) | (with_reducible refine Cel.alloc ?_ _) | (with_reducible refine Cel.drew ?_) | (with_reducible refine Cel.setS ?_ _) | (with_reducible refine Has.set ?_ _ _) | (with_reducible exact Has.of (by assumption)) | (with_reducible refine Cel.setO ?_ ?_ _) | (with_reducible refine Cel.keep (by assumption) ?_) | (with_reducible refine Below.alloc ?_ ?_ _) | (with_reducible refine Below.drew ?_) | (with_reducible refine Below.setCell ?_ ?_ _) | (with_reducible refine below_keep ?_ ?_ (by assumption)) | omega | (simp; done) | (simp; omega)))⟩
            rcases Nat.lt_or_ge j k with q | q
            · exact hall j q
            · obtain rfl : j = k := by omega
              exact decide_eq_false (by rw [em]; omega)
          case measure => simp [intOf]; omega
    · obtain rfl : k = ws.length := by omega
      have hk2 : nxO ws.length (L1 ws) (L2 ws) f long = none := nxO_none hall
      go_wp2_with fail
      go_ret2
      have hws := HWS.out
      subst hws
      rw [hk2]
      exact ⟨rfl, hBw⟩
def nextDummy : Nat := 0
theorem next_any (s st : Int) (p : Option Addr) (n c : Nat) (lo hi : Nat → Int) (need f long : Int) (w : World) (hL : Lie w p n lo hi) :
    Calls Try.prog 20 #[tv s st p n c, .int .i64 need, .int .i64 f, .int .i64 long] w fun e w' => e = .returned (.tuple #[.int .i64 (NV s st n lo hi need f long), .int .i64 (NE s st n lo hi need f long)]) ∧ Below w.heap.size w w' := by
  by_cases g : WE s st n lo hi need = 0 ∧ tm f = true ∧ tm long = true
  · obtain ⟨g1, g2, g3⟩ := g
    refine (next_ok s st p n c lo hi need f long w hL g1 g2 g3).mono ?_
    rintro e w' ⟨rfl, hb⟩
    refine ⟨?_, hb⟩
    rw [NV, NE, if_pos ⟨g1, g2, g3⟩, if_pos ⟨g1, g2, g3⟩]
    cases nxO (WS s st n lo hi need).length (L1 (WS s st n lo hi need)) (L2 (WS s st n lo hi need)) f long <;> rfl
  · rw [NV, NE, if_neg g, if_neg g]
    rcases we_01 s st n lo hi need with hW | hW
    · cases h2 : tm f with
      | false => cases h3 : tm long with
        | false => exact next_b2 s st p n c lo hi need f long w hL hW h2 h3
        | true => exact next_b2b s st p n c lo hi need f long w hL hW h2 h3
      | true => cases h3 : tm long with
        | false => exact next_b3 s st p n c lo hi need f long w hL hW h2 h3
        | true => exact absurd ⟨hW, h2, h3⟩ g
    · cases h2 : tm f with
      | false => cases h3 : tm long with
        | false => exact next_b1 s st p n c lo hi need f long w hL hW h2 h3
        | true => exact next_b1c s st p n c lo hi need f long w hL hW h2 h3
      | true => cases h3 : tm long with
        | false => exact next_b1b s st p n c lo hi need f long w hL hW h2 h3
        | true => exact next_b1d s st p n c lo hi need f long w hL hW h2 h3

end Go.Proofs.Ytmljnelmnagfoaa
