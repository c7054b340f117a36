/- Tide: Windows. -/
import Derived.Test.YtmljnelmnagfoaaG
import Derived.Test.YtmljnelmnagfoaaLA
import Derived.RangeFuncBound
import Derived.RangeFuncCalls
import Derived.RangeFuncLeaves
import Derived.Shelf.Abstract
import Derived.Shelf.RegionOpen
import Derived.TacticsInMore
import Derived.LoopNIn
import Derived.LoopIn
set_option linter.unusedVariables false
set_option linter.unusedSimpArgs false
namespace Go.Proofs.Ytmljnelmnagfoaa
open Go.RowKit Go.Shelf
attribute [local go_sem] Oper.semAt_some World.cell?_alloc_some frozen_alloc_some isSome_alloc isSome_setCell

def L1 (ws : List (Int × Int)) (i : Nat) : Int := match ws[i]? with | some p => p.1 | none => 0
def L2 (ws : List (Int × Int)) (i : Nat) : Int := match ws[i]? with | some p => p.2 | none => 0
def addW (need : Int) (ws : List (Int × Int)) (x : Q4) : List (Int × Int) :=
  if x.2.2.1 < need then ws else match ws.getLast? with
    | some l => if l.2 + 1 = x.1 then ws.dropLast ++ [(l.1, x.2.1)] else ws ++ [(x.1, x.2.1)]
    | none => ws ++ [(x.1, x.2.1)]
def win (need : Int) (l : List Q4) : List (Int × Int) := l.foldl (addW need) []
theorem win_snoc (need : Int) (l : List Q4) (x : Q4) : win need (l ++ [x]) = addW need (win need l) x := by simp [win]
theorem addW_skip {need : Int} {ws : List (Int × Int)} {xa xc xl xh : Int} (h : xl < need) : addW need ws (xa, xc, xl, xh) = ws := by simp [addW, h]
theorem addW_nil {need : Int} {xa xc xl xh : Int} (h : ¬ xl < need) : addW need [] (xa, xc, xl, xh) = [(xa, xc)] := by simp [addW, h]
theorem addW_ext {need : Int} {f : List (Int × Int)} {l1 l2 xa xc xl xh : Int} (h : ¬ xl < need) (h2 : l2 + 1 = xa) : addW need (f ++ [(l1, l2)]) (xa, xc, xl, xh) = f ++ [(l1, xc)] := by
  subst h2; simp [addW, h, List.getLast?_append]
theorem addW_new {need : Int} {f : List (Int × Int)} {l1 l2 xa xc xl xh : Int} (h : ¬ xl < need) (h2 : ¬ l2 + 1 = xa) : addW need (f ++ [(l1, l2)]) (xa, xc, xl, xh) = f ++ [(l1, l2)] ++ [(xa, xc)] := by
  simp [addW, h, h2, List.getLast?_append]
def rowc (ws : List (Int × Int)) : List Value := ws.flatMap fun p => [Value.int .i64 p.1, .int .i64 p.2]
theorem rowc_len (ws : List (Int × Int)) : (rowc ws).length = ws.length * 2 := by
  induction ws with
  | nil => rfl
  | cons p ws ih => simp only [rowc, List.flatMap_cons, List.length_append, List.length_cons, List.length_nil] at ih ⊢; omega
theorem rowc_app (a b : List (Int × Int)) : rowc (a ++ b) = rowc a ++ rowc b := by simp [rowc]
theorem rowc_get (ws : List (Int × Int)) : ∀ (i : Nat) (h : i < ws.length), (rowc ws)[i * 2]? = some (.int .i64 (L1 ws i)) ∧ (rowc ws)[i * 2 + 1]? = some (.int .i64 (L2 ws i)) := by
  induction ws with
  | nil => intro i h; cases h
  | cons p ws ih =>
    intro i h
    cases i with
    | zero => exact ⟨rfl, rfl⟩
    | succ i =>
      have h2 := ih i (by simpa using h)
      have e : rowc (p :: ws) = .int .i64 p.1 :: .int .i64 p.2 :: rowc ws := rfl
      rw [e, show (i + 1) * 2 = i * 2 + 1 + 1 by omega]
      exact h2
theorem rowc_last (f : List (Int × Int)) (l1 l2 : Int) : (rowc (f ++ [(l1, l2)]))[f.length * 2 + 1]? = some (.int .i64 l2) := by
  have := (rowc_get (f ++ [(l1, l2)]) f.length (by simp)).2
  rw [this]; simp [L2]
theorem rowc_set (f : List (Int × Int)) (l1 l2 x : Int) : (rowc (f ++ [(l1, l2)])).set (f.length * 2 + 1) (.int .i64 x) = rowc (f ++ [(l1, x)]) := by
  rw [rowc_app, rowc_app, List.set_append_right _ _ (by rw [rowc_len]; omega), rowc_len, show f.length * 2 + 1 - f.length * 2 = 1 by omega]
  rfl
theorem lie_of_row {W : World} {base : Nat} {v : Value} {ws : List (Int × Int)} (h : W.ownsRow base 30 2 v ws.length (rowc ws)) : ∃ p c, v = .slice p ws.length c ∧ Lie W p ws.length (L1 ws) (L2 ws) := by
  rcases h.2 with ⟨rfl, h0⟩ | ⟨g, cap, cur, rfl, _⟩
  · exact ⟨none, 0, by rw [h0], Or.inl h0⟩
  · refine ⟨_, _, rfl, Or.inr ⟨g, 0, rfl, fun i hi' => ?_⟩⟩
    have r := rowc_get ws i hi'
    rw [Nat.zero_add]
    exact ⟨(h.cellAt (i * 2) (by omega)).trans r.1, (h.cellAt (i * 2 + 1) (by omega)).trans r.2⟩
def okW (ws : List (Int × Int)) : Prop := ∀ q ∈ ws, 0 ≤ q.1 ∧ q.1 ≤ q.2 ∧ q.2 ≤ 10000000
theorem addW_ok {need : Int} {ws : List (Int × Int)} {x : Q4} (h : okW ws) (hx : okS x) : okW (addW need ws x) := by
  obtain ⟨xa, xc, xl, xh⟩ := x
  obtain ⟨h1, h2, h3, h4, h5, h6⟩ := hx
  simp only at h1 h2 h3
  by_cases k : xl < need
  · rw [addW_skip k]; exact h
  · rcases List.eq_nil_or_concat ws with rfl | ⟨f, ⟨l1, l2⟩, rfl⟩
    · rw [addW_nil k]; intro q hq; simp at hq; subst hq; exact ⟨h1, h2, h3⟩
    · rw [List.concat_eq_append] at h ⊢
      by_cases k2 : l2 + 1 = xa
      · rw [addW_ext k k2]
        intro q hq
        rcases List.mem_append.1 hq with hq | hq
        · exact h q (List.mem_append_left _ hq)
        · simp at hq; subst hq
          have := h (l1, l2) (by simp)
          simp only at this ⊢; omega
      · rw [addW_new k k2]
        intro q hq
        rcases List.mem_append.1 hq with hq | hq
        · exact h q hq
        · simp at hq; subst hq; exact ⟨h1, h2, h3⟩
theorem addW_len (need : Int) (ws : List (Int × Int)) (x : Q4) : (addW need ws x).length ≤ ws.length + 1 := by
  obtain ⟨xa, xc, xl, xh⟩ := x
  by_cases k : xl < need
  · rw [addW_skip k]; omega
  · rcases List.eq_nil_or_concat ws with rfl | ⟨f, ⟨l1, l2⟩, rfl⟩
    · rw [addW_nil k]; simp
    · rw [List.concat_eq_append]
      by_cases k2 : l2 + 1 = xa
      · rw [addW_ext k k2]; simp
      · rw [addW_new k k2]; simp
theorem info30 : (Try.prog.info? 30).map (fun i => (i.zero, i.size, i.bytes)) = some (some (.agg #[.int .i64 0, .int .i64 0]), 2, 16) := by kernel_rfl
theorem cells_two (W : World) (a b : Value) (t : TypeId) : ∀ j u, [a, b][j]? = some u → (W.alloc (.cells #[a, b] t)).cell? ((⟨W.heap.size, 0, none⟩ : Addr).add j) = some u := by
  intro j u h
  have e : (⟨W.heap.size, 0, none⟩ : Addr).add j = ⟨W.heap.size, j, none⟩ := by (simp [Addr.add]; try omega)
  rw [e, World.cell?_alloc_new]
  simpa using h

set_option maxHeartbeats 1600000 in
theorem windows_b0 (s st : Int) (p : Option Addr) (n c : Nat) (lo hi : Nat → Int) (need : Int) (w : World) (hL : Lie w p n lo hi) (ht : tval s st n lo hi = false) :
    Calls Try.prog 17 #[tv s st p n c, .int .i64 need] w fun e w' => e = .returned (.tuple #[.slice none 0 0, .int .i64 1]) ∧ Below w.heap.size w w' := by
  go_enter Try.func17, Try.ntmps17
  go_wp2_with (go_at_call 24; refine (valid_any s st p n c lo hi _ (hL.keep (by (repeat' (first | (with_reducible assumption) | (with_reducible exact Below.refl _ _) | (with_reducible exact Cels.nil _) | (with_reducible refine Cels.cons ?_ ?_) | (with_reducible refine Own.mk ?_ ?_ ?_ ?_) | ((with_reducible refine Cel.new ?_ rfl); first | (with_reducible rfl) | omega | (simp; done) | (simp; omega)) | (with_reducible refine Cel.alloc ?_ _) | (with_reducible refine Cel.drew ?_) | (with_reducible refine Cel.setS ?_ _) | (with_reducible refine Has.set ?_ _ _) | (with_reducible exact Has.of (by assumption)) | (with_reducible refine Cel.setO ?_ ?_ _) | (with_reducible refine Cel.keep (by assumption) ?_) | (with_reducible refine Below.alloc ?_ ?_ _) | (with_reducible refine Below.drew ?_) | (with_reducible refine Below.setCell ?_ ?_ _) | (with_reducible refine below_keep ?_ ?_ (by assumption)) | omega | (simp; done) | (simp; omega)))))).mono ?_; rintro e w' ⟨rfl, hb⟩; have hs := hb.size; (try simp at hs); have O : Own w (w.heap.size + 2) w' [(w.heap.size, 0, .int .i64 s), (w.heap.size, 1, .int .i64 st), (w.heap.size, 2, .slice p n c), (w.heap.size + 1, 0, .int .i64 need)] := (by first | exact Own.keep (by assumption) hb | (repeat' (first | (with_reducible assumption) | (with_reducible exact Below.refl _ _) | (with_reducible exact Cels.nil _) | (with_reducible refine Cels.cons ?_ ?_) | (with_reducible refine Own.mk ?_ ?_ ?_ ?_) | ((with_reducible refine Cel.new ?_ rfl); first | (with_reducible rfl) | omega | (simp; done) | (simp; omega)) | (with_reducible refine Cel.alloc ?_ _) | (with_reducible refine Cel.drew ?_) | (with_reducible refine Cel.setS ?_ _) | (with_reducible refine Has.set ?_ _ _) | (with_reducible exact Has.of (by assumption)) | (with_reducible refine Cel.setO ?_ ?_ _) | (with_reducible refine Cel.keep (by assumption) ?_) | (with_reducible refine Below.alloc ?_ ?_ _) | (with_reducible refine Below.drew ?_) | (with_reducible refine Below.setCell ?_ ?_ _) | (with_reducible refine below_keep ?_ ?_ (by assumption)) | omega | (simp; done) | (simp; omega)))); have hB := O.below; have hz := O.size; have S0 : Cel w' (w.heap.size) 0 (.int .i64 s) := O.cels.1; have S1 : Cel w' (w.heap.size) 1 (.int .i64 st) := O.cels.2.1; have S2 : Cel w' (w.heap.size) 2 (.slice p n c) := O.cels.2.2.1; have S3 : Cel w' (w.heap.size + 1) 0 (.int .i64 need) := O.cels.2.2.2.1)
  all_goals
    go_ret2
    refine ⟨rfl, ?_⟩
    (repeat' (first | (with_reducible assumption) | (with_reducible exact Below.refl _ _) | (with_reducible exact Cels.nil _) | (with_reducible refine Cels.cons ?_ ?_) | (with_reducible refine Own.mk ?_ ?_ ?_ ?_) | ((with_reducible refine Cel.new ?_ rfl); first | (with_reducible rfl) | omega | (simp; done) | (simp; omega)) | (with_reducible refine Cel.alloc ?_ _) | (with_reducible refine Cel.drew ?_) | (with_reducible refine Cel.setS ?_ _) | (with_reducible refine Has.set ?_ _ _) | (with_reducible exact Has.of (by assumption)) | (with_reducible refine Cel.setO ?_ ?_ _) | (with_reducible refine Cel.keep (by assumption) ?_) | (with_reducible refine Below.alloc ?_ ?_ _) | (with_reducible refine Below.drew ?_) | (with_reducible refine Below.setCell ?_ ?_ _) | (with_reducible refine below_keep ?_ ?_ (by assumption)) | omega | (simp; done) | (simp; omega)))

set_option maxHeartbeats 1600000 in
theorem windows_b1 (s st : Int) (p : Option Addr) (n c : Nat) (lo hi : Nat → Int) (need : Int) (w : World) (hL : Lie w p n lo hi) (ht : tval s st n lo hi = true) (h1 : need < -1000000000000) :
    Calls Try.prog 17 #[tv s st p n c, .int .i64 need] w fun e w' => e = .returned (.tuple #[.slice none 0 0, .int .i64 1]) ∧ Below w.heap.size w w' := by
  go_enter Try.func17, Try.ntmps17
  go_wp2_with (go_at_call 24; refine (valid_any s st p n c lo hi _ (hL.keep (by (repeat' (first | (with_reducible assumption) | (with_reducible exact Below.refl _ _) | (with_reducible exact Cels.nil _) | (with_reducible refine Cels.cons ?_ ?_) | (with_reducible refine Own.mk ?_ ?_ ?_ ?_) | ((with_reducible refine Cel.new ?_ rfl); first | (with_reducible rfl) | omega | (simp; done) | (simp; omega)) | (with_reducible refine Cel.alloc ?_ _) | (with_reducible refine Cel.drew ?_) | (with_reducible refine Cel.setS ?_ _) | (with_reducible refine Has.set ?_ _ _) | (with_reducible exact Has.of (by assumption)) | (with_reducible refine Cel.setO ?_ ?_ _) | (with_reducible refine Cel.keep (by assumption) ?_) | (with_reducible refine Below.alloc ?_ ?_ _) | (with_reducible refine Below.drew ?_) | (with_reducible refine Below.setCell ?_ ?_ _) | (with_reducible refine below_keep ?_ ?_ (by assumption)) | omega | (simp; done) | (simp; omega)))))).mono ?_; rintro e w' ⟨rfl, hb⟩; have hs := hb.size; (try simp at hs); have O : Own w (w.heap.size + 2) w' [(w.heap.size, 0, .int .i64 s), (w.heap.size, 1, .int .i64 st), (w.heap.size, 2, .slice p n c), (w.heap.size + 1, 0, .int .i64 need)] := (by first | exact Own.keep (by assumption) hb | (repeat' (first | (with_reducible assumption) | (with_reducible exact Below.refl _ _) | (with_reducible exact Cels.nil _) | (with_reducible refine Cels.cons ?_ ?_) | (with_reducible refine Own.mk ?_ ?_ ?_ ?_) | ((with_reducible refine Cel.new ?_ rfl); first | (with_reducible rfl) | omega | (simp; done) | (simp; omega)) | (with_reducible refine Cel.alloc ?_ _) | (with_reducible refine Cel.drew ?_) | (with_reducible refine Cel.setS ?_ _) | (with_reducible refine Has.set ?_ _ _) | (with_reducible exact Has.of (by assumption)) | (with_reducible refine Cel.setO ?_ ?_ _) | (with_reducible refine Cel.keep (by assumption) ?_) | (with_reducible refine Below.alloc ?_ ?_ _) | (with_reducible refine Below.drew ?_) | (with_reducible refine Below.setCell ?_ ?_ _) | (with_reducible refine below_keep ?_ ?_ (by assumption)) | omega | (simp; done) | (simp; omega)))); have hB := O.below; have hz := O.size; have S0 : Cel w' (w.heap.size) 0 (.int .i64 s) := O.cels.1; have S1 : Cel w' (w.heap.size) 1 (.int .i64 st) := O.cels.2.1; have S2 : Cel w' (w.heap.size) 2 (.slice p n c) := O.cels.2.2.1; have S3 : Cel w' (w.heap.size + 1) 0 (.int .i64 need) := O.cels.2.2.2.1)
  all_goals
    go_ret2
    refine ⟨rfl, ?_⟩
    (repeat' (first | (with_reducible assumption) | (with_reducible exact Below.refl _ _) | (with_reducible exact Cels.nil _) | (with_reducible refine Cels.cons ?_ ?_) | (with_reducible refine Own.mk ?_ ?_ ?_ ?_) | ((with_reducible refine Cel.new ?_ rfl); first | (with_reducible rfl) | omega | (simp; done) | (simp; omega)) | (with_reducible refine Cel.alloc ?_ _) | (with_reducible refine Cel.drew ?_) | (with_reducible refine Cel.setS ?_ _) | (with_reducible refine Has.set ?_ _ _) | (with_reducible exact Has.of (by assumption)) | (with_reducible refine Cel.setO ?_ ?_ _) | (with_reducible refine Cel.keep (by assumption) ?_) | (with_reducible refine Below.alloc ?_ ?_ _) | (with_reducible refine Below.drew ?_) | (with_reducible refine Below.setCell ?_ ?_ _) | (with_reducible refine below_keep ?_ ?_ (by assumption)) | omega | (simp; done) | (simp; omega)))

set_option maxHeartbeats 1600000 in
theorem windows_b2 (s st : Int) (p : Option Addr) (n c : Nat) (lo hi : Nat → Int) (need : Int) (w : World) (hL : Lie w p n lo hi) (ht : tval s st n lo hi = true) (h1 : ¬ need < -1000000000000) (h2 : 1000000000000 < need) :
    Calls Try.prog 17 #[tv s st p n c, .int .i64 need] w fun e w' => e = .returned (.tuple #[.slice none 0 0, .int .i64 1]) ∧ Below w.heap.size w w' := by
  go_enter Try.func17, Try.ntmps17
  go_wp2_with (go_at_call 24; refine (valid_any s st p n c lo hi _ (hL.keep (by (repeat' (first | (with_reducible assumption) | (with_reducible exact Below.refl _ _) | (with_reducible exact Cels.nil _) | (with_reducible refine Cels.cons ?_ ?_) | (with_reducible refine Own.mk ?_ ?_ ?_ ?_) | ((with_reducible refine Cel.new ?_ rfl); first | (with_reducible rfl) | omega | (simp; done) | (simp; omega)) | (with_reducible refine Cel.alloc ?_ _) | (with_reducible refine Cel.drew ?_) | (with_reducible refine Cel.setS ?_ _) | (with_reducible refine Has.set ?_ _ _) | (with_reducible exact Has.of (by assumption)) | (with_reducible refine Cel.setO ?_ ?_ _) | (with_reducible refine Cel.keep (by assumption) ?_) | (with_reducible refine Below.alloc ?_ ?_ _) | (with_reducible refine Below.drew ?_) | (with_reducible refine Below.setCell ?_ ?_ _) | (with_reducible refine below_keep ?_ ?_ (by assumption)) | omega | (simp; done) | (simp; omega)))))).mono ?_; rintro e w' ⟨rfl, hb⟩; have hs := hb.size; (try simp at hs); have O : Own w (w.heap.size + 2) w' [(w.heap.size, 0, .int .i64 s), (w.heap.size, 1, .int .i64 st), (w.heap.size, 2, .slice p n c), (w.heap.size + 1, 0, .int .i64 need)] := (by first | exact Own.keep (by assumption) hb | (repeat' (first | (with_reducible assumption) | (with_reducible exact Below.refl _ _) | (with_reducible exact Cels.nil _) | (with_reducible refine Cels.cons ?_ ?_) | (with_reducible refine Own.mk ?_ ?_ ?_ ?_) | ((with_reducible refine Cel.new ?_ rfl); first | (with_reducible rfl) | omega | (simp; done) | (simp; omega)) | (with_reducible refine Cel.alloc ?_ _) | (with_reducible refine Cel.drew ?_) | (with_reducible refine Cel.setS ?_ _) | (with_reducible refine Has.set ?_ _ _) | (with_reducible exact Has.of (by assumption)) | (with_reducible refine Cel.setO ?_ ?_ _) | (with_reducible refine Cel.keep (by assumption) ?_) | (with_reducible refine Below.alloc ?_ ?_ _) | (with_reducible refine Below.drew ?_) | (with_reducible refine Below.setCell ?_ ?_ _) | (with_reducible refine below_keep ?_ ?_ (by assumption)) | omega | (simp; done) | (simp; omega)))); have hB := O.below; have hz := O.size; have S0 : Cel w' (w.heap.size) 0 (.int .i64 s) := O.cels.1; have S1 : Cel w' (w.heap.size) 1 (.int .i64 st) := O.cels.2.1; have S2 : Cel w' (w.heap.size) 2 (.slice p n c) := O.cels.2.2.1; have S3 : Cel w' (w.heap.size + 1) 0 (.int .i64 need) := O.cels.2.2.2.1)
  all_goals
    go_ret2
    refine ⟨rfl, ?_⟩
    (repeat' (first | (with_reducible assumption) | (with_reducible exact Below.refl _ _) | (with_reducible exact Cels.nil _) | (with_reducible refine Cels.cons ?_ ?_) | (with_reducible refine Own.mk ?_ ?_ ?_ ?_) | ((with_reducible refine Cel.new ?_ rfl); first | (with_reducible rfl) | omega | (simp; done) | (simp; omega)) | (with_reducible refine Cel.alloc ?_ _) | (with_reducible refine Cel.drew ?_) | (with_reducible refine Cel.setS ?_ _) | (with_reducible refine Has.set ?_ _ _) | (with_reducible exact Has.of (by assumption)) | (with_reducible refine Cel.setO ?_ ?_ _) | (with_reducible refine Cel.keep (by assumption) ?_) | (with_reducible refine Below.alloc ?_ ?_ _) | (with_reducible refine Below.drew ?_) | (with_reducible refine Below.setCell ?_ ?_ _) | (with_reducible refine below_keep ?_ ?_ (by assumption)) | omega | (simp; done) | (simp; omega)))

end Go.Proofs.Ytmljnelmnagfoaa
