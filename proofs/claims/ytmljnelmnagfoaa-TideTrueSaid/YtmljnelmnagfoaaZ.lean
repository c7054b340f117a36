/- Tide: equal lists, equal tables; the table of the examples. -/
import Derived.Test.YtmljnelmnagfoaaY2
import Derived.OwnWalk
set_option linter.unusedVariables false
set_option linter.unusedSimpArgs false
namespace Go.Proofs.Ytmljnelmnagfoaa
open Go.RowKit
attribute [local go_sem] World.cell?_alloc_some frozen_alloc_some isSome_alloc isSome_setCell

def sameL (n n' : Nat) (lo hi lo' hi' : Nat → Int) : Bool := decide (n = n' ∧ ∀ i, i < n → lo i = lo' i ∧ hi i = hi' i)
set_option maxHeartbeats 1600000 in
theorem spans_ne (p p' : Option Addr) (n n' c c' : Nat) (w : World) (h : ¬ n = n') : Calls Try.prog 22 #[.slice p n c, .slice p' n' c'] w fun e w' => e = .returned (.bool false) ∧ Below w.heap.size w w' := by
  have h2 : (((n : Nat) : Int) != (n' : Nat)) = true := by simp; omega
  go_enter Try.func22, Try.ntmps22
  go_wp2
  go_ret
  exact ⟨rfl, Below.refl _ _⟩
set_option maxHeartbeats 4000000 in
theorem spans_eq (p p' : Option Addr) (n c c' : Nat) (lo hi lo' hi' : Nat → Int) (w : World) (hn : n ≤ 1000000) (hL : Lie w p n lo hi) (hL' : Lie w p' n lo' hi') :
    Calls Try.prog 22 #[.slice p n c, .slice p' n c'] w fun e w' => e = .returned (.bool (sameL n n lo hi lo' hi')) ∧ Below w.heap.size w w' := by
  go_enter Try.func22, Try.ntmps22
  go_wp2
  go_loopw [5] (fun i wr => ∃ k : Nat, k ≤ n ∧ i = .int .i64 k ∧ (∀ j, j < k → lo j = lo' j ∧ hi j = hi' j) ∧ Below w.heap.size w wr) (fun i _ => n - (intOf i).toNat)
  case atStart => exact ⟨0, Nat.zero_le _, rfl, fun j hj => absurd hj (Nat.not_lt_zero _), Below.refl _ _⟩
  case round =>
    obtain ⟨k, hk, rfl, hall, hBw⟩ := hrel
    have hsz := hBw.size
    rcases Nat.lt_or_ge k n with hlt | hge
    · obtain hn0 | ⟨b, off, rfl, hc⟩ := hL.keep hBw
      · omega
      obtain hn0 | ⟨b', off', rfl, hc'⟩ := hL'.keep hBw
      · omega
      have c0 := (hc k hlt).1
      have c1 := (hc k hlt).2
      have c2 := (hc' k hlt).1
      have c3 := (hc' k hlt).2
      have hb0 : b < wr.heap.size := World.block_lt_of_cell? wr _ c0
      have hb1 : b' < wr.heap.size := World.block_lt_of_cell? wr _ c2
      clear hc hc' hL hL'
      by_cases e : lo k = lo' k ∧ hi k = hi' k
      · obtain ⟨e1, e2⟩ := e
        have E1 := Lib.hid e1
        have E2 := Lib.hid e2
        rw [← e1] at c2
        rw [← e2] at c3
        clear e1 e2
        go_wp2_with fail
        refine wp_region_by (fun a0 L a' w' => a' = pcs a0 [(17, L 0, .slice (some ⟨b, off, none⟩) n c), (18, L 1, .int .i64 ((k : Int))), (19, L 2, .pointer (some ⟨b, off + k * 2, none⟩)), (20, L 3, sp (lo k) (hi k)), (21, L 4, .slice (some ⟨b', off', none⟩) n c'), (22, L 5, .int .i64 ((k : Int))), (23, L 6, .pointer (some ⟨b', off' + k * 2, none⟩)), (24, L 7, sp (lo k) (hi k)), (25, L 8, .bool false)] ∧ Own wr (wr.heap.size) w' []) (by kernel_rfl) (by kernel_rfl) ?_ ?_ ?_
        · exact ⟨(pcs_start _ _ (by simp)).symm, by (repeat' (first | (with_reducible assumption) | (with_reducible exact Below.refl _ _) | (with_reducible exact Cels.nil _) | (with_reducible refine Cels.cons ?_ ?_) | (with_reducible refine Own.mk ?_ ?_ ?_ ?_) | ((with_reducible refine Cel.new ?_ rfl); first | (with_reducible rfl) | omega | (simp; done) | (simp; omega)) | (with_reducible refine Cel.alloc ?_ _) | (with_reducible refine Cel.drew ?_) | (with_reducible refine Cel.setS ?_ _) | (with_reducible refine Has.set ?_ _ _) | (with_reducible exact Has.of (by assumption)) | (with_reducible refine Cel.setO ?_ ?_ _) | (with_reducible refine Cel.keep (by assumption) ?_) | (with_reducible refine Below.alloc ?_ ?_ _) | (with_reducible refine Below.drew ?_) | (with_reducible refine Below.setCell ?_ ?_ _) | (with_reducible refine below_keep ?_ ?_ (by assumption)) | omega | (simp; done) | (simp; omega)))⟩
        · refine ⟨?_, ?_, ?_, ?_, ?_, ?_, ?_, ?_, ?_, trivial⟩
          · rintro L a' v ⟨rfl, O⟩ hL hd hcl K hK
            have HK := Lib.hid hK
            clear hK
            have hB := O.below; have hz := O.size; have T0 := (hB.cell (p := ⟨b, off + k * 2, none⟩) hb0).trans c0; have T1 := (hB.cell (p := ⟨b, off + k * 2 + 1, none⟩) hb0).trans c1; have T2 := (hB.cell (p := ⟨b', off' + k * 2, none⟩) hb1).trans c2; have T3 := (hB.cell (p := ⟨b', off' + k * 2 + 1, none⟩) hb1).trans c3
            simp [Region.binds] at hd
            simp only [pcs, List.foldl_cons, List.foldl_nil, Act.put]
            go_simp
            exact HK.out _ _ ⟨by simp [pcs, Act.put, upd, gomax, gomin, *] <;> omega, O⟩
          · rintro L a' v ⟨rfl, O⟩ hL hd hcl K hK
            have HK := Lib.hid hK
            clear hK
            have hB := O.below; have hz := O.size; have T0 := (hB.cell (p := ⟨b, off + k * 2, none⟩) hb0).trans c0; have T1 := (hB.cell (p := ⟨b, off + k * 2 + 1, none⟩) hb0).trans c1; have T2 := (hB.cell (p := ⟨b', off' + k * 2, none⟩) hb1).trans c2; have T3 := (hB.cell (p := ⟨b', off' + k * 2 + 1, none⟩) hb1).trans c3
            simp [Region.binds] at hd
            simp only [pcs, List.foldl_cons, List.foldl_nil, Act.put]
            go_simp
            exact HK.out _ _ ⟨by simp [pcs, Act.put, upd, gomax, gomin, *] <;> omega, O⟩
          · rintro L a' v ⟨rfl, O⟩ hL hd hcl K hK
            have HK := Lib.hid hK
            clear hK
            have hB := O.below; have hz := O.size; have T0 := (hB.cell (p := ⟨b, off + k * 2, none⟩) hb0).trans c0; have T1 := (hB.cell (p := ⟨b, off + k * 2 + 1, none⟩) hb0).trans c1; have T2 := (hB.cell (p := ⟨b', off' + k * 2, none⟩) hb1).trans c2; have T3 := (hB.cell (p := ⟨b', off' + k * 2 + 1, none⟩) hb1).trans c3
            simp [Region.binds] at hd
            simp only [pcs, List.foldl_cons, List.foldl_nil, Act.put]
            go_simp
            exact HK.out _ _ ⟨by simp [pcs, Act.put, upd, gomax, gomin, *] <;> omega, O⟩
          · rintro L a' v ⟨rfl, O⟩ hL hd hcl K hK
            have HK := Lib.hid hK
            clear hK
            have hB := O.below; have hz := O.size; have T0 := (hB.cell (p := ⟨b, off + k * 2, none⟩) hb0).trans c0; have T1 := (hB.cell (p := ⟨b, off + k * 2 + 1, none⟩) hb0).trans c1; have T2 := (hB.cell (p := ⟨b', off' + k * 2, none⟩) hb1).trans c2; have T3 := (hB.cell (p := ⟨b', off' + k * 2 + 1, none⟩) hb1).trans c3
            simp [Region.binds] at hd
            simp only [pcs, List.foldl_cons, List.foldl_nil, Act.put]
            go_simp
            exact HK.out _ _ ⟨by simp [pcs, Act.put, upd, gomax, gomin, *] <;> omega, O⟩
          · rintro L a' v ⟨rfl, O⟩ hL hd hcl K hK
            have HK := Lib.hid hK
            clear hK
            have hB := O.below; have hz := O.size; have T0 := (hB.cell (p := ⟨b, off + k * 2, none⟩) hb0).trans c0; have T1 := (hB.cell (p := ⟨b, off + k * 2 + 1, none⟩) hb0).trans c1; have T2 := (hB.cell (p := ⟨b', off' + k * 2, none⟩) hb1).trans c2; have T3 := (hB.cell (p := ⟨b', off' + k * 2 + 1, none⟩) hb1).trans c3
            simp [Region.binds] at hd
            simp only [pcs, List.foldl_cons, List.foldl_nil, Act.put]
            go_simp
            exact HK.out _ _ ⟨by simp [pcs, Act.put, upd, gomax, gomin, *] <;> omega, O⟩
          · rintro L a' v ⟨rfl, O⟩ hL hd hcl K hK
            have HK := Lib.hid hK
            clear hK
            have hB := O.below; have hz := O.size; have T0 := (hB.cell (p := ⟨b, off + k * 2, none⟩) hb0).trans c0; have T1 := (hB.cell (p := ⟨b, off + k * 2 + 1, none⟩) hb0).trans c1; have T2 := (hB.cell (p := ⟨b', off' + k * 2, none⟩) hb1).trans c2; have T3 := (hB.cell (p := ⟨b', off' + k * 2 + 1, none⟩) hb1).trans c3
            simp [Region.binds] at hd
            simp only [pcs, List.foldl_cons, List.foldl_nil, Act.put]
            go_simp
            exact HK.out _ _ ⟨by simp [pcs, Act.put, upd, gomax, gomin, *] <;> omega, O⟩
          · rintro L a' v ⟨rfl, O⟩ hL hd hcl K hK
            have HK := Lib.hid hK
            clear hK
            have hB := O.below; have hz := O.size; have T0 := (hB.cell (p := ⟨b, off + k * 2, none⟩) hb0).trans c0; have T1 := (hB.cell (p := ⟨b, off + k * 2 + 1, none⟩) hb0).trans c1; have T2 := (hB.cell (p := ⟨b', off' + k * 2, none⟩) hb1).trans c2; have T3 := (hB.cell (p := ⟨b', off' + k * 2 + 1, none⟩) hb1).trans c3
            simp [Region.binds] at hd
            simp only [pcs, List.foldl_cons, List.foldl_nil, Act.put]
            go_simp
            exact HK.out _ _ ⟨by simp [pcs, Act.put, upd, gomax, gomin, *] <;> omega, O⟩
          · rintro L a' v ⟨rfl, O⟩ hL hd hcl K hK
            have HK := Lib.hid hK
            clear hK
            have hB := O.below; have hz := O.size; have T0 := (hB.cell (p := ⟨b, off + k * 2, none⟩) hb0).trans c0; have T1 := (hB.cell (p := ⟨b, off + k * 2 + 1, none⟩) hb0).trans c1; have T2 := (hB.cell (p := ⟨b', off' + k * 2, none⟩) hb1).trans c2; have T3 := (hB.cell (p := ⟨b', off' + k * 2 + 1, none⟩) hb1).trans c3
            simp [Region.binds] at hd
            simp only [pcs, List.foldl_cons, List.foldl_nil, Act.put]
            go_simp
            exact HK.out _ _ ⟨by simp [pcs, Act.put, upd, gomax, gomin, *] <;> omega, O⟩
          · rintro L a' v ⟨rfl, O⟩ hL hd hcl K hK
            have HK := Lib.hid hK
            clear hK
            have hB := O.below; have hz := O.size; have T0 := (hB.cell (p := ⟨b, off + k * 2, none⟩) hb0).trans c0; have T1 := (hB.cell (p := ⟨b, off + k * 2 + 1, none⟩) hb0).trans c1; have T2 := (hB.cell (p := ⟨b', off' + k * 2, none⟩) hb1).trans c2; have T3 := (hB.cell (p := ⟨b', off' + k * 2 + 1, none⟩) hb1).trans c3
            simp [Region.binds] at hd
            simp only [pcs, List.foldl_cons, List.foldl_nil, Act.put]
            go_simp
            exact HK.out _ _ ⟨by simp [pcs, Act.put, upd, gomax, gomin, *] <;> omega, O⟩
        rintro L a' w2 hL ⟨ea, OO⟩
        have L0 := hL 0 (by decide); have L1 := hL 1 (by decide); have L2 := hL 2 (by decide); have L3 := hL 3 (by decide); have L4 := hL 4 (by decide); have L5 := hL 5 (by decide); have L6 := hL 6 (by decide); have L7 := hL 7 (by decide); have L8 := hL 8 (by decide)
        have hB2 := OO.below; have hz2 := OO.size; have hl2 := OO.le
        simp [pcs, Act.put, L0, L1, L2, L3, L4, L5, L6, L7, L8] at ea
        subst ea
        clear hL L0 L1 L2 L3 L4 L5 L6 L7 L8
        have O2 : Own wr (w2.heap.size) w2 [] := ⟨hB2, Nat.le_refl _, (by (repeat' (first | (with_reducible assumption) | (with_reducible exact Below.refl _ _) | (with_reducible exact Cels.nil _) | (with_reducible refine Cels.cons ?_ ?_) | (with_reducible refine Own.mk ?_ ?_ ?_ ?_) | ((with_reducible refine Cel.new ?_ rfl); first | (with_reducible rfl) | omega | (simp; done) | (simp; omega)) | (with_reducible refine Cel.alloc ?_ _) | (with_reducible refine Cel.drew ?_) | (with_reducible refine Cel.setS ?_ _) | (with_reducible refine Has.set ?_ _ _) | (with_reducible exact Has.of (by assumption)) | (with_reducible refine Cel.setO ?_ ?_ _) | (with_reducible refine Cel.keep (by assumption) ?_) | (with_reducible refine Below.alloc ?_ ?_ _) | (with_reducible refine Below.drew ?_) | (with_reducible refine Below.setCell ?_ ?_ _) | (with_reducible refine below_keep ?_ ?_ (by assumption)) | omega | (simp; done) | (simp; omega)))), hB2.size⟩
        clear OO
        have hBw2 := hBw.trans (hB2.mono hsz)
        go_wp2
        go_roundw
        case rel =>
          refine ⟨k + 1, by omega, by go_num, fun j hj => ?_, hBw2⟩
          rcases Nat.lt_or_ge j k with q | q
          · exact hall j q
          · obtain rfl : j = k := by omega
            exact ⟨E1.out, E2.out⟩
        case measure => simp [intOf]; omega
      · have E := Lib.hid e
        by_cases e1 : lo k = lo' k
        · have e2 : ¬ hi k = hi' k := fun h => e ⟨e1, h⟩
          clear e
          rw [← e1] at c2
          clear e1
          go_wp2_with fail
          refine wp_region_by (fun a0 L a' w' => a' = pcs a0 [(17, L 0, .slice (some ⟨b, off, none⟩) n c), (18, L 1, .int .i64 ((k : Int))), (19, L 2, .pointer (some ⟨b, off + k * 2, none⟩)), (20, L 3, sp (lo k) (hi k)), (21, L 4, .slice (some ⟨b', off', none⟩) n c'), (22, L 5, .int .i64 ((k : Int))), (23, L 6, .pointer (some ⟨b', off' + k * 2, none⟩)), (24, L 7, sp (lo k) (hi' k)), (25, L 8, .bool true)] ∧ Own wr (wr.heap.size) w' []) (by kernel_rfl) (by kernel_rfl) ?_ ?_ ?_
          · exact ⟨(pcs_start _ _ (by simp)).symm, by (repeat' (first | (with_reducible assumption) | (with_reducible exact Below.refl _ _) | (with_reducible exact Cels.nil _) | (with_reducible refine Cels.cons ?_ ?_) | (with_reducible refine Own.mk ?_ ?_ ?_ ?_) | ((with_reducible refine Cel.new ?_ rfl); first | (with_reducible rfl) | omega | (simp; done) | (simp; omega)) | (with_reducible refine Cel.alloc ?_ _) | (with_reducible refine Cel.drew ?_) | (with_reducible refine Cel.setS ?_ _) | (with_reducible refine Has.set ?_ _ _) | (with_reducible exact Has.of (by assumption)) | (with_reducible refine Cel.setO ?_ ?_ _) | (with_reducible refine Cel.keep (by assumption) ?_) | (with_reducible refine Below.alloc ?_ ?_ _) | (with_reducible refine Below.drew ?_) | (with_reducible refine Below.setCell ?_ ?_ _) | (with_reducible refine below_keep ?_ ?_ (by assumption)) | omega | (simp; done) | (simp; omega)))⟩
          · refine ⟨?_, ?_, ?_, ?_, ?_, ?_, ?_, ?_, ?_, trivial⟩
            · rintro L a' v ⟨rfl, O⟩ hL hd hcl K hK
              have HK := Lib.hid hK
              clear hK
              have hB := O.below; have hz := O.size; have T0 := (hB.cell (p := ⟨b, off + k * 2, none⟩) hb0).trans c0; have T1 := (hB.cell (p := ⟨b, off + k * 2 + 1, none⟩) hb0).trans c1; have T2 := (hB.cell (p := ⟨b', off' + k * 2, none⟩) hb1).trans c2; have T3 := (hB.cell (p := ⟨b', off' + k * 2 + 1, none⟩) hb1).trans c3
              simp [Region.binds] at hd
              simp only [pcs, List.foldl_cons, List.foldl_nil, Act.put]
              go_simp
              exact HK.out _ _ ⟨by simp [pcs, Act.put, upd, gomax, gomin, *] <;> omega, O⟩
            · rintro L a' v ⟨rfl, O⟩ hL hd hcl K hK
              have HK := Lib.hid hK
              clear hK
              have hB := O.below; have hz := O.size; have T0 := (hB.cell (p := ⟨b, off + k * 2, none⟩) hb0).trans c0; have T1 := (hB.cell (p := ⟨b, off + k * 2 + 1, none⟩) hb0).trans c1; have T2 := (hB.cell (p := ⟨b', off' + k * 2, none⟩) hb1).trans c2; have T3 := (hB.cell (p := ⟨b', off' + k * 2 + 1, none⟩) hb1).trans c3
              simp [Region.binds] at hd
              simp only [pcs, List.foldl_cons, List.foldl_nil, Act.put]
              go_simp
              exact HK.out _ _ ⟨by simp [pcs, Act.put, upd, gomax, gomin, *] <;> omega, O⟩
            · rintro L a' v ⟨rfl, O⟩ hL hd hcl K hK
              have HK := Lib.hid hK
              clear hK
              have hB := O.below; have hz := O.size; have T0 := (hB.cell (p := ⟨b, off + k * 2, none⟩) hb0).trans c0; have T1 := (hB.cell (p := ⟨b, off + k * 2 + 1, none⟩) hb0).trans c1; have T2 := (hB.cell (p := ⟨b', off' + k * 2, none⟩) hb1).trans c2; have T3 := (hB.cell (p := ⟨b', off' + k * 2 + 1, none⟩) hb1).trans c3
              simp [Region.binds] at hd
              simp only [pcs, List.foldl_cons, List.foldl_nil, Act.put]
              go_simp
              exact HK.out _ _ ⟨by simp [pcs, Act.put, upd, gomax, gomin, *] <;> omega, O⟩
            · rintro L a' v ⟨rfl, O⟩ hL hd hcl K hK
              have HK := Lib.hid hK
              clear hK
              have hB := O.below; have hz := O.size; have T0 := (hB.cell (p := ⟨b, off + k * 2, none⟩) hb0).trans c0; have T1 := (hB.cell (p := ⟨b, off + k * 2 + 1, none⟩) hb0).trans c1; have T2 := (hB.cell (p := ⟨b', off' + k * 2, none⟩) hb1).trans c2; have T3 := (hB.cell (p := ⟨b', off' + k * 2 + 1, none⟩) hb1).trans c3
              simp [Region.binds] at hd
              simp only [pcs, List.foldl_cons, List.foldl_nil, Act.put]
              go_simp
              exact HK.out _ _ ⟨by simp [pcs, Act.put, upd, gomax, gomin, *] <;> omega, O⟩
            · rintro L a' v ⟨rfl, O⟩ hL hd hcl K hK
              have HK := Lib.hid hK
              clear hK
              have hB := O.below; have hz := O.size; have T0 := (hB.cell (p := ⟨b, off + k * 2, none⟩) hb0).trans c0; have T1 := (hB.cell (p := ⟨b, off + k * 2 + 1, none⟩) hb0).trans c1; have T2 := (hB.cell (p := ⟨b', off' + k * 2, none⟩) hb1).trans c2; have T3 := (hB.cell (p := ⟨b', off' + k * 2 + 1, none⟩) hb1).trans c3
              simp [Region.binds] at hd
              simp only [pcs, List.foldl_cons, List.foldl_nil, Act.put]
              go_simp
              exact HK.out _ _ ⟨by simp [pcs, Act.put, upd, gomax, gomin, *] <;> omega, O⟩
            · rintro L a' v ⟨rfl, O⟩ hL hd hcl K hK
              have HK := Lib.hid hK
              clear hK
              have hB := O.below; have hz := O.size; have T0 := (hB.cell (p := ⟨b, off + k * 2, none⟩) hb0).trans c0; have T1 := (hB.cell (p := ⟨b, off + k * 2 + 1, none⟩) hb0).trans c1; have T2 := (hB.cell (p := ⟨b', off' + k * 2, none⟩) hb1).trans c2; have T3 := (hB.cell (p := ⟨b', off' + k * 2 + 1, none⟩) hb1).trans c3
              simp [Region.binds] at hd
              simp only [pcs, List.foldl_cons, List.foldl_nil, Act.put]
              go_simp
              exact HK.out _ _ ⟨by simp [pcs, Act.put, upd, gomax, gomin, *] <;> omega, O⟩
            · rintro L a' v ⟨rfl, O⟩ hL hd hcl K hK
              have HK := Lib.hid hK
              clear hK
              have hB := O.below; have hz := O.size; have T0 := (hB.cell (p := ⟨b, off + k * 2, none⟩) hb0).trans c0; have T1 := (hB.cell (p := ⟨b, off + k * 2 + 1, none⟩) hb0).trans c1; have T2 := (hB.cell (p := ⟨b', off' + k * 2, none⟩) hb1).trans c2; have T3 := (hB.cell (p := ⟨b', off' + k * 2 + 1, none⟩) hb1).trans c3
              simp [Region.binds] at hd
              simp only [pcs, List.foldl_cons, List.foldl_nil, Act.put]
              go_simp
              exact HK.out _ _ ⟨by simp [pcs, Act.put, upd, gomax, gomin, *] <;> omega, O⟩
            · rintro L a' v ⟨rfl, O⟩ hL hd hcl K hK
              have HK := Lib.hid hK
              clear hK
              have hB := O.below; have hz := O.size; have T0 := (hB.cell (p := ⟨b, off + k * 2, none⟩) hb0).trans c0; have T1 := (hB.cell (p := ⟨b, off + k * 2 + 1, none⟩) hb0).trans c1; have T2 := (hB.cell (p := ⟨b', off' + k * 2, none⟩) hb1).trans c2; have T3 := (hB.cell (p := ⟨b', off' + k * 2 + 1, none⟩) hb1).trans c3
              simp [Region.binds] at hd
              simp only [pcs, List.foldl_cons, List.foldl_nil, Act.put]
              go_simp
              exact HK.out _ _ ⟨by simp [pcs, Act.put, upd, gomax, gomin, *] <;> omega, O⟩
            · rintro L a' v ⟨rfl, O⟩ hL hd hcl K hK
              have HK := Lib.hid hK
              clear hK
              have hB := O.below; have hz := O.size; have T0 := (hB.cell (p := ⟨b, off + k * 2, none⟩) hb0).trans c0; have T1 := (hB.cell (p := ⟨b, off + k * 2 + 1, none⟩) hb0).trans c1; have T2 := (hB.cell (p := ⟨b', off' + k * 2, none⟩) hb1).trans c2; have T3 := (hB.cell (p := ⟨b', off' + k * 2 + 1, none⟩) hb1).trans c3
              simp [Region.binds] at hd
              simp only [pcs, List.foldl_cons, List.foldl_nil, Act.put]
              go_simp
              exact HK.out _ _ ⟨by simp [pcs, Act.put, upd, gomax, gomin, *] <;> omega, O⟩
          rintro L a' w2 hL ⟨ea, OO⟩
          have L0 := hL 0 (by decide); have L1 := hL 1 (by decide); have L2 := hL 2 (by decide); have L3 := hL 3 (by decide); have L4 := hL 4 (by decide); have L5 := hL 5 (by decide); have L6 := hL 6 (by decide); have L7 := hL 7 (by decide); have L8 := hL 8 (by decide)
          have hB2 := OO.below; have hz2 := OO.size; have hl2 := OO.le
          simp [pcs, Act.put, L0, L1, L2, L3, L4, L5, L6, L7, L8] at ea
          subst ea
          clear hL L0 L1 L2 L3 L4 L5 L6 L7 L8
          have O2 : Own wr (w2.heap.size) w2 [] := ⟨hB2, Nat.le_refl _, (by (repeat' (first | (with_reducible assumption) | (with_reducible exact Below.refl _ _) | (with_reducible exact Cels.nil _) | (with_reducible refine Cels.cons ?_ ?_) | (with_reducible refine Own.mk ?_ ?_ ?_ ?_) | ((with_reducible refine Cel.new ?_ rfl); first | (with_reducible rfl) | omega | (simp; done) | (simp; omega)) | (with_reducible refine Cel.alloc ?_ _) | (with_reducible refine Cel.drew ?_) | (with_reducible refine Cel.setS ?_ _) | (with_reducible refine Has.set ?_ _ _) | (with_reducible exact Has.of (by assumption)) | (with_reducible refine Cel.setO ?_ ?_ _) | (with_reducible refine Cel.keep (by assumption) ?_) | (with_reducible refine Below.alloc ?_ ?_ _) | (with_reducible refine Below.drew ?_) | (with_reducible refine Below.setCell ?_ ?_ _) | (with_reducible refine below_keep ?_ ?_ (by assumption)) | omega | (simp; done) | (simp; omega)))), hB2.size⟩
          clear OO
          have hBw2 := hBw.trans (hB2.mono hsz)
          go_wp2
          go_ret
          refine ⟨rb ?_, hBw2⟩
          symm
          exact decide_eq_false (fun hh => E.out (hh.2 k hlt))
        · clear e
          go_wp2_with fail
          refine wp_region_by (fun a0 L a' w' => a' = pcs a0 [(17, L 0, .slice (some ⟨b, off, none⟩) n c), (18, L 1, .int .i64 ((k : Int))), (19, L 2, .pointer (some ⟨b, off + k * 2, none⟩)), (20, L 3, sp (lo k) (hi k)), (21, L 4, .slice (some ⟨b', off', none⟩) n c'), (22, L 5, .int .i64 ((k : Int))), (23, L 6, .pointer (some ⟨b', off' + k * 2, none⟩)), (24, L 7, sp (lo' k) (hi' k)), (25, L 8, .bool true)] ∧ Own wr (wr.heap.size) w' []) (by kernel_rfl) (by kernel_rfl) ?_ ?_ ?_
          · exact ⟨(pcs_start _ _ (by simp)).symm, by (repeat' (first | (with_reducible assumption) | (with_reducible exact Below.refl _ _) | (with_reducible exact Cels.nil _) | (with_reducible refine Cels.cons ?_ ?_) | (with_reducible refine Own.mk ?_ ?_ ?_ ?_) | ((with_reducible refine Cel.new ?_ rfl); first | (with_reducible rfl) | omega | (simp; done) | (simp; omega)) | (with_reducible refine Cel.alloc ?_ _) | (with_reducible refine Cel.drew ?_) | (with_reducible refine Cel.setS ?_ _) | (with_reducible refine Has.set ?_ _ _) | (with_reducible exact Has.of (by assumption)) | (with_reducible refine Cel.setO ?_ ?_ _) | (with_reducible refine Cel.keep (by assumption) ?_) | (with_reducible refine Below.alloc ?_ ?_ _) | (with_reducible refine Below.drew ?_) | (with_reducible refine Below.setCell ?_ ?_ _) | (with_reducible refine below_keep ?_ ?_ (by assumption)) | omega | (simp; done) | (simp; omega)))⟩
          · refine ⟨?_, ?_, ?_, ?_, ?_, ?_, ?_, ?_, ?_, trivial⟩
            · rintro L a' v ⟨rfl, O⟩ hL hd hcl K hK
              have HK := Lib.hid hK
              clear hK
              have hB := O.below; have hz := O.size; have T0 := (hB.cell (p := ⟨b, off + k * 2, none⟩) hb0).trans c0; have T1 := (hB.cell (p := ⟨b, off + k * 2 + 1, none⟩) hb0).trans c1; have T2 := (hB.cell (p := ⟨b', off' + k * 2, none⟩) hb1).trans c2; have T3 := (hB.cell (p := ⟨b', off' + k * 2 + 1, none⟩) hb1).trans c3
              simp [Region.binds] at hd
              simp only [pcs, List.foldl_cons, List.foldl_nil, Act.put]
              go_simp
              exact HK.out _ _ ⟨by simp [pcs, Act.put, upd, gomax, gomin, *] <;> omega, O⟩
            · rintro L a' v ⟨rfl, O⟩ hL hd hcl K hK
              have HK := Lib.hid hK
              clear hK
              have hB := O.below; have hz := O.size; have T0 := (hB.cell (p := ⟨b, off + k * 2, none⟩) hb0).trans c0; have T1 := (hB.cell (p := ⟨b, off + k * 2 + 1, none⟩) hb0).trans c1; have T2 := (hB.cell (p := ⟨b', off' + k * 2, none⟩) hb1).trans c2; have T3 := (hB.cell (p := ⟨b', off' + k * 2 + 1, none⟩) hb1).trans c3
              simp [Region.binds] at hd
              simp only [pcs, List.foldl_cons, List.foldl_nil, Act.put]
              go_simp
              exact HK.out _ _ ⟨by simp [pcs, Act.put, upd, gomax, gomin, *] <;> omega, O⟩
            · rintro L a' v ⟨rfl, O⟩ hL hd hcl K hK
              have HK := Lib.hid hK
              clear hK
              have hB := O.below; have hz := O.size; have T0 := (hB.cell (p := ⟨b, off + k * 2, none⟩) hb0).trans c0; have T1 := (hB.cell (p := ⟨b, off + k * 2 + 1, none⟩) hb0).trans c1; have T2 := (hB.cell (p := ⟨b', off' + k * 2, none⟩) hb1).trans c2; have T3 := (hB.cell (p := ⟨b', off' + k * 2 + 1, none⟩) hb1).trans c3
              simp [Region.binds] at hd
              simp only [pcs, List.foldl_cons, List.foldl_nil, Act.put]
              go_simp
              exact HK.out _ _ ⟨by simp [pcs, Act.put, upd, gomax, gomin, *] <;> omega, O⟩
            · rintro L a' v ⟨rfl, O⟩ hL hd hcl K hK
              have HK := Lib.hid hK
              clear hK
              have hB := O.below; have hz := O.size; have T0 := (hB.cell (p := ⟨b, off + k * 2, none⟩) hb0).trans c0; have T1 := (hB.cell (p := ⟨b, off + k * 2 + 1, none⟩) hb0).trans c1; have T2 := (hB.cell (p := ⟨b', off' + k * 2, none⟩) hb1).trans c2; have T3 := (hB.cell (p := ⟨b', off' + k * 2 + 1, none⟩) hb1).trans c3
              simp [Region.binds] at hd
              simp only [pcs, List.foldl_cons, List.foldl_nil, Act.put]
              go_simp
              exact HK.out _ _ ⟨by simp [pcs, Act.put, upd, gomax, gomin, *] <;> omega, O⟩
            · rintro L a' v ⟨rfl, O⟩ hL hd hcl K hK
              have HK := Lib.hid hK
              clear hK
              have hB := O.below; have hz := O.size; have T0 := (hB.cell (p := ⟨b, off + k * 2, none⟩) hb0).trans c0; have T1 := (hB.cell (p := ⟨b, off + k * 2 + 1, none⟩) hb0).trans c1; have T2 := (hB.cell (p := ⟨b', off' + k * 2, none⟩) hb1).trans c2; have T3 := (hB.cell (p := ⟨b', off' + k * 2 + 1, none⟩) hb1).trans c3
              simp [Region.binds] at hd
              simp only [pcs, List.foldl_cons, List.foldl_nil, Act.put]
              go_simp
              exact HK.out _ _ ⟨by simp [pcs, Act.put, upd, gomax, gomin, *] <;> omega, O⟩
            · rintro L a' v ⟨rfl, O⟩ hL hd hcl K hK
              have HK := Lib.hid hK
              clear hK
              have hB := O.below; have hz := O.size; have T0 := (hB.cell (p := ⟨b, off + k * 2, none⟩) hb0).trans c0; have T1 := (hB.cell (p := ⟨b, off + k * 2 + 1, none⟩) hb0).trans c1; have T2 := (hB.cell (p := ⟨b', off' + k * 2, none⟩) hb1).trans c2; have T3 := (hB.cell (p := ⟨b', off' + k * 2 + 1, none⟩) hb1).trans c3
              simp [Region.binds] at hd
              simp only [pcs, List.foldl_cons, List.foldl_nil, Act.put]
              go_simp
              exact HK.out _ _ ⟨by simp [pcs, Act.put, upd, gomax, gomin, *] <;> omega, O⟩
            · rintro L a' v ⟨rfl, O⟩ hL hd hcl K hK
              have HK := Lib.hid hK
              clear hK
              have hB := O.below; have hz := O.size; have T0 := (hB.cell (p := ⟨b, off + k * 2, none⟩) hb0).trans c0; have T1 := (hB.cell (p := ⟨b, off + k * 2 + 1, none⟩) hb0).trans c1; have T2 := (hB.cell (p := ⟨b', off' + k * 2, none⟩) hb1).trans c2; have T3 := (hB.cell (p := ⟨b', off' + k * 2 + 1, none⟩) hb1).trans c3
              simp [Region.binds] at hd
              simp only [pcs, List.foldl_cons, List.foldl_nil, Act.put]
              go_simp
              exact HK.out _ _ ⟨by simp [pcs, Act.put, upd, gomax, gomin, *] <;> omega, O⟩
            · rintro L a' v ⟨rfl, O⟩ hL hd hcl K hK
              have HK := Lib.hid hK
              clear hK
              have hB := O.below; have hz := O.size; have T0 := (hB.cell (p := ⟨b, off + k * 2, none⟩) hb0).trans c0; have T1 := (hB.cell (p := ⟨b, off + k * 2 + 1, none⟩) hb0).trans c1; have T2 := (hB.cell (p := ⟨b', off' + k * 2, none⟩) hb1).trans c2; have T3 := (hB.cell (p := ⟨b', off' + k * 2 + 1, none⟩) hb1).trans c3
              simp [Region.binds] at hd
              simp only [pcs, List.foldl_cons, List.foldl_nil, Act.put]
              go_simp
              exact HK.out _ _ ⟨by simp [pcs, Act.put, upd, gomax, gomin, *] <;> omega, O⟩
            · rintro L a' v ⟨rfl, O⟩ hL hd hcl K hK
              have HK := Lib.hid hK
              clear hK
              have hB := O.below; have hz := O.size; have T0 := (hB.cell (p := ⟨b, off + k * 2, none⟩) hb0).trans c0; have T1 := (hB.cell (p := ⟨b, off + k * 2 + 1, none⟩) hb0).trans c1; have T2 := (hB.cell (p := ⟨b', off' + k * 2, none⟩) hb1).trans c2; have T3 := (hB.cell (p := ⟨b', off' + k * 2 + 1, none⟩) hb1).trans c3
              simp [Region.binds] at hd
              simp only [pcs, List.foldl_cons, List.foldl_nil, Act.put]
              go_simp
              exact HK.out _ _ ⟨by simp [pcs, Act.put, upd, gomax, gomin, *] <;> omega, O⟩
          rintro L a' w2 hL ⟨ea, OO⟩
          have L0 := hL 0 (by decide); have L1 := hL 1 (by decide); have L2 := hL 2 (by decide); have L3 := hL 3 (by decide); have L4 := hL 4 (by decide); have L5 := hL 5 (by decide); have L6 := hL 6 (by decide); have L7 := hL 7 (by decide); have L8 := hL 8 (by decide)
          have hB2 := OO.below; have hz2 := OO.size; have hl2 := OO.le
          simp [pcs, Act.put, L0, L1, L2, L3, L4, L5, L6, L7, L8] at ea
          subst ea
          clear hL L0 L1 L2 L3 L4 L5 L6 L7 L8
          have O2 : Own wr (w2.heap.size) w2 [] := ⟨hB2, Nat.le_refl _, (by (repeat' (first | (with_reducible assumption) | (with_reducible exact Below.refl _ _) | (with_reducible exact Cels.nil _) | (with_reducible refine Cels.cons ?_ ?_) | (with_reducible refine Own.mk ?_ ?_ ?_ ?_) | ((with_reducible refine Cel.new ?_ rfl); first | (with_reducible rfl) | omega | (simp; done) | (simp; omega)) | (with_reducible refine Cel.alloc ?_ _) | (with_reducible refine Cel.drew ?_) | (with_reducible refine Cel.setS ?_ _) | (with_reducible refine Has.set ?_ _ _) | (with_reducible exact Has.of (by assumption)) | (with_reducible refine Cel.setO ?_ ?_ _) | (with_reducible refine Cel.keep (by assumption) ?_) | (with_reducible refine Below.alloc ?_ ?_ _) | (with_reducible refine Below.drew ?_) | (with_reducible refine Below.setCell ?_ ?_ _) | (with_reducible refine below_keep ?_ ?_ (by assumption)) | omega | (simp; done) | (simp; omega)))), hB2.size⟩
          clear OO
          have hBw2 := hBw.trans (hB2.mono hsz)
          go_wp2
          go_ret
          refine ⟨rb ?_, hBw2⟩
          symm
          exact decide_eq_false (fun hh => E.out (hh.2 k hlt))
    · obtain rfl : k = n := by omega
      go_wp2_with fail
      go_ret
      refine ⟨rb ?_, hBw⟩
      symm
      exact decide_eq_true ⟨rfl, hall⟩
theorem spans_any (p p' : Option Addr) (n n' c c' : Nat) (lo hi lo' hi' : Nat → Int) (w : World) (hn : n ≤ 1000000) (hL : Lie w p n lo hi) (hL' : Lie w p' n' lo' hi') :
    Calls Try.prog 22 #[.slice p n c, .slice p' n' c'] w fun e w' => e = .returned (.bool (sameL n n' lo hi lo' hi')) ∧ Below w.heap.size w w' := by
  by_cases h : n = n'
  · subst h; exact spans_eq p p' n c c' lo hi lo' hi' w hn hL hL'
  · rw [sameL, decide_eq_false (fun hh => h hh.1)]; exact spans_ne p p' n n' c c' w h
def T1 : Nat → Int := L1 [(5, 7), (9, 12), (8, 8)]
def T2 : Nat → Int := L2 [(5, 7), (9, 12), (8, 8)]
set_option maxHeartbeats 1600000 in
theorem table_any (w : World) : Calls Try.prog 36 #[] w fun e w' => (∃ p, e = .returned (tv 100 10 p 3 3) ∧ Lie w' p 3 T1 T2) ∧ Below w.heap.size w w' := by
  go_enter Try.func36, Try.ntmps36
  go_wp2
  refine bodyPost_ret (v := tv 100 10 (some ⟨w.heap.size + 1, 0, none⟩) 3 3) (by simp [results, Try.results36, go_sem]) rfl ⟨⟨_, rfl, Or.inr ⟨w.heap.size + 1, 0, rfl, fun i hi => ?_⟩⟩, ?_⟩
  · have hsz : (w.alloc (.cells #[.int .i64 100, .int .i64 10, .slice (some ⟨w.heap.size + 1, 0, none⟩) 3 3] 24)).heap.size = w.heap.size + 1 := by simp
    obtain rfl | rfl | rfl : i = 0 ∨ i = 1 ∨ i = 2 := by omega
    · exact ⟨(Cel.new hsz.symm rfl).1, (Cel.new hsz.symm rfl).1⟩
    · exact ⟨(Cel.new hsz.symm rfl).1, (Cel.new hsz.symm rfl).1⟩
    · exact ⟨(Cel.new hsz.symm rfl).1, (Cel.new hsz.symm rfl).1⟩
  · (repeat' (first | (with_reducible assumption) | (with_reducible exact Below.refl _ _) | (with_reducible exact Cels.nil _) | (with_reducible refine Cels.cons ?_ ?_) | (with_reducible refine Own.mk ?_ ?_ ?_ ?_) | ((with_reducible refine Cel.new ?_ rfl); first | (with_reducible rfl) | omega | (simp; done) | (simp; omega)) | (with_reducible refine Cel.alloc ?_ _) | (with_reducible refine Cel.drew ?_) | (with_reducible refine Cel.setS ?_ _) | (with_reducible refine Has.set ?_ _ _) | (with_reducible exact Has.of (by assumption)) | (with_reducible refine Cel.setO ?_ ?_ _) | (with_reducible refine Cel.keep (by assumption) ?_) | (with_reducible refine Below.alloc ?_ ?_ _) | (with_reducible refine Below.drew ?_) | (with_reducible refine Below.setCell ?_ ?_ _) | (with_reducible refine below_keep ?_ ?_ (by assumption)) | omega | (simp; done) | (simp; omega)))
def same (s st s' st' : Int) (n n' : Nat) (lo hi lo' hi' : Nat → Int) : Bool := decide (s = s' ∧ st = st') && sameL n n' lo hi lo' hi'

set_option maxHeartbeats 1600000 in
theorem same_1 (s st : Int) (p : Option Addr) (n c : Nat) (lo hi : Nat → Int) (s' st' : Int) (p' : Option Addr) (n' c' : Nat) (lo' hi' : Nat → Int) (w : World) (h : ¬ s = s') :
    Calls Try.prog 30 #[tv s st p n c, tv s' st' p' n' c'] w fun e w' => e = .returned (.bool false) ∧ Below w.heap.size w w' := by
  go_enter Try.func30, Try.ntmps30
  go_wp2_with fail
  all_goals
    go_ret
    refine ⟨rfl, ?_⟩
    (repeat' (first | (with_reducible assumption) | (with_reducible exact Below.refl _ _) | (with_reducible exact Cels.nil _) | (with_reducible refine Cels.cons ?_ ?_) | (with_reducible refine Own.mk ?_ ?_ ?_ ?_) | ((with_reducible refine Cel.new ?_ rfl); first | (with_reducible rfl) | omega | (simp; done) | (simp; omega)) | (with_reducible refine Cel.alloc ?_ _) | (with_reducible refine Cel.drew ?_) | (with_reducible refine Cel.setS ?_ _) | (with_reducible refine Has.set ?_ _ _) | (with_reducible exact Has.of (by assumption)) | (with_reducible refine Cel.setO ?_ ?_ _) | (with_reducible refine Cel.keep (by assumption) ?_) | (with_reducible refine Below.alloc ?_ ?_ _) | (with_reducible refine Below.drew ?_) | (with_reducible refine Below.setCell ?_ ?_ _) | (with_reducible refine below_keep ?_ ?_ (by assumption)) | omega | (simp; done) | (simp; omega)))

set_option maxHeartbeats 1600000 in
theorem same_2 (s st : Int) (p : Option Addr) (n c : Nat) (lo hi : Nat → Int) (st' : Int) (p' : Option Addr) (n' c' : Nat) (lo' hi' : Nat → Int) (w : World) (h : ¬ st = st') :
    Calls Try.prog 30 #[tv s st p n c, tv s st' p' n' c'] w fun e w' => e = .returned (.bool false) ∧ Below w.heap.size w w' := by
  go_enter Try.func30, Try.ntmps30
  go_wp2_with fail
  all_goals
    go_ret
    refine ⟨rfl, ?_⟩
    (repeat' (first | (with_reducible assumption) | (with_reducible exact Below.refl _ _) | (with_reducible exact Cels.nil _) | (with_reducible refine Cels.cons ?_ ?_) | (with_reducible refine Own.mk ?_ ?_ ?_ ?_) | ((with_reducible refine Cel.new ?_ rfl); first | (with_reducible rfl) | omega | (simp; done) | (simp; omega)) | (with_reducible refine Cel.alloc ?_ _) | (with_reducible refine Cel.drew ?_) | (with_reducible refine Cel.setS ?_ _) | (with_reducible refine Has.set ?_ _ _) | (with_reducible exact Has.of (by assumption)) | (with_reducible refine Cel.setO ?_ ?_ _) | (with_reducible refine Cel.keep (by assumption) ?_) | (with_reducible refine Below.alloc ?_ ?_ _) | (with_reducible refine Below.drew ?_) | (with_reducible refine Below.setCell ?_ ?_ _) | (with_reducible refine below_keep ?_ ?_ (by assumption)) | omega | (simp; done) | (simp; omega)))

set_option maxHeartbeats 1600000 in
theorem same_3 (s st : Int) (p : Option Addr) (n c : Nat) (lo hi : Nat → Int) (p' : Option Addr) (n' c' : Nat) (lo' hi' : Nat → Int) (w : World) (hn : n ≤ 1000000) (hL : Lie w p n lo hi) (hL' : Lie w p' n' lo' hi') :
    Calls Try.prog 30 #[tv s st p n c, tv s st p' n' c'] w fun e w' => e = .returned ((.bool (sameL n n' lo hi lo' hi'))) ∧ Below w.heap.size w w' := by
  go_enter Try.func30, Try.ntmps30
  go_wp2_with (first | (go_at_call 22; refine (spans_any p p' n n' c c' lo hi lo' hi' _ hn (hL.keep (by (repeat' (first | (with_reducible assumption) | (with_reducible exact Below.refl _ _) | (with_reducible exact Cels.nil _) | (with_reducible refine Cels.cons ?_ ?_) | (with_reducible refine Own.mk ?_ ?_ ?_ ?_) | ((with_reducible refine Cel.new ?_ rfl); first | (with_reducible rfl) | omega | (simp; done) | (simp; omega)) | (with_reducible refine Cel.alloc ?_ _) | (with_reducible refine Cel.drew ?_) | (with_reducible refine Cel.setS ?_ _) | (with_reducible refine Has.set ?_ _ _) | (with_reducible exact Has.of (by assumption)) | (with_reducible refine Cel.setO ?_ ?_ _) | (with_reducible refine Cel.keep (by assumption) ?_) | (with_reducible refine Below.alloc ?_ ?_ _) | (with_reducible refine Below.drew ?_) | (with_reducible refine Below.setCell ?_ ?_ _) | (with_reducible refine below_keep ?_ ?_ (by assumption)) | omega | (simp; done) | (simp; omega))))) (hL'.keep (by (repeat' (first | (with_reducible assumption) | (with_reducible exact Below.refl _ _) | (with_reducible exact Cels.nil _) | (with_reducible refine Cels.cons ?_ ?_) | (with_reducible refine Own.mk ?_ ?_ ?_ ?_) | ((with_reducible refine Cel.new ?_ rfl); first | (with_reducible rfl) | omega | (simp; done) | (simp; omega)) | (with_reducible refine Cel.alloc ?_ _) | (with_reducible refine Cel.drew ?_) | (with_reducible refine Cel.setS ?_ _) | (with_reducible refine Has.set ?_ _ _) | (with_reducible exact Has.of (by assumption)) | (with_reducible refine Cel.setO ?_ ?_ _) | (with_reducible refine Cel.keep (by assumption) ?_) | (with_reducible refine Below.alloc ?_ ?_ _) | (with_reducible refine Below.drew ?_) | (with_reducible refine Below.setCell ?_ ?_ _) | (with_reducible refine below_keep ?_ ?_ (by assumption)) | omega | (simp; done) | (simp; omega)))))).mono ?_; rintro e w1 ⟨rfl, hb⟩; have hs := hb.size; (try simp at hs); have hB : Below w.heap.size w w1 := (by (repeat' (first | (with_reducible assumption) | (with_reducible exact Below.refl _ _) | (with_reducible exact Cels.nil _) | (with_reducible refine Cels.cons ?_ ?_) | (with_reducible refine Own.mk ?_ ?_ ?_ ?_) | ((with_reducible refine Cel.new ?_ rfl); first | (with_reducible rfl) | omega | (simp; done) | (simp; omega)) | (with_reducible refine Cel.alloc ?_ _) | (with_reducible refine Cel.drew ?_) | (with_reducible refine Cel.setS ?_ _) | (with_reducible refine Has.set ?_ _ _) | (with_reducible exact Has.of (by assumption)) | (with_reducible refine Cel.setO ?_ ?_ _) | (with_reducible refine Cel.keep (by assumption) ?_) | (with_reducible refine Below.alloc ?_ ?_ _) | (with_reducible refine Below.drew ?_) | (with_reducible refine Below.setCell ?_ ?_ _) | (with_reducible refine below_keep ?_ ?_ (by assumption)) | omega | (simp; done) | (simp; omega)))); clear hb))
  all_goals
    go_ret
    refine ⟨rfl, ?_⟩
    (repeat' (first | (with_reducible assumption) | (with_reducible exact Below.refl _ _) | (with_reducible exact Cels.nil _) | (with_reducible refine Cels.cons ?_ ?_) | (with_reducible refine Own.mk ?_ ?_ ?_ ?_) | ((with_reducible refine Cel.new ?_ rfl); first | (with_reducible rfl) | omega | (simp; done) | (simp; omega)) | (with_reducible refine Cel.alloc ?_ _) | (with_reducible refine Cel.drew ?_) | (with_reducible refine Cel.setS ?_ _) | (with_reducible refine Has.set ?_ _ _) | (with_reducible exact Has.of (by assumption)) | (with_reducible refine Cel.setO ?_ ?_ _) | (with_reducible refine Cel.keep (by assumption) ?_) | (with_reducible refine Below.alloc ?_ ?_ _) | (with_reducible refine Below.drew ?_) | (with_reducible refine Below.setCell ?_ ?_ _) | (with_reducible refine below_keep ?_ ?_ (by assumption)) | omega | (simp; done) | (simp; omega)))

theorem same_any (s st : Int) (p : Option Addr) (n c : Nat) (lo hi : Nat → Int) (s' st' : Int) (p' : Option Addr) (n' c' : Nat) (lo' hi' : Nat → Int) (w : World) (hn : n ≤ 1000000) (hL : Lie w p n lo hi) (hL' : Lie w p' n' lo' hi') :
    Calls Try.prog 30 #[tv s st p n c, tv s' st' p' n' c'] w fun e w' => e = .returned (.bool (same s st s' st' n n' lo hi lo' hi')) ∧ Below w.heap.size w w' := by
  by_cases h1 : s = s'
  · subst h1
    by_cases h2 : st = st'
    · subst h2
      rw [same, decide_eq_true ⟨rfl, rfl⟩, Bool.true_and]
      exact same_3 s st p n c lo hi p' n' c' lo' hi' w hn hL hL'
    · rw [same, decide_eq_false (fun h => h2 h.2), Bool.false_and]
      exact same_2 s st p n c lo hi st' p' n' c' lo' hi' w h2
  · rw [same, decide_eq_false (fun h => h1 h.1), Bool.false_and]
    exact same_1 s st p n c lo hi s' st' p' n' c' lo' hi' w h1

end Go.Proofs.Ytmljnelmnagfoaa
