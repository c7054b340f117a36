/- Tide: what a function returns for the rows of two tables. -/
import Derived.Test.YtmljnelmnagfoaaW
import Derived.Test.YtmljnelmnagfoaaD
import Derived.OwnWalk
set_option linter.unusedVariables false
set_option linter.unusedSimpArgs false
namespace Go.Proofs.Ytmljnelmnagfoaa
open Go.RowKit
attribute [local go_sem] World.cell?_alloc_some frozen_alloc_some isSome_alloc isSome_setCell

def rowf (rl rh : Nat → Int) : Nat → List Value
  | 0 => []
  | k + 1 => rowf rl rh k ++ [.int .i64 (rl k), .int .i64 (rh k)]
theorem rowf_len (rl rh : Nat → Int) : ∀ k, (rowf rl rh k).length = k * 2
  | 0 => rfl
  | k + 1 => by rw [rowf, List.length_append, rowf_len rl rh k]; simp; omega
theorem rowf_get (rl rh : Nat → Int) : ∀ (n i : Nat) (h : i < n), (rowf rl rh n)[i * 2]? = some (.int .i64 (rl i)) ∧ (rowf rl rh n)[i * 2 + 1]? = some (.int .i64 (rh i))
  | n + 1, i, h => by
    rw [rowf]
    by_cases e : i < n
    · have := rowf_get rl rh n i e
      rw [List.getElem?_append_left (by rw [rowf_len]; omega), List.getElem?_append_left (by rw [rowf_len]; omega)]
      exact this
    · obtain rfl : i = n := by omega
      rw [List.getElem?_append_right (by rw [rowf_len]; omega), List.getElem?_append_right (by rw [rowf_len]; omega), rowf_len]
      rw [Nat.sub_self, show i * 2 + 1 - i * 2 = 1 by omega]
      exact ⟨rfl, rfl⟩
theorem lie_of_rowf {W : World} {base : Nat} {v : Value} {n : Nat} {rl rh : Nat → Int} (h : W.ownsRow base 30 2 v n (rowf rl rh n)) : ∃ p c, v = .slice p n c ∧ Lie W p n rl rh ∧ ∀ a, p = some a → base ≤ a.block := by
  rcases h.2 with ⟨rfl, h0⟩ | ⟨g, cap, cur, rfl, hbg, _⟩
  · exact ⟨none, 0, by rw [h0], Or.inl h0, fun a e => by cases e⟩
  · refine ⟨_, _, rfl, Or.inr ⟨g, 0, rfl, fun i hi' => ?_⟩, fun a e => by cases e; exact hbg⟩
    have r := rowf_get rl rh n i hi'
    rw [Nat.zero_add]
    exact ⟨(h.cellAt (i * 2) (by omega)).trans r.1, (h.cellAt (i * 2 + 1) (by omega)).trans r.2⟩
theorem Lie.set {W : World} {p : Option Addr} {n : Nat} {lo hi : Nat → Int} (h : Lie W p n lo hi) {b o : Nat} (u : Value) (hp : ∀ a, p = some a → a.block ≠ b) : Lie (W.setCell ⟨b, o, none⟩ u) p n lo hi := by
  rcases h with h | ⟨b', off, rfl, hc⟩
  · exact Or.inl h
  · have hne := hp _ rfl
    refine Or.inr ⟨b', off, rfl, fun i hi' => ⟨?_, ?_⟩⟩
    · rw [World.cell?_setCell_other _ _ _ _ (fun e => by injection e with e1; exact hne e1.symm)]; exact (hc i hi').1
    · rw [World.cell?_setCell_other _ _ _ _ (fun e => by injection e with e1; exact hne e1.symm)]; exact (hc i hi').2
theorem row_below' {W w2 : World} {base : Nat} {e : TypeId} {size : Nat} {v : Value} {k : Nat} {xs : List Value} (h : W.ownsRow base e size v k xs) (hb : Below W.heap.size W w2) : w2.ownsRow base e size v k xs := by
  refine h.kept (row := none) ⟨hb.os, hb.tape, hb.output, hb.size, fun k hk _ => hb.block k hk⟩ ?_
  cases v.ownBlock <;> simp
theorem grown_below {W W' : World} {base : Nat} {e : TypeId} {size : Nat} {v : Value} {k : Nat} {xs : List Value} (h : W.ownsRow base e size v k xs) (hg : W.grownBy W' v.ownBlock) (hb : base ≤ W.heap.size) : Below base W W' :=
  (Below.refl base W).grown hg hb fun j e => (h.lt j e).1

set_option maxHeartbeats 8000000 in
theorem each57 (p p' : Option Addr) (n c c' : Nat) (lo hi lo' hi' rl rh re : Nat → Int) (w : World) (hL : Lie w p n lo hi) (hL' : Lie w p' n lo' hi') (hn : n ≤ 200)
    (hcall : ∀ i (W : World), i < n → Calls Try.prog 57 #[sp (lo i) (hi i), sp (lo' i) (hi' i)] W fun e W' => e = .returned (se (rl i) (rh i) (re i)) ∧ Below W.heap.size W W') :
    Calls Try.prog 56 #[.slice p n c, .slice p' n c', .func (.func 57) #[] #[]] w fun e w' => (((∀ i, i < n → re i = 0) ∧ ∃ p2 c2, e = .returned (.tuple #[.slice p2 n c2, .int .i64 0]) ∧ Lie w' p2 n rl rh ∧ ∀ a, p2 = some a → w.heap.size ≤ a.block) ∨ ((∃ i, i < n ∧ ¬ re i = 0) ∧ ∃ E, ¬ E = 0 ∧ e = .returned (.tuple #[.slice none 0 0, .int .i64 E]))) ∧ Below w.heap.size w w' := by
  obtain ⟨i0, ii0, iz0, iz1, iz2⟩ := info_parts info30
  go_enter Try.func56, Try.ntmps56
  go_wp2
  go_loopw [8, 15] (fun v i wr => ∃ k : Nat, k ≤ n ∧ i = .int .i64 k ∧ (∀ j, j < k → re j = 0) ∧ wr.ownsRow w.heap.size 30 2 v k (rowf rl rh k) ∧ Below w.heap.size w wr) (fun _ i _ => n - (intOf i).toNat)
  case atStart => exact ⟨0, Nat.zero_le _, rfl, fun j hj => absurd hj (Nat.not_lt_zero _), World.ownsRow_nil _ _ _ _, Below.refl _ _⟩
  case round =>
    obtain ⟨k, hk, rfl, hall, hrow, hBw⟩ := hrel
    rcases Nat.lt_or_ge k n with hlt | hge
    · obtain hn0 | ⟨b, off, rfl, hc⟩ := hL.keep hBw
      · omega
      obtain hn0 | ⟨b', off', rfl, hc'⟩ := hL'.keep hBw
      · omega
      have c0 := (hc k hlt).1
      have c1 := (hc k hlt).2
      have c2 := (hc' k hlt).1
      have c3 := (hc' k hlt).2
      have hbb : b' < wr.heap.size := World.block_lt_of_cell? wr _ c2
      have hsz := hBw.size
      clear hc hc' hL hL'
      go_wp2_with fail
      have bx0 := below_new wr (.cells #[.int .i64 (lo k), .int .i64 (hi k)] 30)
      have hsx : (wr.alloc (.cells #[.int .i64 (lo k), .int .i64 (hi k)] 30)).heap.size = wr.heap.size + 1 := by simp
      have e3 : Cel (wr.alloc (.cells #[.int .i64 (lo k), .int .i64 (hi k)] 30)) wr.heap.size 0 (.int .i64 (lo k)) := Cel.new rfl rfl
      have e4 : Cel (wr.alloc (.cells #[.int .i64 (lo k), .int .i64 (hi k)] 30)) wr.heap.size 1 (.int .i64 (hi k)) := Cel.new rfl rfl
      have d2 := (bx0.cell (p := ⟨b', off' + k * 2, none⟩) hbb).trans c2
      have d3 := (bx0.cell (p := ⟨b', off' + k * 2 + 1, none⟩) hbb).trans c3
      have hrow1 := row_below' hrow bx0
      have hBw1 := hBw.trans (bx0.mono hsz)
      obtain ⟨X, hX⟩ : ∃ X, X = wr.heap.size := ⟨_, rfl⟩
      rw [← hX] at e3 e4 hsx
      simp only [← hX]
      generalize wr.alloc (.cells #[.int .i64 (lo k), .int .i64 (hi k)] 30) = wx at *
      have hbx : b' < wx.heap.size := by omega
      clear c0 c1 c2 c3 hrow
      have HX := Lib.hid hX
      clear hX
      refine wp_region_by (fun a0 L a' w' => ∃ nb : Nat, a' = pcs a0 [(21, L 0, .func (.func 57) #[] #[]), (22, L 1, sp (lo k) (hi k)), (23, L 2, .slice (some ⟨b', off', none⟩) n c'), (24, L 3, .int .i64 ((k : Int))), (25, L 4, .pointer (some ⟨b', off' + k * 2, none⟩)), (26, L 5, sp (lo' k) (hi' k)), (27, L 6, se (rl k) (rh k) (re k)), (20, L 7, se (rl k) (rh k) (re k)), (28, L 8, sp (rl k) (rh k)), (29, L 9, .int .i64 (re k)), (11, L 10, .pointer (some ⟨nb, 0, none⟩)), (12, L 12, .int .i64 (re k))] ∧ Own wx (wx.heap.size) w' [(X, 0, .int .i64 (lo k)), (X, 1, .int .i64 (hi k))] ∧ (L 10 = true → (wx.heap.size) ≤ nb ∧ Cels w' [(nb, 0, .int .i64 (bif L 11 then rl k else 0)), (nb, 1, .int .i64 (bif L 11 then rh k else 0))])) (by kernel_rfl) (by kernel_rfl) ?_ ?_ ?_
      · exact ⟨0, (pcs_start _ _ (by simp)).symm, by (repeat' (first | (with_reducible assumption) | (with_reducible exact Below.refl _ _) | (with_reducible exact Cels.nil _) | (with_reducible refine Cels.cons ?_ ?_) | (with_reducible refine Own.mk ?_ ?_ ?_ ?_) | ((with_reducible refine Cel.new ?_ rfl); first | (with_reducible rfl) | omega | (simp; done) | (simp; omega)) | (with_reducible refine Cel.alloc ?_ _) | (with_reducible refine Cel.drew ?_) | (with_reducible refine Cel.setS ?_ _) | (with_reducible refine Has.set ?_ _ _) | (with_reducible exact Has.of (by assumption)) | (with_reducible refine Cel.setO ?_ ?_ _) | (with_reducible refine Cel.keep (by assumption) ?_) | (with_reducible refine Below.alloc ?_ ?_ _) | (with_reducible refine Below.drew ?_) | (with_reducible refine Below.setCell ?_ ?_ _) | (with_reducible refine below_keep ?_ ?_ (by assumption)) | omega | (simp; done) | (simp; omega))), fun hff => (by cases hff)⟩
      · refine ⟨?_, ?_, ?_, ?_, ?_, ?_, ?_, ?_, ?_, ?_, ?_, ?_, ?_, trivial⟩
        · rintro L a' v ⟨nb, rfl, O, hn10⟩ hL hd hcl K hK
          have HK := Lib.hid hK
          clear hK
          have hB := O.below; have hz := O.size; have S0 : Cel v (X) 0 (.int .i64 (lo k)) := O.cels.1; have S1 : Cel v (X) 1 (.int .i64 (hi k)) := O.cels.2.1; have T0 := (hB.cell (p := ⟨b', off' + k * 2, none⟩) hbx).trans d2; have T1 := (hB.cell (p := ⟨b', off' + k * 2 + 1, none⟩) hbx).trans d3
          simp [Region.binds] at hd
          simp only [pcs, List.foldl_cons, List.foldl_nil, Act.put]
          go_simp
          exact HK.out _ _ ⟨nb, by simp [pcs, Act.put, upd, gomax, gomin, *] <;> omega, O, by simpa [upd] using hn10⟩
        · rintro L a' v ⟨nb, rfl, O, hn10⟩ hL hd hcl K hK
          have HK := Lib.hid hK
          clear hK
          have hB := O.below; have hz := O.size; have S0 : Cel v (X) 0 (.int .i64 (lo k)) := O.cels.1; have S1 : Cel v (X) 1 (.int .i64 (hi k)) := O.cels.2.1; have T0 := (hB.cell (p := ⟨b', off' + k * 2, none⟩) hbx).trans d2; have T1 := (hB.cell (p := ⟨b', off' + k * 2 + 1, none⟩) hbx).trans d3
          simp [Region.binds] at hd
          simp only [pcs, List.foldl_cons, List.foldl_nil, Act.put]
          go_simp
          exact HK.out _ _ ⟨nb, by simp [pcs, Act.put, upd, gomax, gomin, *] <;> omega, O, by simpa [upd] using hn10⟩
        · rintro L a' v ⟨nb, rfl, O, hn10⟩ hL hd hcl K hK
          have HK := Lib.hid hK
          clear hK
          have hB := O.below; have hz := O.size; have S0 : Cel v (X) 0 (.int .i64 (lo k)) := O.cels.1; have S1 : Cel v (X) 1 (.int .i64 (hi k)) := O.cels.2.1; have T0 := (hB.cell (p := ⟨b', off' + k * 2, none⟩) hbx).trans d2; have T1 := (hB.cell (p := ⟨b', off' + k * 2 + 1, none⟩) hbx).trans d3
          simp [Region.binds] at hd
          simp only [pcs, List.foldl_cons, List.foldl_nil, Act.put]
          go_simp
          exact HK.out _ _ ⟨nb, by simp [pcs, Act.put, upd, gomax, gomin, *] <;> omega, O, by simpa [upd] using hn10⟩
        · rintro L a' v ⟨nb, rfl, O, hn10⟩ hL hd hcl K hK
          have HK := Lib.hid hK
          clear hK
          have hB := O.below; have hz := O.size; have S0 : Cel v (X) 0 (.int .i64 (lo k)) := O.cels.1; have S1 : Cel v (X) 1 (.int .i64 (hi k)) := O.cels.2.1; have T0 := (hB.cell (p := ⟨b', off' + k * 2, none⟩) hbx).trans d2; have T1 := (hB.cell (p := ⟨b', off' + k * 2 + 1, none⟩) hbx).trans d3
          simp [Region.binds] at hd
          simp only [pcs, List.foldl_cons, List.foldl_nil, Act.put]
          go_simp
          exact HK.out _ _ ⟨nb, by simp [pcs, Act.put, upd, gomax, gomin, *] <;> omega, O, by simpa [upd] using hn10⟩
        · rintro L a' v ⟨nb, rfl, O, hn10⟩ hL hd hcl K hK
          have HK := Lib.hid hK
          clear hK
          have hB := O.below; have hz := O.size; have S0 : Cel v (X) 0 (.int .i64 (lo k)) := O.cels.1; have S1 : Cel v (X) 1 (.int .i64 (hi k)) := O.cels.2.1; have T0 := (hB.cell (p := ⟨b', off' + k * 2, none⟩) hbx).trans d2; have T1 := (hB.cell (p := ⟨b', off' + k * 2 + 1, none⟩) hbx).trans d3
          simp [Region.binds] at hd
          simp only [pcs, List.foldl_cons, List.foldl_nil, Act.put]
          go_simp
          exact HK.out _ _ ⟨nb, by simp [pcs, Act.put, upd, gomax, gomin, *] <;> omega, O, by simpa [upd] using hn10⟩
        · rintro L a' v ⟨nb, rfl, O, hn10⟩ hL hd hcl K hK
          have HK := Lib.hid hK
          clear hK
          have hB := O.below; have hz := O.size; have S0 : Cel v (X) 0 (.int .i64 (lo k)) := O.cels.1; have S1 : Cel v (X) 1 (.int .i64 (hi k)) := O.cels.2.1; have T0 := (hB.cell (p := ⟨b', off' + k * 2, none⟩) hbx).trans d2; have T1 := (hB.cell (p := ⟨b', off' + k * 2 + 1, none⟩) hbx).trans d3
          simp [Region.binds] at hd
          simp only [pcs, List.foldl_cons, List.foldl_nil, Act.put]
          go_simp
          exact HK.out _ _ ⟨nb, by simp [pcs, Act.put, upd, gomax, gomin, *] <;> omega, O, by simpa [upd] using hn10⟩
        · rintro L a' v ⟨nb, rfl, O, hn10⟩ hL hd hcl K hK
          have HK := Lib.hid hK
          clear hK
          have hB := O.below; have hz := O.size; have S0 : Cel v (X) 0 (.int .i64 (lo k)) := O.cels.1; have S1 : Cel v (X) 1 (.int .i64 (hi k)) := O.cels.2.1; have T0 := (hB.cell (p := ⟨b', off' + k * 2, none⟩) hbx).trans d2; have T1 := (hB.cell (p := ⟨b', off' + k * 2 + 1, none⟩) hbx).trans d3
          simp [Region.binds] at hd
          simp only [pcs, List.foldl_cons, List.foldl_nil, Act.put]
          go_simp
          refine (hcall k _ hlt).mono ?_
          rintro e v' ⟨rfl, hb⟩
          go_simp
          exact HK.out _ _ ⟨nb, by simp [pcs, Act.put, upd, gomax, gomin, *] <;> omega, O.keep hb, fun hx => ⟨(hn10 (by simpa [upd] using hx)).1, (hn10 (by simpa [upd] using hx)).2.keep hb⟩⟩
        · rintro L a' v ⟨nb, rfl, O, hn10⟩ hL hd hcl K hK
          have HK := Lib.hid hK
          clear hK
          have hB := O.below; have hz := O.size; have S0 : Cel v (X) 0 (.int .i64 (lo k)) := O.cels.1; have S1 : Cel v (X) 1 (.int .i64 (hi k)) := O.cels.2.1; have T0 := (hB.cell (p := ⟨b', off' + k * 2, none⟩) hbx).trans d2; have T1 := (hB.cell (p := ⟨b', off' + k * 2 + 1, none⟩) hbx).trans d3
          simp [Region.binds] at hd
          simp only [pcs, List.foldl_cons, List.foldl_nil, Act.put]
          go_simp
          exact HK.out _ _ ⟨nb, by simp [pcs, Act.put, upd, gomax, gomin, *] <;> omega, O, by simpa [upd] using hn10⟩
        · rintro L a' v ⟨nb, rfl, O, hn10⟩ hL hd hcl K hK
          have HK := Lib.hid hK
          clear hK
          have hB := O.below; have hz := O.size; have S0 : Cel v (X) 0 (.int .i64 (lo k)) := O.cels.1; have S1 : Cel v (X) 1 (.int .i64 (hi k)) := O.cels.2.1; have T0 := (hB.cell (p := ⟨b', off' + k * 2, none⟩) hbx).trans d2; have T1 := (hB.cell (p := ⟨b', off' + k * 2 + 1, none⟩) hbx).trans d3
          simp [Region.binds] at hd
          simp only [pcs, List.foldl_cons, List.foldl_nil, Act.put]
          go_simp
          exact HK.out _ _ ⟨nb, by simp [pcs, Act.put, upd, gomax, gomin, *] <;> omega, O, by simpa [upd] using hn10⟩
        · rintro L a' v ⟨nb, rfl, O, hn10⟩ hL hd hcl K hK
          have HK := Lib.hid hK
          clear hK
          have hB := O.below; have hz := O.size; have S0 : Cel v (X) 0 (.int .i64 (lo k)) := O.cels.1; have S1 : Cel v (X) 1 (.int .i64 (hi k)) := O.cels.2.1; have T0 := (hB.cell (p := ⟨b', off' + k * 2, none⟩) hbx).trans d2; have T1 := (hB.cell (p := ⟨b', off' + k * 2 + 1, none⟩) hbx).trans d3
          simp [Region.binds] at hd
          simp only [pcs, List.foldl_cons, List.foldl_nil, Act.put]
          go_simp
          exact HK.out _ _ ⟨nb, by simp [pcs, Act.put, upd, gomax, gomin, *] <;> omega, O, by simpa [upd] using hn10⟩
        · rintro L a' v ⟨nb, rfl, O, hn10⟩ hL hd hcl K hK
          have HK := Lib.hid hK
          clear hK
          have hB := O.below; have hz := O.size; have S0 : Cel v (X) 0 (.int .i64 (lo k)) := O.cels.1; have S1 : Cel v (X) 1 (.int .i64 (hi k)) := O.cels.2.1; have T0 := (hB.cell (p := ⟨b', off' + k * 2, none⟩) hbx).trans d2; have T1 := (hB.cell (p := ⟨b', off' + k * 2 + 1, none⟩) hbx).trans d3
          simp [Region.binds] at hd
          have N11 : L 11 = false := (by cases hq : L 11 with | false => rfl | true => (have hc := hcl 11 _ rfl hq; simp [Region.binds, hL] at hc))
          simp only [pcs, List.foldl_cons, List.foldl_nil, Act.put]
          go_simp
          exact HK.out _ _ ⟨v.heap.size, by simp [pcs, Act.put, upd, gomax, gomin, *] <;> omega, O.alloc _, fun _ => ⟨O.size, by ((try simp only [upd]); (try simp only [N11, cond_false, Nat.reduceEqDiff, if_false, if_true, reduceIte]); (repeat' (first | (with_reducible assumption) | (with_reducible exact Below.refl _ _) | (with_reducible exact Cels.nil _) | (with_reducible refine Cels.cons ?_ ?_) | (with_reducible refine Own.mk ?_ ?_ ?_ ?_) | ((with_reducible refine Cel.new ?_ rfl); first | (with_reducible rfl) | omega | (simp; done) | (simp; omega)) | (with_reducible refine Cel.alloc ?_ _) | (with_reducible refine Cel.drew ?_) | (with_reducible refine Cel.setS ?_ _) | (with_reducible refine Has.set ?_ _ _) | (with_reducible exact Has.of (by assumption)) | (with_reducible refine Cel.setO ?_ ?_ _) | (with_reducible refine Cel.keep (by assumption) ?_) | (with_reducible refine Below.alloc ?_ ?_ _) | (with_reducible refine Below.drew ?_) | (with_reducible refine Below.setCell ?_ ?_ _) | (with_reducible refine below_keep ?_ ?_ (by assumption)) | omega | (simp; done) | (simp; omega))))⟩⟩
        · rintro L a' v ⟨nb, rfl, O, hn10⟩ hL hd hcl K hK
          have HK := Lib.hid hK
          clear hK
          have hB := O.below; have hz := O.size; have S0 : Cel v (X) 0 (.int .i64 (lo k)) := O.cels.1; have S1 : Cel v (X) 1 (.int .i64 (hi k)) := O.cels.2.1; have T0 := (hB.cell (p := ⟨b', off' + k * 2, none⟩) hbx).trans d2; have T1 := (hB.cell (p := ⟨b', off' + k * 2 + 1, none⟩) hbx).trans d3
          simp [Region.binds] at hd
          have yy := hn10 (by simp [*])
          have yn := yy.1; have y0 : Cel v (nb) 0 (.int .i64 (bif L 11 then rl k else 0)) := yy.2.1; have y1 : Cel v (nb) 1 (.int .i64 (bif L 11 then rh k else 0)) := yy.2.2.1
          simp only [pcs, List.foldl_cons, List.foldl_nil, Act.put]
          go_simp
          exact HK.out _ _ ⟨nb, by simp [pcs, Act.put, upd, gomax, gomin, *] <;> omega, ((O.setO _ yn (by simp <;> omega)).setO _ yn (by simp <;> omega)), fun _ => ⟨yn, by ((try simp only [upd]); (try simp only [cond_true, if_true, reduceIte]); (repeat' (first | (with_reducible assumption) | (with_reducible exact Below.refl _ _) | (with_reducible exact Cels.nil _) | (with_reducible refine Cels.cons ?_ ?_) | (with_reducible refine Own.mk ?_ ?_ ?_ ?_) | ((with_reducible refine Cel.new ?_ rfl); first | (with_reducible rfl) | omega | (simp; done) | (simp; omega)) | (with_reducible refine Cel.alloc ?_ _) | (with_reducible refine Cel.drew ?_) | (with_reducible refine Cel.setS ?_ _) | (with_reducible refine Has.set ?_ _ _) | (with_reducible exact Has.of (by assumption)) | (with_reducible refine Cel.setO ?_ ?_ _) | (with_reducible refine Cel.keep (by assumption) ?_) | (with_reducible refine Below.alloc ?_ ?_ _) | (with_reducible refine Below.drew ?_) | (with_reducible refine Below.setCell ?_ ?_ _) | (with_reducible refine below_keep ?_ ?_ (by assumption)) | omega | (simp; done) | (simp; omega))))⟩⟩
        · rintro L a' v ⟨nb, rfl, O, hn10⟩ hL hd hcl K hK
          have HK := Lib.hid hK
          clear hK
          have hB := O.below; have hz := O.size; have S0 : Cel v (X) 0 (.int .i64 (lo k)) := O.cels.1; have S1 : Cel v (X) 1 (.int .i64 (hi k)) := O.cels.2.1; have T0 := (hB.cell (p := ⟨b', off' + k * 2, none⟩) hbx).trans d2; have T1 := (hB.cell (p := ⟨b', off' + k * 2 + 1, none⟩) hbx).trans d3
          simp [Region.binds] at hd
          simp only [pcs, List.foldl_cons, List.foldl_nil, Act.put]
          go_simp
          exact HK.out _ _ ⟨nb, by simp [pcs, Act.put, upd, gomax, gomin, *] <;> omega, O, by simpa [upd] using hn10⟩
      rintro L a' w2 hL ⟨nb, ea, OO, hn10⟩
      have L0 := hL 0 (by decide); have L1 := hL 1 (by decide); have L2 := hL 2 (by decide); have L3 := hL 3 (by decide); have L4 := hL 4 (by decide); have L5 := hL 5 (by decide); have L6 := hL 6 (by decide); have L7 := hL 7 (by decide); have L8 := hL 8 (by decide); have L9 := hL 9 (by decide); have L10 := hL 10 (by decide); have L11 := hL 11 (by decide); have L12 := hL 12 (by decide)
      have hB2 := OO.below; have hz2 := OO.size; have hl2 := OO.le; have S2_0 : Cel w2 (X) 0 (.int .i64 (lo k)) := OO.cels.1; have S2_1 : Cel w2 (X) 1 (.int .i64 (hi k)) := OO.cels.2.1
      have yy := hn10 L10
      simp only [L0, L1, L2, L3, L4, L5, L6, L7, L8, L9, L10, L11, L12, cond_true] at yy
      have yn10 := yy.1; have S2_2 : Cel w2 (nb) 0 (.int .i64 (rl k)) := yy.2.1; have S2_3 : Cel w2 (nb) 1 (.int .i64 (rh k)) := yy.2.2.1; have yl10 := S2_2.lt
      clear yy
      simp [pcs, Act.put, L0, L1, L2, L3, L4, L5, L6, L7, L8, L9, L10, L11, L12] at ea
      subst ea
      clear hL L0 L1 L2 L3 L4 L5 L6 L7 L8 L9 L10 L11 L12 hn10
      have O2 : Own wx (w2.heap.size) w2 [(X, 0, .int .i64 (lo k)), (X, 1, .int .i64 (hi k)), (nb, 0, .int .i64 (rl k)), (nb, 1, .int .i64 (rh k))] := ⟨hB2, Nat.le_refl _, (by (repeat' (first | (with_reducible assumption) | (with_reducible exact Below.refl _ _) | (with_reducible exact Cels.nil _) | (with_reducible refine Cels.cons ?_ ?_) | (with_reducible refine Own.mk ?_ ?_ ?_ ?_) | ((with_reducible refine Cel.new ?_ rfl); first | (with_reducible rfl) | omega | (simp; done) | (simp; omega)) | (with_reducible refine Cel.alloc ?_ _) | (with_reducible refine Cel.drew ?_) | (with_reducible refine Cel.setS ?_ _) | (with_reducible refine Has.set ?_ _ _) | (with_reducible exact Has.of (by assumption)) | (with_reducible refine Cel.setO ?_ ?_ _) | (with_reducible refine Cel.keep (by assumption) ?_) | (with_reducible refine Below.alloc ?_ ?_ _) | (with_reducible refine Below.drew ?_) | (with_reducible refine Below.setCell ?_ ?_ _) | (with_reducible refine below_keep ?_ ?_ (by assumption)) | omega | (simp; done) | (simp; omega)))), hB2.size⟩
      clear OO
      have hrow2 := row_below' hrow1 hB2
      have hBw2 : Below w.heap.size w w2 := hBw1.trans (hB2.mono (by have := hBw1.size; omega))
      have hsz2 := hBw2.size
      by_cases hre : re k = 0
      · go_wp2_with (at_builtin; refine wpList_append_own _ rfl _ _ 22 rfl (w.heap.size) 30 i0 (.agg #[.int .i64 0, .int .i64 0]) 2 16 Try.underlying22 ii0 iz0 iz1 iz2 rfl (by decide) _ _ _ rfl (hrow2.alloc _) ⟨w2.heap.size, 0, none⟩ 1 1 [.int .i64 (rl k), .int .i64 (rh k)] rfl rfl (cells_two _ _ _ _) (by simp [Value.oneCell']) (by (unfold maxLen; omega)) (by omega) (by (simp; omega)) ?_; intro v' w9 hown' hgrow _)
        go_roundw
        case rel =>
          refine ⟨k + 1, by omega, by go_num, fun j hj => ?_, by simpa [rowf] using hown', ?_⟩
          · rcases Nat.lt_or_ge j k with q | q
            · exact hall j q
            · obtain rfl : j = k := by omega
              exact hre
          · exact hBw2.trans (((Below.refl _ w2).alloc hsz2 _).trans (grown_below (hrow2.alloc _) hgrow (by simp; omega)))
        case measure => simp [intOf]; omega
      · go_wp2
        go_ret2
        exact ⟨Or.inr ⟨⟨k, hlt, hre⟩, re k, hre, rfl⟩, hBw2⟩
    · obtain rfl : k = n := by omega
      obtain ⟨p2, c2, rfl, hl⟩ := lie_of_rowf hrow
      go_wp2_with fail
      go_ret2
      exact ⟨Or.inl ⟨hall, p2, c2, rfl, hl⟩, hBw⟩

set_option maxHeartbeats 8000000 in
theorem each34 (p p' : Option Addr) (n c c' : Nat) (lo hi lo' hi' rl rh re : Nat → Int) (w : World) (hL : Lie w p n lo hi) (hL' : Lie w p' n lo' hi') (hn : n ≤ 200)
    (hcall : ∀ i (W : World), i < n → Calls Try.prog 34 #[sp (lo i) (hi i), sp (lo' i) (hi' i)] W fun e W' => e = .returned (se (rl i) (rh i) (re i)) ∧ Below W.heap.size W W') :
    Calls Try.prog 56 #[.slice p n c, .slice p' n c', .func (.func 34) #[] #[]] w fun e w' => (((∀ i, i < n → re i = 0) ∧ ∃ p2 c2, e = .returned (.tuple #[.slice p2 n c2, .int .i64 0]) ∧ Lie w' p2 n rl rh ∧ ∀ a, p2 = some a → w.heap.size ≤ a.block) ∨ ((∃ i, i < n ∧ ¬ re i = 0) ∧ ∃ E, ¬ E = 0 ∧ e = .returned (.tuple #[.slice none 0 0, .int .i64 E]))) ∧ Below w.heap.size w w' := by
  obtain ⟨i0, ii0, iz0, iz1, iz2⟩ := info_parts info30
  go_enter Try.func56, Try.ntmps56
  go_wp2
  go_loopw [8, 15] (fun v i wr => ∃ k : Nat, k ≤ n ∧ i = .int .i64 k ∧ (∀ j, j < k → re j = 0) ∧ wr.ownsRow w.heap.size 30 2 v k (rowf rl rh k) ∧ Below w.heap.size w wr) (fun _ i _ => n - (intOf i).toNat)
  case atStart => exact ⟨0, Nat.zero_le _, rfl, fun j hj => absurd hj (Nat.not_lt_zero _), World.ownsRow_nil _ _ _ _, Below.refl _ _⟩
  case round =>
    obtain ⟨k, hk, rfl, hall, hrow, hBw⟩ := hrel
    rcases Nat.lt_or_ge k n with hlt | hge
    · obtain hn0 | ⟨b, off, rfl, hc⟩ := hL.keep hBw
      · omega
      obtain hn0 | ⟨b', off', rfl, hc'⟩ := hL'.keep hBw
      · omega
      have c0 := (hc k hlt).1
      have c1 := (hc k hlt).2
      have c2 := (hc' k hlt).1
      have c3 := (hc' k hlt).2
      have hbb : b' < wr.heap.size := World.block_lt_of_cell? wr _ c2
      have hsz := hBw.size
      clear hc hc' hL hL'
      go_wp2_with fail
      have bx0 := below_new wr (.cells #[.int .i64 (lo k), .int .i64 (hi k)] 30)
      have hsx : (wr.alloc (.cells #[.int .i64 (lo k), .int .i64 (hi k)] 30)).heap.size = wr.heap.size + 1 := by simp
      have e3 : Cel (wr.alloc (.cells #[.int .i64 (lo k), .int .i64 (hi k)] 30)) wr.heap.size 0 (.int .i64 (lo k)) := Cel.new rfl rfl
      have e4 : Cel (wr.alloc (.cells #[.int .i64 (lo k), .int .i64 (hi k)] 30)) wr.heap.size 1 (.int .i64 (hi k)) := Cel.new rfl rfl
      have d2 := (bx0.cell (p := ⟨b', off' + k * 2, none⟩) hbb).trans c2
      have d3 := (bx0.cell (p := ⟨b', off' + k * 2 + 1, none⟩) hbb).trans c3
      have hrow1 := row_below' hrow bx0
      have hBw1 := hBw.trans (bx0.mono hsz)
      obtain ⟨X, hX⟩ : ∃ X, X = wr.heap.size := ⟨_, rfl⟩
      rw [← hX] at e3 e4 hsx
      simp only [← hX]
      generalize wr.alloc (.cells #[.int .i64 (lo k), .int .i64 (hi k)] 30) = wx at *
      have hbx : b' < wx.heap.size := by omega
      clear c0 c1 c2 c3 hrow
      have HX := Lib.hid hX
      clear hX
      refine wp_region_by (fun a0 L a' w' => ∃ nb : Nat, a' = pcs a0 [(21, L 0, .func (.func 34) #[] #[]), (22, L 1, sp (lo k) (hi k)), (23, L 2, .slice (some ⟨b', off', none⟩) n c'), (24, L 3, .int .i64 ((k : Int))), (25, L 4, .pointer (some ⟨b', off' + k * 2, none⟩)), (26, L 5, sp (lo' k) (hi' k)), (27, L 6, se (rl k) (rh k) (re k)), (20, L 7, se (rl k) (rh k) (re k)), (28, L 8, sp (rl k) (rh k)), (29, L 9, .int .i64 (re k)), (11, L 10, .pointer (some ⟨nb, 0, none⟩)), (12, L 12, .int .i64 (re k))] ∧ Own wx (wx.heap.size) w' [(X, 0, .int .i64 (lo k)), (X, 1, .int .i64 (hi k))] ∧ (L 10 = true → (wx.heap.size) ≤ nb ∧ Cels w' [(nb, 0, .int .i64 (bif L 11 then rl k else 0)), (nb, 1, .int .i64 (bif L 11 then rh k else 0))])) (by kernel_rfl) (by kernel_rfl) ?_ ?_ ?_
      · exact ⟨0, (pcs_start _ _ (by simp)).symm, by (repeat' (first | (with_reducible assumption) | (with_reducible exact Below.refl _ _) | (with_reducible exact Cels.nil _) | (with_reducible refine Cels.cons ?_ ?_) | (with_reducible refine Own.mk ?_ ?_ ?_ ?_) | ((with_reducible refine Cel.new ?_ rfl); first | (with_reducible rfl) | omega | (simp; done) | (simp; omega)) | (with_reducible refine Cel.alloc ?_ _) | (with_reducible refine Cel.drew ?_) | (with_reducible refine Cel.setS ?_ _) | (with_reducible refine Has.set ?_ _ _) | (with_reducible exact Has.of (by assumption)) | (with_reducible refine Cel.setO ?_ ?_ _) | (with_reducible refine Cel.keep (by assumption) ?_) | (with_reducible refine Below.alloc ?_ ?_ _) | (with_reducible refine Below.drew ?_) | (with_reducible refine Below.setCell ?_ ?_ _) | (with_reducible refine below_keep ?_ ?_ (by assumption)) | omega | (simp; done) | (simp; omega))), fun hff => (by cases hff)⟩
      · refine ⟨?_, ?_, ?_, ?_, ?_, ?_, ?_, ?_, ?_, ?_, ?_, ?_, ?_, trivial⟩
        · rintro L a' v ⟨nb, rfl, O, hn10⟩ hL hd hcl K hK
          have HK := Lib.hid hK
          clear hK
          have hB := O.below; have hz := O.size; have S0 : Cel v (X) 0 (.int .i64 (lo k)) := O.cels.1; have S1 : Cel v (X) 1 (.int .i64 (hi k)) := O.cels.2.1; have T0 := (hB.cell (p := ⟨b', off' + k * 2, none⟩) hbx).trans d2; have T1 := (hB.cell (p := ⟨b', off' + k * 2 + 1, none⟩) hbx).trans d3
          simp [Region.binds] at hd
          simp only [pcs, List.foldl_cons, List.foldl_nil, Act.put]
          go_simp
          exact HK.out _ _ ⟨nb, by simp [pcs, Act.put, upd, gomax, gomin, *] <;> omega, O, by simpa [upd] using hn10⟩
        · rintro L a' v ⟨nb, rfl, O, hn10⟩ hL hd hcl K hK
          have HK := Lib.hid hK
          clear hK
          have hB := O.below; have hz := O.size; have S0 : Cel v (X) 0 (.int .i64 (lo k)) := O.cels.1; have S1 : Cel v (X) 1 (.int .i64 (hi k)) := O.cels.2.1; have T0 := (hB.cell (p := ⟨b', off' + k * 2, none⟩) hbx).trans d2; have T1 := (hB.cell (p := ⟨b', off' + k * 2 + 1, none⟩) hbx).trans d3
          simp [Region.binds] at hd
          simp only [pcs, List.foldl_cons, List.foldl_nil, Act.put]
          go_simp
          exact HK.out _ _ ⟨nb, by simp [pcs, Act.put, upd, gomax, gomin, *] <;> omega, O, by simpa [upd] using hn10⟩
        · rintro L a' v ⟨nb, rfl, O, hn10⟩ hL hd hcl K hK
          have HK := Lib.hid hK
          clear hK
          have hB := O.below; have hz := O.size; have S0 : Cel v (X) 0 (.int .i64 (lo k)) := O.cels.1; have S1 : Cel v (X) 1 (.int .i64 (hi k)) := O.cels.2.1; have T0 := (hB.cell (p := ⟨b', off' + k * 2, none⟩) hbx).trans d2; have T1 := (hB.cell (p := ⟨b', off' + k * 2 + 1, none⟩) hbx).trans d3
          simp [Region.binds] at hd
          simp only [pcs, List.foldl_cons, List.foldl_nil, Act.put]
          go_simp
          exact HK.out _ _ ⟨nb, by simp [pcs, Act.put, upd, gomax, gomin, *] <;> omega, O, by simpa [upd] using hn10⟩
        · rintro L a' v ⟨nb, rfl, O, hn10⟩ hL hd hcl K hK
          have HK := Lib.hid hK
          clear hK
          have hB := O.below; have hz := O.size; have S0 : Cel v (X) 0 (.int .i64 (lo k)) := O.cels.1; have S1 : Cel v (X) 1 (.int .i64 (hi k)) := O.cels.2.1; have T0 := (hB.cell (p := ⟨b', off' + k * 2, none⟩) hbx).trans d2; have T1 := (hB.cell (p := ⟨b', off' + k * 2 + 1, none⟩) hbx).trans d3
          simp [Region.binds] at hd
          simp only [pcs, List.foldl_cons, List.foldl_nil, Act.put]
          go_simp
          exact HK.out _ _ ⟨nb, by simp [pcs, Act.put, upd, gomax, gomin, *] <;> omega, O, by simpa [upd] using hn10⟩
        · rintro L a' v ⟨nb, rfl, O, hn10⟩ hL hd hcl K hK
          have HK := Lib.hid hK
          clear hK
          have hB := O.below; have hz := O.size; have S0 : Cel v (X) 0 (.int .i64 (lo k)) := O.cels.1; have S1 : Cel v (X) 1 (.int .i64 (hi k)) := O.cels.2.1; have T0 := (hB.cell (p := ⟨b', off' + k * 2, none⟩) hbx).trans d2; have T1 := (hB.cell (p := ⟨b', off' + k * 2 + 1, none⟩) hbx).trans d3
          simp [Region.binds] at hd
          simp only [pcs, List.foldl_cons, List.foldl_nil, Act.put]
          go_simp
          exact HK.out _ _ ⟨nb, by simp [pcs, Act.put, upd, gomax, gomin, *] <;> omega, O, by simpa [upd] using hn10⟩
        · rintro L a' v ⟨nb, rfl, O, hn10⟩ hL hd hcl K hK
          have HK := Lib.hid hK
          clear hK
          have hB := O.below; have hz := O.size; have S0 : Cel v (X) 0 (.int .i64 (lo k)) := O.cels.1; have S1 : Cel v (X) 1 (.int .i64 (hi k)) := O.cels.2.1; have T0 := (hB.cell (p := ⟨b', off' + k * 2, none⟩) hbx).trans d2; have T1 := (hB.cell (p := ⟨b', off' + k * 2 + 1, none⟩) hbx).trans d3
          simp [Region.binds] at hd
          simp only [pcs, List.foldl_cons, List.foldl_nil, Act.put]
          go_simp
          exact HK.out _ _ ⟨nb, by simp [pcs, Act.put, upd, gomax, gomin, *] <;> omega, O, by simpa [upd] using hn10⟩
        · rintro L a' v ⟨nb, rfl, O, hn10⟩ hL hd hcl K hK
          have HK := Lib.hid hK
          clear hK
          have hB := O.below; have hz := O.size; have S0 : Cel v (X) 0 (.int .i64 (lo k)) := O.cels.1; have S1 : Cel v (X) 1 (.int .i64 (hi k)) := O.cels.2.1; have T0 := (hB.cell (p := ⟨b', off' + k * 2, none⟩) hbx).trans d2; have T1 := (hB.cell (p := ⟨b', off' + k * 2 + 1, none⟩) hbx).trans d3
          simp [Region.binds] at hd
          simp only [pcs, List.foldl_cons, List.foldl_nil, Act.put]
          go_simp
          refine (hcall k _ hlt).mono ?_
          rintro e v' ⟨rfl, hb⟩
          go_simp
          exact HK.out _ _ ⟨nb, by simp [pcs, Act.put, upd, gomax, gomin, *] <;> omega, O.keep hb, fun hx => ⟨(hn10 (by simpa [upd] using hx)).1, (hn10 (by simpa [upd] using hx)).2.keep hb⟩⟩
        · rintro L a' v ⟨nb, rfl, O, hn10⟩ hL hd hcl K hK
          have HK := Lib.hid hK
          clear hK
          have hB := O.below; have hz := O.size; have S0 : Cel v (X) 0 (.int .i64 (lo k)) := O.cels.1; have S1 : Cel v (X) 1 (.int .i64 (hi k)) := O.cels.2.1; have T0 := (hB.cell (p := ⟨b', off' + k * 2, none⟩) hbx).trans d2; have T1 := (hB.cell (p := ⟨b', off' + k * 2 + 1, none⟩) hbx).trans d3
          simp [Region.binds] at hd
          simp only [pcs, List.foldl_cons, List.foldl_nil, Act.put]
          go_simp
          exact HK.out _ _ ⟨nb, by simp [pcs, Act.put, upd, gomax, gomin, *] <;> omega, O, by simpa [upd] using hn10⟩
        · rintro L a' v ⟨nb, rfl, O, hn10⟩ hL hd hcl K hK
          have HK := Lib.hid hK
          clear hK
          have hB := O.below; have hz := O.size; have S0 : Cel v (X) 0 (.int .i64 (lo k)) := O.cels.1; have S1 : Cel v (X) 1 (.int .i64 (hi k)) := O.cels.2.1; have T0 := (hB.cell (p := ⟨b', off' + k * 2, none⟩) hbx).trans d2; have T1 := (hB.cell (p := ⟨b', off' + k * 2 + 1, none⟩) hbx).trans d3
          simp [Region.binds] at hd
          simp only [pcs, List.foldl_cons, List.foldl_nil, Act.put]
          go_simp
          exact HK.out _ _ ⟨nb, by simp [pcs, Act.put, upd, gomax, gomin, *] <;> omega, O, by simpa [upd] using hn10⟩
        · rintro L a' v ⟨nb, rfl, O, hn10⟩ hL hd hcl K hK
          have HK := Lib.hid hK
          clear hK
          have hB := O.below; have hz := O.size; have S0 : Cel v (X) 0 (.int .i64 (lo k)) := O.cels.1; have S1 : Cel v (X) 1 (.int .i64 (hi k)) := O.cels.2.1; have T0 := (hB.cell (p := ⟨b', off' + k * 2, none⟩) hbx).trans d2; have T1 := (hB.cell (p := ⟨b', off' + k * 2 + 1, none⟩) hbx).trans d3
          simp [Region.binds] at hd
          simp only [pcs, List.foldl_cons, List.foldl_nil, Act.put]
          go_simp
          exact HK.out _ _ ⟨nb, by simp [pcs, Act.put, upd, gomax, gomin, *] <;> omega, O, by simpa [upd] using hn10⟩
        · rintro L a' v ⟨nb, rfl, O, hn10⟩ hL hd hcl K hK
          have HK := Lib.hid hK
          clear hK
          have hB := O.below; have hz := O.size; have S0 : Cel v (X) 0 (.int .i64 (lo k)) := O.cels.1; have S1 : Cel v (X) 1 (.int .i64 (hi k)) := O.cels.2.1; have T0 := (hB.cell (p := ⟨b', off' + k * 2, none⟩) hbx).trans d2; have T1 := (hB.cell (p := ⟨b', off' + k * 2 + 1, none⟩) hbx).trans d3
          simp [Region.binds] at hd
          have N11 : L 11 = false := (by cases hq : L 11 with | false => rfl | true => (have hc := hcl 11 _ rfl hq; simp [Region.binds, hL] at hc))
          simp only [pcs, List.foldl_cons, List.foldl_nil, Act.put]
          go_simp
          exact HK.out _ _ ⟨v.heap.size, by simp [pcs, Act.put, upd, gomax, gomin, *] <;> omega, O.alloc _, fun _ => ⟨O.size, by ((try simp only [upd]); (try simp only [N11, cond_false, Nat.reduceEqDiff, if_false, if_true, reduceIte]); (repeat' (first | (with_reducible assumption) | (with_reducible exact Below.refl _ _) | (with_reducible exact Cels.nil _) | (with_reducible refine Cels.cons ?_ ?_) | (with_reducible refine Own.mk ?_ ?_ ?_ ?_) | ((with_reducible refine Cel.new ?_ rfl); first | (with_reducible rfl) | omega | (simp; done) | (simp; omega)) | (with_reducible refine Cel.alloc ?_ _) | (with_reducible refine Cel.drew ?_) | (with_reducible refine Cel.setS ?_ _) | (with_reducible refine Has.set ?_ _ _) | (with_reducible exact Has.of (by assumption)) | (with_reducible refine Cel.setO ?_ ?_ _) | (with_reducible refine Cel.keep (by assumption) ?_) | (with_reducible refine Below.alloc ?_ ?_ _) | (with_reducible refine Below.drew ?_) | (with_reducible refine Below.setCell ?_ ?_ _) | (with_reducible refine below_keep ?_ ?_ (by assumption)) | omega | (simp; done) | (simp; omega))))⟩⟩
        · rintro L a' v ⟨nb, rfl, O, hn10⟩ hL hd hcl K hK
          have HK := Lib.hid hK
          clear hK
          have hB := O.below; have hz := O.size; have S0 : Cel v (X) 0 (.int .i64 (lo k)) := O.cels.1; have S1 : Cel v (X) 1 (.int .i64 (hi k)) := O.cels.2.1; have T0 := (hB.cell (p := ⟨b', off' + k * 2, none⟩) hbx).trans d2; have T1 := (hB.cell (p := ⟨b', off' + k * 2 + 1, none⟩) hbx).trans d3
          simp [Region.binds] at hd
          have yy := hn10 (by simp [*])
          have yn := yy.1; have y0 : Cel v (nb) 0 (.int .i64 (bif L 11 then rl k else 0)) := yy.2.1; have y1 : Cel v (nb) 1 (.int .i64 (bif L 11 then rh k else 0)) := yy.2.2.1
          simp only [pcs, List.foldl_cons, List.foldl_nil, Act.put]
          go_simp
          exact HK.out _ _ ⟨nb, by simp [pcs, Act.put, upd, gomax, gomin, *] <;> omega, ((O.setO _ yn (by simp <;> omega)).setO _ yn (by simp <;> omega)), fun _ => ⟨yn, by ((try simp only [upd]); (try simp only [cond_true, if_true, reduceIte]); (repeat' (first | (with_reducible assumption) | (with_reducible exact Below.refl _ _) | (with_reducible exact Cels.nil _) | (with_reducible refine Cels.cons ?_ ?_) | (with_reducible refine Own.mk ?_ ?_ ?_ ?_) | ((with_reducible refine Cel.new ?_ rfl); first | (with_reducible rfl) | omega | (simp; done) | (simp; omega)) | (with_reducible refine Cel.alloc ?_ _) | (with_reducible refine Cel.drew ?_) | (with_reducible refine Cel.setS ?_ _) | (with_reducible refine Has.set ?_ _ _) | (with_reducible exact Has.of (by assumption)) | (with_reducible refine Cel.setO ?_ ?_ _) | (with_reducible refine Cel.keep (by assumption) ?_) | (with_reducible refine Below.alloc ?_ ?_ _) | (with_reducible refine Below.drew ?_) | (with_reducible refine Below.setCell ?_ ?_ _) | (with_reducible refine below_keep ?_ ?_ (by assumption)) | omega | (simp; done) | (simp; omega))))⟩⟩
        · rintro L a' v ⟨nb, rfl, O, hn10⟩ hL hd hcl K hK
          have HK := Lib.hid hK
          clear hK
          have hB := O.below; have hz := O.size; have S0 : Cel v (X) 0 (.int .i64 (lo k)) := O.cels.1; have S1 : Cel v (X) 1 (.int .i64 (hi k)) := O.cels.2.1; have T0 := (hB.cell (p := ⟨b', off' + k * 2, none⟩) hbx).trans d2; have T1 := (hB.cell (p := ⟨b', off' + k * 2 + 1, none⟩) hbx).trans d3
          simp [Region.binds] at hd
          simp only [pcs, List.foldl_cons, List.foldl_nil, Act.put]
          go_simp
          exact HK.out _ _ ⟨nb, by simp [pcs, Act.put, upd, gomax, gomin, *] <;> omega, O, by simpa [upd] using hn10⟩
      rintro L a' w2 hL ⟨nb, ea, OO, hn10⟩
      have L0 := hL 0 (by decide); have L1 := hL 1 (by decide); have L2 := hL 2 (by decide); have L3 := hL 3 (by decide); have L4 := hL 4 (by decide); have L5 := hL 5 (by decide); have L6 := hL 6 (by decide); have L7 := hL 7 (by decide); have L8 := hL 8 (by decide); have L9 := hL 9 (by decide); have L10 := hL 10 (by decide); have L11 := hL 11 (by decide); have L12 := hL 12 (by decide)
      have hB2 := OO.below; have hz2 := OO.size; have hl2 := OO.le; have S2_0 : Cel w2 (X) 0 (.int .i64 (lo k)) := OO.cels.1; have S2_1 : Cel w2 (X) 1 (.int .i64 (hi k)) := OO.cels.2.1
      have yy := hn10 L10
      simp only [L0, L1, L2, L3, L4, L5, L6, L7, L8, L9, L10, L11, L12, cond_true] at yy
      have yn10 := yy.1; have S2_2 : Cel w2 (nb) 0 (.int .i64 (rl k)) := yy.2.1; have S2_3 : Cel w2 (nb) 1 (.int .i64 (rh k)) := yy.2.2.1; have yl10 := S2_2.lt
      clear yy
      simp [pcs, Act.put, L0, L1, L2, L3, L4, L5, L6, L7, L8, L9, L10, L11, L12] at ea
      subst ea
      clear hL L0 L1 L2 L3 L4 L5 L6 L7 L8 L9 L10 L11 L12 hn10
      have O2 : Own wx (w2.heap.size) w2 [(X, 0, .int .i64 (lo k)), (X, 1, .int .i64 (hi k)), (nb, 0, .int .i64 (rl k)), (nb, 1, .int .i64 (rh k))] := ⟨hB2, Nat.le_refl _, (by (repeat' (first | (with_reducible assumption) | (with_reducible exact Below.refl _ _) | (with_reducible exact Cels.nil _) | (with_reducible refine Cels.cons ?_ ?_) | (with_reducible refine Own.mk ?_ ?_ ?_ ?_) | ((with_reducible refine Cel.new ?_ rfl); first | (with_reducible rfl) | omega | (simp; done) | (simp; omega)) | (with_reducible refine Cel.alloc ?_ _) | (with_reducible refine Cel.drew ?_) | (with_reducible refine Cel.setS ?_ _) | (with_reducible refine Has.set ?_ _ _) | (with_reducible exact Has.of (by assumption)) | (with_reducible refine Cel.setO ?_ ?_ _) | (with_reducible refine Cel.keep (by assumption) ?_) | (with_reducible refine Below.alloc ?_ ?_ _) | (with_reducible refine Below.drew ?_) | (with_reducible refine Below.setCell ?_ ?_ _) | (with_reducible refine below_keep ?_ ?_ (by assumption)) | omega | (simp; done) | (simp; omega)))), hB2.size⟩
      clear OO
      have hrow2 := row_below' hrow1 hB2
      have hBw2 : Below w.heap.size w w2 := hBw1.trans (hB2.mono (by have := hBw1.size; omega))
      have hsz2 := hBw2.size
      by_cases hre : re k = 0
      · go_wp2_with (at_builtin; refine wpList_append_own _ rfl _ _ 22 rfl (w.heap.size) 30 i0 (.agg #[.int .i64 0, .int .i64 0]) 2 16 Try.underlying22 ii0 iz0 iz1 iz2 rfl (by decide) _ _ _ rfl (hrow2.alloc _) ⟨w2.heap.size, 0, none⟩ 1 1 [.int .i64 (rl k), .int .i64 (rh k)] rfl rfl (cells_two _ _ _ _) (by simp [Value.oneCell']) (by (unfold maxLen; omega)) (by omega) (by (simp; omega)) ?_; intro v' w9 hown' hgrow _)
        go_roundw
        case rel =>
          refine ⟨k + 1, by omega, by go_num, fun j hj => ?_, by simpa [rowf] using hown', ?_⟩
          · rcases Nat.lt_or_ge j k with q | q
            · exact hall j q
            · obtain rfl : j = k := by omega
              exact hre
          · exact hBw2.trans (((Below.refl _ w2).alloc hsz2 _).trans (grown_below (hrow2.alloc _) hgrow (by simp; omega)))
        case measure => simp [intOf]; omega
      · go_wp2
        go_ret2
        exact ⟨Or.inr ⟨⟨k, hlt, hre⟩, re k, hre, rfl⟩, hBw2⟩
    · obtain rfl : k = n := by omega
      obtain ⟨p2, c2, rfl, hl⟩ := lie_of_rowf hrow
      go_wp2_with fail
      go_ret2
      exact ⟨Or.inl ⟨hall, p2, c2, rfl, hl⟩, hBw⟩

end Go.Proofs.Ytmljnelmnagfoaa
