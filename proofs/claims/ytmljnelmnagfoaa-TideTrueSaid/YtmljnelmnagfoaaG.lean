/- Tide: the iterator of the stretches. -/
import Derived.Test.YtmljnelmnagfoaaF
import Derived.RangeFuncBound
import Derived.RangeFuncCalls
import Derived.RangeFuncLeaves
import Derived.Shelf.Abstract
import Derived.Shelf.RegionOpen
import Derived.TacticsInMore
import Derived.LoopNIn
import Derived.LoopIn
set_option linter.unusedVariables false
set_option linter.unusedSimpArgs false
namespace Go.Proofs.Ytmljnelmnagfoaa
open Go.RowKit Go.Shelf
attribute [local go_sem] Oper.semAt_some World.cell?_alloc_some frozen_alloc_some isSome_alloc isSome_setCell

/-- What the program does for one more row, told at the loop's head. -/
def Hd (n₀ bO Bn : Nat) (s st : Int) (p : Option Addr) (n c : Nat) (lo hi : Nat → Int) (J : List St → World → Prop) (k : Nat) (wr : World) : Prop := ∃ pre : List St, pre.map (·.1) = strs s st lo hi k ∧ J pre wr ∧ Itv n₀ bO Bn s st p n c lo hi wr
set_option maxRecDepth 100000 in
set_option maxHeartbeats 8000000 in
theorem str1_in (s st : Int) (p : Option Addr) (n c : Nat) (lo hi : Nat → Int) (hv : Tv s st n lo hi) (l n₀ bO B Bn : Nat) (hB : B ≤ Bn) (J Jx : List St → World → Prop) (B0 : Nat) (hJ : AbidesFrom B0 J)
    (hY : ∀ pre x W, J pre W → pre.length < 2 * n → YieldAt Fence.wide 0 Try.prog l #[enc x] W fun e W' => (e = .returned (.bool true) ∧ J (pre ++ [x]) W' ∧ Kp n₀ bO B W W') ∨ (e = .returned (.bool false) ∧ Jx (pre ++ [x]) W'))
    (W : World) (hI : Itv n₀ bO Bn s st p n c lo hi W) (h0 : J [] W) :
    CallsIn Fence.wide 1 Try.prog 54 #[.func (.yield l) #[] #[], .pointer (some ⟨Bn, 0, none⟩)] W fun e W' => (∃ v, e = .returned v) ∧ ((∃ xs : List St, xs.map (·.1) = strs s st lo hi n ∧ J xs W') ∨ (∃ pre : List St, True ∧ Jx pre W')) := by
  refine callsIn_of_wp Try.func54 rfl trivial ?_ rfl
  simp only [Try.ntmps54, List.size_toArray, List.length_cons, List.length_nil, Nat.reduceAdd, Nat.reduceSub, Array.replicate_succ, Array.replicate_zero, List.push_toArray, List.append_toArray, List.nil_append, List.cons_append]
  obtain ⟨c0, c1, c2⟩ := hI.cells
  have hn1 := hv.n1
  gi_wp2
  clear c0 c1 c2
  gi_loopw [11] (fun i wr => ∃ k : Nat, k ≤ n ∧ i = .int .i64 k ∧ Hd n₀ bO Bn s st p n c lo hi J k wr) (fun i _ => n - (intOf i).toNat)
  case atStart => exact ⟨0, Nat.zero_le _, rfl, [], rfl, h0, hI⟩
  case round =>
    obtain ⟨k, hk, rfl, pre, hpre, hj, hT⟩ := hrel
    rcases Nat.lt_or_ge k n with hlt | hge
    · skip
      have hn0 : ¬ n = 0 := by omega
      obtain hx | ⟨b, off, rfl, hc⟩ := hT.lie
      · exact absurd hx hn0
      have hbn := hT.own _ rfl
      have hbb : b < wr.heap.size := Nat.lt_of_lt_of_le hbn hT.le
      have hBl : Bn < wr.heap.size := (Array.getElem?_eq_some_iff.1 hT.blk).1
      obtain ⟨ci0, ci1, ci2⟩ := hT.cells
      obtain ⟨a1, a2, a3⟩ := hv.at hlt
      have s0 := hv.s0
      have st1 := hv.st1
      have st0 := hv.st0
      have hlen : pre.length ≤ 2 * k := by have := congrArg List.length hpre; rw [List.length_map] at this; rw [this]; exact strs_len _ _ _ _ _
      have c0 := (hc k hlt).1
      have c1 := (hc k hlt).2
      have onerow : ∀ (w2 w3 : World), True := fun _ _ => trivial
      cases k with
      | zero =>
        have hjx := abides_below hJ hj (below_new wr (.cells #[.int .i64 (lo 0), .int .i64 (hi 0)] 30))
        obtain ⟨fn, tmps, assign, body, hy, hR⟩ := hY pre ⟨rowS s st lo hi 0, row_ok hv hlt⟩ _ hjx (by omega)
        simp [rowS] at hy
        simp at c0 c1
        clear hc
        gi_wp2
        refine hR.mono ?_
        rintro e W3 (⟨rfl, hJ3, hk3⟩ | ⟨rfl, hJx3⟩)
        · gi_wp2
          go_roundw
          case rel => exact ⟨1, by omega, by go_num, pre ++ [⟨rowS s st lo hi 0, row_ok hv hlt⟩], by rw [List.map_append, hpre]; rfl, hJ3, (hT.keep (below_new _ _)).kp hB hk3⟩
          case measure => simp [intOf]; omega
        · gi_wp2
          refine bodyPost_ret (results_none rfl _ _ _) rfl ?_
          exact ⟨⟨_, rfl⟩, .inr ⟨_, trivial, hJx3⟩⟩
      | succ j =>
        by_cases h1 : 1 < st
        · have c2 := (hc j (by omega)).1
          have c3 := (hc j (by omega)).2
          have q1 := hv.hs j (by omega)
          have q2 := hv.hs (j + 1) hlt
          clear hc
          simp at a1 a2 a3
          have hjn : j < n := by omega
          have hw0 : IntKind.i64.wrap (j : Int) = j := IntWalk.i64_in _ (by omega)
          have hw1 : IntKind.i64.wrap ((j : Int) + 1) = j + 1 := IntWalk.i64_in _ (by omega)
          gi_wp2
          have bx0 := below_new wr (.cells #[.int .i64 (lo (j + 1)), .int .i64 (hi (j + 1))] 30)
          have xb : (wr.alloc (.cells #[.int .i64 (lo (j + 1)), .int .i64 (hi (j + 1))] 30)).heap[wr.heap.size]? = some (.cells #[.int .i64 (lo (j + 1)), .int .i64 (hi (j + 1))] 30 (0, 0)) := World.alloc_heap_new _ _
          have hsx : (wr.alloc (.cells #[.int .i64 (lo (j + 1)), .int .i64 (hi (j + 1))] 30)).heap.size = wr.heap.size + 1 := by simp
          have e0 := ci0.keep bx0
          have e1 := ci1.keep bx0
          have e2 := ci2.keep bx0
          have e3 : Cel (wr.alloc (.cells #[.int .i64 (lo (j + 1)), .int .i64 (hi (j + 1))] 30)) wr.heap.size 0 (.int .i64 (lo (j + 1))) := Cel.new rfl rfl
          have e4 : Cel (wr.alloc (.cells #[.int .i64 (lo (j + 1)), .int .i64 (hi (j + 1))] 30)) wr.heap.size 1 (.int .i64 (hi (j + 1))) := Cel.new rfl rfl
          have d2 := (bx0.cell (p := ⟨b, off + j * 2, none⟩) hbb).trans c2
          have d3 := (bx0.cell (p := ⟨b, off + j * 2 + 1, none⟩) hbb).trans c3
          generalize wr.alloc (.cells #[.int .i64 (lo (j + 1)), .int .i64 (hi (j + 1))] 30) = wx at *
          have hbx : b < wx.heap.size := by omega
          have hXx : wr.heap.size < wx.heap.size := by omega
          clear c0 c1 c2 c3 ci0 ci1 ci2
          refine regionIn_by Free.wide (fun a0 L a' w' => ∃ nb : Nat, a' = pcs a0 [(31, L 0, .pointer (some ⟨Bn, 2, none⟩)), (32, L 1, .slice (some ⟨b, off, none⟩) n c), (33, L 2, .int .i64 (((j : Int) + 1))), (34, L 3, .int .i64 ((j : Int))), (35, L 4, .pointer (some ⟨b, off + j * 2, none⟩)), (36, L 5, sp (lo j) (hi j)), (37, L 6, sp (lo (j + 1)) (hi (j + 1))), (38, L 7, se (min (lo j) (lo (j + 1))) (max (hi j) (hi (j + 1))) 0), (30, L 8, se (min (lo j) (lo (j + 1))) (max (hi j) (hi (j + 1))) 0), (39, L 9, sp (min (lo j) (lo (j + 1))) (max (hi j) (hi (j + 1)))), (40, L 10, .int .i64 0), (6, L 11, .pointer (some ⟨nb, 0, none⟩)), (7, L 13, .int .i64 0)] ∧ Own wx (wx.heap.size) w' [(Bn, 0, .int .i64 s), (Bn, 1, .int .i64 st), (Bn, 2, .slice (some ⟨b, off, none⟩) n c), (wr.heap.size, 0, .int .i64 (lo (j + 1))), (wr.heap.size, 1, .int .i64 (hi (j + 1)))] ∧ (L 11 = true → (wx.heap.size) ≤ nb ∧ Cels w' [(nb, 0, .int .i64 (bif L 12 then min (lo j) (lo (j + 1)) else 0)), (nb, 1, .int .i64 (bif L 12 then max (hi j) (hi (j + 1)) else 0))])) (by kernel_rfl) (by kernel_rfl) (by kernel_rfl) ?_ ?_ ?_
          · exact ⟨0, (pcs_start _ _ (by simp)).symm, by (repeat' (first | (with_reducible assumption) | (with_reducible exact Below.refl _ _) | (with_reducible exact Cels.nil _) | (with_reducible refine Cels.cons ?_ ?_) | (with_reducible refine Own.mk ?_ ?_ ?_ ?_) | ((with_reducible refine Cel.new ?_ rfl); first | (with_reducible rfl) | omega | (simp; done) | (simp; omega)) | (with_reducible refine Cel.alloc ?_ _) | (with_reducible refine Cel.drew ?_) | (with_reducible refine Cel.setS ?_ _) | (with_reducible refine Has.set ?_ _ _) | (with_reducible exact Has.of (by assumption)) | (with_reducible refine Cel.setO ?_ ?_ _) | (with_reducible refine Cel.keep (by assumption) ?_) | (with_reducible refine Below.alloc ?_ ?_ _) | (with_reducible refine Below.drew ?_) | (with_reducible refine Below.setCell ?_ ?_ _) | (with_reducible refine below_keep ?_ ?_ (by assumption)) | omega | (simp; done) | (simp; omega))), fun hff => (by cases hff)⟩
          · refine ⟨?_, ?_, ?_, ?_, ?_, ?_, ?_, ?_, ?_, ?_, ?_, ?_, ?_, ?_, trivial⟩
            · rintro L a' v ⟨nb, rfl, O, hn11⟩ hL hd hcl K hK
              have HK := Lib.hid hK
              clear hK
              have hB := O.below; have hz := O.size; have S0 : Cel v (Bn) 0 (.int .i64 s) := O.cels.1; have S1 : Cel v (Bn) 1 (.int .i64 st) := O.cels.2.1; have S2 : Cel v (Bn) 2 (.slice (some ⟨b, off, none⟩) n c) := O.cels.2.2.1; have S3 : Cel v (wr.heap.size) 0 (.int .i64 (lo (j + 1))) := O.cels.2.2.2.1; have S4 : Cel v (wr.heap.size) 1 (.int .i64 (hi (j + 1))) := O.cels.2.2.2.2.1; have T0 := (hB.cell (p := ⟨b, off + j * 2, none⟩) hbx).trans d2; have T1 := (hB.cell (p := ⟨b, off + j * 2 + 1, none⟩) hbx).trans d3
              simp [Region.binds] at hd
              simp only [pcs, List.foldl_cons, List.foldl_nil, Act.put]
              go_simp
              exact HK.out _ _ ⟨nb, by simp [pcs, Act.put, upd, gomax, gomin, *] <;> omega, O, by simpa [upd] using hn11⟩
            · rintro L a' v ⟨nb, rfl, O, hn11⟩ hL hd hcl K hK
              have HK := Lib.hid hK
              clear hK
              have hB := O.below; have hz := O.size; have S0 : Cel v (Bn) 0 (.int .i64 s) := O.cels.1; have S1 : Cel v (Bn) 1 (.int .i64 st) := O.cels.2.1; have S2 : Cel v (Bn) 2 (.slice (some ⟨b, off, none⟩) n c) := O.cels.2.2.1; have S3 : Cel v (wr.heap.size) 0 (.int .i64 (lo (j + 1))) := O.cels.2.2.2.1; have S4 : Cel v (wr.heap.size) 1 (.int .i64 (hi (j + 1))) := O.cels.2.2.2.2.1; have T0 := (hB.cell (p := ⟨b, off + j * 2, none⟩) hbx).trans d2; have T1 := (hB.cell (p := ⟨b, off + j * 2 + 1, none⟩) hbx).trans d3
              simp [Region.binds] at hd
              simp only [pcs, List.foldl_cons, List.foldl_nil, Act.put]
              go_simp
              exact HK.out _ _ ⟨nb, by simp [pcs, Act.put, upd, gomax, gomin, *] <;> omega, O, by simpa [upd] using hn11⟩
            · rintro L a' v ⟨nb, rfl, O, hn11⟩ hL hd hcl K hK
              have HK := Lib.hid hK
              clear hK
              have hB := O.below; have hz := O.size; have S0 : Cel v (Bn) 0 (.int .i64 s) := O.cels.1; have S1 : Cel v (Bn) 1 (.int .i64 st) := O.cels.2.1; have S2 : Cel v (Bn) 2 (.slice (some ⟨b, off, none⟩) n c) := O.cels.2.2.1; have S3 : Cel v (wr.heap.size) 0 (.int .i64 (lo (j + 1))) := O.cels.2.2.2.1; have S4 : Cel v (wr.heap.size) 1 (.int .i64 (hi (j + 1))) := O.cels.2.2.2.2.1; have T0 := (hB.cell (p := ⟨b, off + j * 2, none⟩) hbx).trans d2; have T1 := (hB.cell (p := ⟨b, off + j * 2 + 1, none⟩) hbx).trans d3
              simp [Region.binds] at hd
              simp only [pcs, List.foldl_cons, List.foldl_nil, Act.put]
              go_simp
              exact HK.out _ _ ⟨nb, by simp [pcs, Act.put, upd, gomax, gomin, *] <;> omega, O, by simpa [upd] using hn11⟩
            · rintro L a' v ⟨nb, rfl, O, hn11⟩ hL hd hcl K hK
              have HK := Lib.hid hK
              clear hK
              have hB := O.below; have hz := O.size; have S0 : Cel v (Bn) 0 (.int .i64 s) := O.cels.1; have S1 : Cel v (Bn) 1 (.int .i64 st) := O.cels.2.1; have S2 : Cel v (Bn) 2 (.slice (some ⟨b, off, none⟩) n c) := O.cels.2.2.1; have S3 : Cel v (wr.heap.size) 0 (.int .i64 (lo (j + 1))) := O.cels.2.2.2.1; have S4 : Cel v (wr.heap.size) 1 (.int .i64 (hi (j + 1))) := O.cels.2.2.2.2.1; have T0 := (hB.cell (p := ⟨b, off + j * 2, none⟩) hbx).trans d2; have T1 := (hB.cell (p := ⟨b, off + j * 2 + 1, none⟩) hbx).trans d3
              simp [Region.binds] at hd
              simp only [pcs, List.foldl_cons, List.foldl_nil, Act.put]
              go_simp
              exact HK.out _ _ ⟨nb, by simp [pcs, Act.put, upd, gomax, gomin, *] <;> omega, O, by simpa [upd] using hn11⟩
            · rintro L a' v ⟨nb, rfl, O, hn11⟩ hL hd hcl K hK
              have HK := Lib.hid hK
              clear hK
              have hB := O.below; have hz := O.size; have S0 : Cel v (Bn) 0 (.int .i64 s) := O.cels.1; have S1 : Cel v (Bn) 1 (.int .i64 st) := O.cels.2.1; have S2 : Cel v (Bn) 2 (.slice (some ⟨b, off, none⟩) n c) := O.cels.2.2.1; have S3 : Cel v (wr.heap.size) 0 (.int .i64 (lo (j + 1))) := O.cels.2.2.2.1; have S4 : Cel v (wr.heap.size) 1 (.int .i64 (hi (j + 1))) := O.cels.2.2.2.2.1; have T0 := (hB.cell (p := ⟨b, off + j * 2, none⟩) hbx).trans d2; have T1 := (hB.cell (p := ⟨b, off + j * 2 + 1, none⟩) hbx).trans d3
              simp [Region.binds] at hd
              simp only [pcs, List.foldl_cons, List.foldl_nil, Act.put]
              go_simp
              exact HK.out _ _ ⟨nb, by simp [pcs, Act.put, upd, gomax, gomin, *] <;> omega, O, by simpa [upd] using hn11⟩
            · rintro L a' v ⟨nb, rfl, O, hn11⟩ hL hd hcl K hK
              have HK := Lib.hid hK
              clear hK
              have hB := O.below; have hz := O.size; have S0 : Cel v (Bn) 0 (.int .i64 s) := O.cels.1; have S1 : Cel v (Bn) 1 (.int .i64 st) := O.cels.2.1; have S2 : Cel v (Bn) 2 (.slice (some ⟨b, off, none⟩) n c) := O.cels.2.2.1; have S3 : Cel v (wr.heap.size) 0 (.int .i64 (lo (j + 1))) := O.cels.2.2.2.1; have S4 : Cel v (wr.heap.size) 1 (.int .i64 (hi (j + 1))) := O.cels.2.2.2.2.1; have T0 := (hB.cell (p := ⟨b, off + j * 2, none⟩) hbx).trans d2; have T1 := (hB.cell (p := ⟨b, off + j * 2 + 1, none⟩) hbx).trans d3
              simp [Region.binds] at hd
              simp only [pcs, List.foldl_cons, List.foldl_nil, Act.put]
              go_simp
              exact HK.out _ _ ⟨nb, by simp [pcs, Act.put, upd, gomax, gomin, *] <;> omega, O, by simpa [upd] using hn11⟩
            · rintro L a' v ⟨nb, rfl, O, hn11⟩ hL hd hcl K hK
              have HK := Lib.hid hK
              clear hK
              have hB := O.below; have hz := O.size; have S0 : Cel v (Bn) 0 (.int .i64 s) := O.cels.1; have S1 : Cel v (Bn) 1 (.int .i64 st) := O.cels.2.1; have S2 : Cel v (Bn) 2 (.slice (some ⟨b, off, none⟩) n c) := O.cels.2.2.1; have S3 : Cel v (wr.heap.size) 0 (.int .i64 (lo (j + 1))) := O.cels.2.2.2.1; have S4 : Cel v (wr.heap.size) 1 (.int .i64 (hi (j + 1))) := O.cels.2.2.2.2.1; have T0 := (hB.cell (p := ⟨b, off + j * 2, none⟩) hbx).trans d2; have T1 := (hB.cell (p := ⟨b, off + j * 2 + 1, none⟩) hbx).trans d3
              simp [Region.binds] at hd
              simp only [pcs, List.foldl_cons, List.foldl_nil, Act.put]
              go_simp
              exact HK.out _ _ ⟨nb, by simp [pcs, Act.put, upd, gomax, gomin, *] <;> omega, O, by simpa [upd] using hn11⟩
            · rintro L a' v ⟨nb, rfl, O, hn11⟩ hL hd hcl K hK
              have HK := Lib.hid hK
              clear hK
              have hB := O.below; have hz := O.size; have S0 : Cel v (Bn) 0 (.int .i64 s) := O.cels.1; have S1 : Cel v (Bn) 1 (.int .i64 st) := O.cels.2.1; have S2 : Cel v (Bn) 2 (.slice (some ⟨b, off, none⟩) n c) := O.cels.2.2.1; have S3 : Cel v (wr.heap.size) 0 (.int .i64 (lo (j + 1))) := O.cels.2.2.2.1; have S4 : Cel v (wr.heap.size) 1 (.int .i64 (hi (j + 1))) := O.cels.2.2.2.2.1; have T0 := (hB.cell (p := ⟨b, off + j * 2, none⟩) hbx).trans d2; have T1 := (hB.cell (p := ⟨b, off + j * 2 + 1, none⟩) hbx).trans d3
              simp [Region.binds] at hd
              simp only [pcs, List.foldl_cons, List.foldl_nil, Act.put]
              go_simp
              refine (join_hv _ q1 q2).mono ?_
              rintro e v' ⟨rfl, hb⟩
              go_simp
              exact HK.out _ _ ⟨nb, by simp [pcs, Act.put, upd, gomax, gomin, *] <;> omega, O.keep hb, fun hx => ⟨(hn11 (by simpa [upd] using hx)).1, (hn11 (by simpa [upd] using hx)).2.keep hb⟩⟩
            · rintro L a' v ⟨nb, rfl, O, hn11⟩ hL hd hcl K hK
              have HK := Lib.hid hK
              clear hK
              have hB := O.below; have hz := O.size; have S0 : Cel v (Bn) 0 (.int .i64 s) := O.cels.1; have S1 : Cel v (Bn) 1 (.int .i64 st) := O.cels.2.1; have S2 : Cel v (Bn) 2 (.slice (some ⟨b, off, none⟩) n c) := O.cels.2.2.1; have S3 : Cel v (wr.heap.size) 0 (.int .i64 (lo (j + 1))) := O.cels.2.2.2.1; have S4 : Cel v (wr.heap.size) 1 (.int .i64 (hi (j + 1))) := O.cels.2.2.2.2.1; have T0 := (hB.cell (p := ⟨b, off + j * 2, none⟩) hbx).trans d2; have T1 := (hB.cell (p := ⟨b, off + j * 2 + 1, none⟩) hbx).trans d3
              simp [Region.binds] at hd
              simp only [pcs, List.foldl_cons, List.foldl_nil, Act.put]
              go_simp
              exact HK.out _ _ ⟨nb, by simp [pcs, Act.put, upd, gomax, gomin, *] <;> omega, O, by simpa [upd] using hn11⟩
            · rintro L a' v ⟨nb, rfl, O, hn11⟩ hL hd hcl K hK
              have HK := Lib.hid hK
              clear hK
              have hB := O.below; have hz := O.size; have S0 : Cel v (Bn) 0 (.int .i64 s) := O.cels.1; have S1 : Cel v (Bn) 1 (.int .i64 st) := O.cels.2.1; have S2 : Cel v (Bn) 2 (.slice (some ⟨b, off, none⟩) n c) := O.cels.2.2.1; have S3 : Cel v (wr.heap.size) 0 (.int .i64 (lo (j + 1))) := O.cels.2.2.2.1; have S4 : Cel v (wr.heap.size) 1 (.int .i64 (hi (j + 1))) := O.cels.2.2.2.2.1; have T0 := (hB.cell (p := ⟨b, off + j * 2, none⟩) hbx).trans d2; have T1 := (hB.cell (p := ⟨b, off + j * 2 + 1, none⟩) hbx).trans d3
              simp [Region.binds] at hd
              simp only [pcs, List.foldl_cons, List.foldl_nil, Act.put]
              go_simp
              exact HK.out _ _ ⟨nb, by simp [pcs, Act.put, upd, gomax, gomin, *] <;> omega, O, by simpa [upd] using hn11⟩
            · rintro L a' v ⟨nb, rfl, O, hn11⟩ hL hd hcl K hK
              have HK := Lib.hid hK
              clear hK
              have hB := O.below; have hz := O.size; have S0 : Cel v (Bn) 0 (.int .i64 s) := O.cels.1; have S1 : Cel v (Bn) 1 (.int .i64 st) := O.cels.2.1; have S2 : Cel v (Bn) 2 (.slice (some ⟨b, off, none⟩) n c) := O.cels.2.2.1; have S3 : Cel v (wr.heap.size) 0 (.int .i64 (lo (j + 1))) := O.cels.2.2.2.1; have S4 : Cel v (wr.heap.size) 1 (.int .i64 (hi (j + 1))) := O.cels.2.2.2.2.1; have T0 := (hB.cell (p := ⟨b, off + j * 2, none⟩) hbx).trans d2; have T1 := (hB.cell (p := ⟨b, off + j * 2 + 1, none⟩) hbx).trans d3
              simp [Region.binds] at hd
              simp only [pcs, List.foldl_cons, List.foldl_nil, Act.put]
              go_simp
              exact HK.out _ _ ⟨nb, by simp [pcs, Act.put, upd, gomax, gomin, *] <;> omega, O, by simpa [upd] using hn11⟩
            · rintro L a' v ⟨nb, rfl, O, hn11⟩ hL hd hcl K hK
              have HK := Lib.hid hK
              clear hK
              have hB := O.below; have hz := O.size; have S0 : Cel v (Bn) 0 (.int .i64 s) := O.cels.1; have S1 : Cel v (Bn) 1 (.int .i64 st) := O.cels.2.1; have S2 : Cel v (Bn) 2 (.slice (some ⟨b, off, none⟩) n c) := O.cels.2.2.1; have S3 : Cel v (wr.heap.size) 0 (.int .i64 (lo (j + 1))) := O.cels.2.2.2.1; have S4 : Cel v (wr.heap.size) 1 (.int .i64 (hi (j + 1))) := O.cels.2.2.2.2.1; have T0 := (hB.cell (p := ⟨b, off + j * 2, none⟩) hbx).trans d2; have T1 := (hB.cell (p := ⟨b, off + j * 2 + 1, none⟩) hbx).trans d3
              simp [Region.binds] at hd
              have N12 : L 12 = false := (by cases hq : L 12 with | false => rfl | true => (have hc := hcl 12 _ rfl hq; simp [Region.binds, hL] at hc))
              simp only [pcs, List.foldl_cons, List.foldl_nil, Act.put]
              go_simp
              exact HK.out _ _ ⟨v.heap.size, by simp [pcs, Act.put, upd, gomax, gomin, *] <;> omega, O.alloc _, fun _ => ⟨O.size, by ((try simp only [upd]); (try simp only [N12, cond_false, Nat.reduceEqDiff, if_false, if_true, reduceIte]); (repeat' (first | (with_reducible assumption) | (with_reducible exact Below.refl _ _) | (with_reducible exact Cels.nil _) | (with_reducible refine Cels.cons ?_ ?_) | (with_reducible refine Own.mk ?_ ?_ ?_ ?_) | ((with_reducible refine Cel.new ?_ rfl); first | (with_reducible rfl) | omega | (simp; done) | (simp; omega)) | (with_reducible refine Cel.alloc ?_ _) | (with_reducible refine Cel.drew ?_) | (with_reducible refine Cel.setS ?_ _) | (with_reducible refine Has.set ?_ _ _) | (with_reducible exact Has.of (by assumption)) | (with_reducible refine Cel.setO ?_ ?_ _) | (with_reducible refine Cel.keep (by assumption) ?_) | (with_reducible refine Below.alloc ?_ ?_ _) | (with_reducible refine Below.drew ?_) | (with_reducible refine Below.setCell ?_ ?_ _) | (with_reducible refine below_keep ?_ ?_ (by assumption)) | omega | (simp; done) | (simp; omega))))⟩⟩
            · rintro L a' v ⟨nb, rfl, O, hn11⟩ hL hd hcl K hK
              have HK := Lib.hid hK
              clear hK
              have hB := O.below; have hz := O.size; have S0 : Cel v (Bn) 0 (.int .i64 s) := O.cels.1; have S1 : Cel v (Bn) 1 (.int .i64 st) := O.cels.2.1; have S2 : Cel v (Bn) 2 (.slice (some ⟨b, off, none⟩) n c) := O.cels.2.2.1; have S3 : Cel v (wr.heap.size) 0 (.int .i64 (lo (j + 1))) := O.cels.2.2.2.1; have S4 : Cel v (wr.heap.size) 1 (.int .i64 (hi (j + 1))) := O.cels.2.2.2.2.1; have T0 := (hB.cell (p := ⟨b, off + j * 2, none⟩) hbx).trans d2; have T1 := (hB.cell (p := ⟨b, off + j * 2 + 1, none⟩) hbx).trans d3
              simp [Region.binds] at hd
              have yy := hn11 (by simp [*])
              have yn := yy.1; have y0 : Cel v (nb) 0 (.int .i64 (bif L 12 then min (lo j) (lo (j + 1)) else 0)) := yy.2.1; have y1 : Cel v (nb) 1 (.int .i64 (bif L 12 then max (hi j) (hi (j + 1)) else 0)) := yy.2.2.1
              simp only [pcs, List.foldl_cons, List.foldl_nil, Act.put]
              go_simp
              exact HK.out _ _ ⟨nb, by simp [pcs, Act.put, upd, gomax, gomin, *] <;> omega, ((O.setO _ yn (by simp <;> omega)).setO _ yn (by simp <;> omega)), fun _ => ⟨yn, by ((try simp only [upd]); (try simp only [cond_true, if_true, reduceIte]); (repeat' (first | (with_reducible assumption) | (with_reducible exact Below.refl _ _) | (with_reducible exact Cels.nil _) | (with_reducible refine Cels.cons ?_ ?_) | (with_reducible refine Own.mk ?_ ?_ ?_ ?_) | ((with_reducible refine Cel.new ?_ rfl); first | (with_reducible rfl) | omega | (simp; done) | (simp; omega)) | (with_reducible refine Cel.alloc ?_ _) | (with_reducible refine Cel.drew ?_) | (with_reducible refine Cel.setS ?_ _) | (with_reducible refine Has.set ?_ _ _) | (with_reducible exact Has.of (by assumption)) | (with_reducible refine Cel.setO ?_ ?_ _) | (with_reducible refine Cel.keep (by assumption) ?_) | (with_reducible refine Below.alloc ?_ ?_ _) | (with_reducible refine Below.drew ?_) | (with_reducible refine Below.setCell ?_ ?_ _) | (with_reducible refine below_keep ?_ ?_ (by assumption)) | omega | (simp; done) | (simp; omega))))⟩⟩
            · rintro L a' v ⟨nb, rfl, O, hn11⟩ hL hd hcl K hK
              have HK := Lib.hid hK
              clear hK
              have hB := O.below; have hz := O.size; have S0 : Cel v (Bn) 0 (.int .i64 s) := O.cels.1; have S1 : Cel v (Bn) 1 (.int .i64 st) := O.cels.2.1; have S2 : Cel v (Bn) 2 (.slice (some ⟨b, off, none⟩) n c) := O.cels.2.2.1; have S3 : Cel v (wr.heap.size) 0 (.int .i64 (lo (j + 1))) := O.cels.2.2.2.1; have S4 : Cel v (wr.heap.size) 1 (.int .i64 (hi (j + 1))) := O.cels.2.2.2.2.1; have T0 := (hB.cell (p := ⟨b, off + j * 2, none⟩) hbx).trans d2; have T1 := (hB.cell (p := ⟨b, off + j * 2 + 1, none⟩) hbx).trans d3
              simp [Region.binds] at hd
              simp only [pcs, List.foldl_cons, List.foldl_nil, Act.put]
              go_simp
              exact HK.out _ _ ⟨nb, by simp [pcs, Act.put, upd, gomax, gomin, *] <;> omega, O, by simpa [upd] using hn11⟩
          rintro L a' w2 hL ⟨nb, ea, OO, hn11⟩
          have L0 := hL 0 (by decide); have L1 := hL 1 (by decide); have L2 := hL 2 (by decide); have L3 := hL 3 (by decide); have L4 := hL 4 (by decide); have L5 := hL 5 (by decide); have L6 := hL 6 (by decide); have L7 := hL 7 (by decide); have L8 := hL 8 (by decide); have L9 := hL 9 (by decide); have L10 := hL 10 (by decide); have L11 := hL 11 (by decide); have L12 := hL 12 (by decide); have L13 := hL 13 (by decide)
          have hB1 := OO.below; have hz1 := OO.size; have hl1 := OO.le; have S1_0 : Cel w2 (Bn) 0 (.int .i64 s) := OO.cels.1; have S1_1 : Cel w2 (Bn) 1 (.int .i64 st) := OO.cels.2.1; have S1_2 : Cel w2 (Bn) 2 (.slice (some ⟨b, off, none⟩) n c) := OO.cels.2.2.1; have S1_3 : Cel w2 (wr.heap.size) 0 (.int .i64 (lo (j + 1))) := OO.cels.2.2.2.1; have S1_4 : Cel w2 (wr.heap.size) 1 (.int .i64 (hi (j + 1))) := OO.cels.2.2.2.2.1
          have yy := hn11 L11
          simp only [L0, L1, L2, L3, L4, L5, L6, L7, L8, L9, L10, L11, L12, L13, cond_true] at yy
          have yn11 := yy.1; have S1_5 : Cel w2 (nb) 0 (.int .i64 (min (lo j) (lo (j + 1)))) := yy.2.1; have S1_6 : Cel w2 (nb) 1 (.int .i64 (max (hi j) (hi (j + 1)))) := yy.2.2.1; have yl11 := S1_5.lt
          clear yy
          simp [pcs, Act.put, L0, L1, L2, L3, L4, L5, L6, L7, L8, L9, L10, L11, L12, L13] at ea
          subst ea
          clear hL L0 L1 L2 L3 L4 L5 L6 L7 L8 L9 L10 L11 L12 L13 hn11
          have O1 : Own wx (w2.heap.size) w2 [(Bn, 0, .int .i64 s), (Bn, 1, .int .i64 st), (Bn, 2, .slice (some ⟨b, off, none⟩) n c), (wr.heap.size, 0, .int .i64 (lo (j + 1))), (wr.heap.size, 1, .int .i64 (hi (j + 1))), (nb, 0, .int .i64 (min (lo j) (lo (j + 1)))), (nb, 1, .int .i64 (max (hi j) (hi (j + 1))))] := ⟨hB1, Nat.le_refl _, (by (repeat' (first | (with_reducible assumption) | (with_reducible exact Below.refl _ _) | (with_reducible exact Cels.nil _) | (with_reducible refine Cels.cons ?_ ?_) | (with_reducible refine Own.mk ?_ ?_ ?_ ?_) | ((with_reducible refine Cel.new ?_ rfl); first | (with_reducible rfl) | omega | (simp; done) | (simp; omega)) | (with_reducible refine Cel.alloc ?_ _) | (with_reducible refine Cel.drew ?_) | (with_reducible refine Cel.setS ?_ _) | (with_reducible refine Has.set ?_ _ _) | (with_reducible exact Has.of (by assumption)) | (with_reducible refine Cel.setO ?_ ?_ _) | (with_reducible refine Cel.keep (by assumption) ?_) | (with_reducible refine Below.alloc ?_ ?_ _) | (with_reducible refine Below.drew ?_) | (with_reducible refine Below.setCell ?_ ?_ _) | (with_reducible refine below_keep ?_ ?_ (by assumption)) | omega | (simp; done) | (simp; omega)))), hB1.size⟩
          clear OO
          have hBw : Below wr.heap.size wr w2 := bx0.trans (hB1.mono (by omega))
          have hj2 := abides_below hJ hj hBw
          have hT2 := hT.keep hBw
          have xb2 := (hB1.block wr.heap.size hXx).trans xb
          obtain ⟨fn, tmps, assign, body, hy, hR⟩ := hY pre ⟨midS s st lo hi j, mid_ok hv hlt h1⟩ _ hj2 (by omega)
          simp [midS] at hy
          gi_wp2
          refine hR.mono ?_
          rintro e W3 (⟨rfl, hJ3, hk3⟩ | ⟨rfl, hJx3⟩)
          · have X0 := Kp.cel hT.safe hT.bo hBw hk3 (Nat.le_trans hB (Nat.le_of_lt hBl)) (Nat.le_refl _) (by decide) xb2 S1_3
            have X1 := Kp.cel hT.safe hT.bo hBw hk3 (Nat.le_trans hB (Nat.le_of_lt hBl)) (Nat.le_refl _) (by decide) xb2 S1_4
            obtain ⟨fn2, tmps2, assign2, body2, hy2, hR2⟩ := hY (pre ++ [⟨midS s st lo hi j, mid_ok hv hlt h1⟩]) ⟨rowS s st lo hi (j + 1), row_ok hv hlt⟩ _ hJ3 (by simp; omega)
            simp [rowS] at hy2
            clear hy S1_0 S1_1 S1_2 S1_3 S1_4 e0 e1 e2 e3 e4 d2 d3
            gi_wp2
            refine hR2.mono ?_
            rintro e W4 (⟨rfl, hJ4, hk4⟩ | ⟨rfl, hJx4⟩)
            · gi_wp2
              go_roundw
              case rel => exact ⟨j + 1 + 1, by omega, by go_num, pre ++ [⟨midS s st lo hi j, mid_ok hv hlt h1⟩] ++ [⟨rowS s st lo hi (j + 1), row_ok hv hlt⟩], by rw [List.map_append, List.map_append, hpre]; exact (strs_two (by omega) _).symm, hJ4, (hT2.kp hB hk3).kp hB hk4⟩
              case measure => simp [intOf]; omega
            · gi_wp2
              refine bodyPost_ret (results_none rfl _ _ _) rfl ?_
              exact ⟨⟨_, rfl⟩, .inr ⟨_, trivial, hJx4⟩⟩
          · gi_wp2
            refine bodyPost_ret (results_none rfl _ _ _) rfl ?_
            exact ⟨⟨_, rfl⟩, .inr ⟨_, trivial, hJx3⟩⟩
        · have hjx := abides_below hJ hj (below_new wr (.cells #[.int .i64 (lo (j + 1)), .int .i64 (hi (j + 1))] 30))
          obtain ⟨fn, tmps, assign, body, hy, hR⟩ := hY pre ⟨rowS s st lo hi (j + 1), row_ok hv hlt⟩ _ hjx (by omega)
          simp [rowS] at hy
          simp at a1 a2 a3
          clear hc
          gi_wp2
          refine hR.mono ?_
          rintro e W3 (⟨rfl, hJ3, hk3⟩ | ⟨rfl, hJx3⟩)
          · gi_wp2
            go_roundw
            case rel => exact ⟨j + 1 + 1, by omega, by go_num, pre ++ [⟨rowS s st lo hi (j + 1), row_ok hv hlt⟩], by rw [List.map_append, hpre]; exact (strs_one (by omega) _).symm, hJ3, (hT.keep (below_new _ _)).kp hB hk3⟩
            case measure => simp [intOf]; omega
          · gi_wp2
            refine bodyPost_ret (results_none rfl _ _ _) rfl ?_
            exact ⟨⟨_, rfl⟩, .inr ⟨_, trivial, hJx3⟩⟩
    · obtain rfl : k = n := by omega
      gi_wp2
      go_end0
      exact ⟨⟨_, rfl⟩, .inl ⟨pre, hpre, hj⟩⟩

theorem str_stops (s st : Int) (p : Option Addr) (n c : Nat) (lo hi : Nat → Int) (hv : Tv s st n lo hi) (n₀ bO B Bn : Nat) (hB : B ≤ Bn) (w : World) (hI : Itv n₀ bO Bn s st p n c lo hi w) :
    SeqStopsK Fence.wide 1 Try.prog 54 #[.pointer (some ⟨Bn, 0, none⟩)] (fun x : St => #[enc x]) (Kp n₀ bO B) (fun xs => xs.map (·.1) = strs s st lo hi n) (fun _ => True) (2 * n) w :=
  fun l J Jx W hW hJ _ hY h0 => str1_in s st p n c lo hi hv l n₀ bO B Bn hB J Jx _ hJ hY W (hI.keep hW) h0
set_option maxHeartbeats 400000 in
theorem stretches_any (s st : Int) (p : Option Addr) (n c : Nat) (w : World) : Calls Try.prog 40 #[tv s st p n c] w fun e w' => e = .returned (.func (.func 54) #[] #[.pointer (some ⟨w.heap.size, 0, none⟩)]) ∧ w' = w.alloc (.cells #[.int .i64 s, .int .i64 st, .slice p n c] 24) := by
  go_enter Try.func40, Try.ntmps40
  go_wp2
  go_ret
  exact ⟨rfl, rfl⟩

end Go.Proofs.Ytmljnelmnagfoaa
