/- ClashParts: for every input the law's call returns true, and every argument reads as it did; the two tables of math/bits read as the program's text lays them (tied). -/
import Derived.Test.YtmnejmpjmniiiaaGreatDoorX01
import Derived.Test.YtmnejmpjmniiiaaGreatDoorX02
import Derived.Test.YtmnejmpjmniiiaaGreatDoorX03
import Derived.Test.YtmnejmpjmniiiaaGreatDoorX04
import Derived.Test.YtmnejmpjmniiiaaGreatDoorX05
import Derived.Test.YtmnejmpjmniiiaaGreatDoorX06
import Derived.Test.YtmnejmpjmniiiaaGreatDoorX07
import Derived.Test.YtmnejmpjmniiiaaGreatDoorX08
import Derived.Test.YtmnejmpjmniiiaaGreatDoorX09
import Derived.Test.YtmnejmpjmniiiaaGreatDoorX10
import Derived.Test.YtmnejmpjmniiiaaGreatDoorX11
import Derived.Test.YtmnejmpjmniiiaaGreatDoorX12
import Derived.Test.YtmnejmpjmniiiaaGreatDoorX13
import Derived.Test.YtmnejmpjmniiiaaGreatDoorX14
import Derived.Test.YtmnejmpjmniiiaaGreatDoorX15
import Derived.Test.YtmnejmpjmniiiaaGreatDoorTie
import Derived.Test.YtmnejmpjmniiiaaGreatDoorCards
import Derived.SevenTiedAt
import Derived.ProofKit
import Derived.LaidMore
import Derived.OpenShut
import Derived.ChangeOld
import Derived.Stop.Joined
import Derived.Below
set_option linter.unusedVariables false
set_option linter.unusedSimpArgs false
namespace Go.Proofs.YtmnejmpjmniiiaaGreatDoor.clashPartsRow
open Go.Proofs.YtmnejmpjmniiiaaGreatDoor Go.Sea Go.ChangeShapes Go.WideShapes Go.ChangeAt Go.RowKit

theorem own : ownKnob Tryz.prog.godebug = none := by kernel_rfl
theorem laidOut : laidOutB Tryz.prog = true := by kernel_rfl

set_option maxRecDepth 100000 in
theorem lifted (os : Os) (started : os.Started) (H : Type) (enc : TypeId × Value → H) :
    ReturnsInHanded {} Tryz.checked os 4 .any (fun w args => (Rows.clashPartsSpec.pre enc Tryz.prog Tryz.f4 [] false w args ∧ laidMetH Tryz.prog laidL w) ∧ sizedMet enc Tryz.prog Tryz.f4 (OpenSpec.ofChange Rows.clashPartsSpec) false w args)
      (Rows.clashPartsSpec.post enc Tryz.prog Tryz.f4 false true false false) := by
  refine returnsInHanded_of_change_and (C := Tryz.checked) (X := fun w _ => laidMetH Tryz.prog laidL w) (fun _ _ _ hh h => h.of_heap hh) own started (by kernel_rfl) Tryz.func4
    (ChangeSpec.witness_shaped (enc := enc) (C := Tryz.checked) (os := os) (X := fun w _ => laidMetH Tryz.prog laidL w) false (World.doorLaid Tryz.prog 400 os) #[.agg #[.slice none 0 0, .slice none 0 0, .slice none 0 0], .slice none 0 0, .slice none 0 0] 8 rfl (World.shaped_of_RefB (by kernel_rfl) (by kernel_rfl)) (by kernel_rfl) (by kernel_rfl) (by kernel_rfl) (door_met os _)) ?_
  intro W base args ds gs before hval0 hW _ _ hL _
  have hval : ∀ (j : Nat) t v, Tryz.f4.params[j]? = some t → args[j]? = some v → Value.okWide Tryz.prog W .any base t v := hval0
  have hW' := hW
  obtain ⟨p, q, hA0, hV, rfl, hfz, hnd⟩ := hW
  have hA : DataW.TrodAll enc Tryz.prog W 0 (fun _ => true) true Tryz.f4.params.toList args.toList ds p := hA0
  rw [Tryz.params4] at hA hval
  obtain ⟨v0, vs0, d0, ds0, p0, q0, hargs, rfl, rfl, h0, r0⟩ := trodAll_cons hA
  obtain ⟨v1, vs1, d1, ds1, p1, q1, rfl, rfl, rfl, h1, r1⟩ := trodAll_cons r0
  obtain ⟨v2, vs2, d2, ds2, p2, q2, rfl, rfl, rfl, h2, r2⟩ := trodAll_cons r1
  obtain ⟨rfl, rfl, rfl⟩ := trodAll_nil r2
  obtain rfl : args = #[v0, v1, v2] := by cases args; simp_all
  obtain ⟨rfl, rfl⟩ := trodVars_none hV
  have lt0 : ∀ x ∈ p0, x.block < W.heap.size := by obtain ⟨m, hm⟩ := h0; exact DataW.trod_lt m _ _ _ hm
  have lt1 : ∀ x ∈ p1, x.block < W.heap.size := by obtain ⟨m, hm⟩ := h1; exact DataW.trod_lt m _ _ _ hm
  have lt2 : ∀ x ∈ p2, x.block < W.heap.size := by obtain ⟨m, hm⟩ := h2; exact DataW.trod_lt m _ _ _ hm
  obtain ⟨x0, o0, z0⟩ := open_case (hval 0 26 v0 rfl rfl) h0
  obtain ⟨n1, a1, o1, z1⟩ := open_ints (hval 1 27 v1 rfl rfl) h1
  obtain ⟨n2, a2, o2, z2⟩ := open_ints (hval 2 27 v2 rfl rfl) h2
  clear hA0 hval0
  simp only [List.append_nil] at hW'
  refine (pt_law x0 o0 n1 a1 o1 n2 a2 o2 W (Zw W) #[v0, v1, v2] (fun _ h => h) ⟨z0, z1, z2, trivial⟩ (tab_of_laid hL)).mono fun e W' ⟨v, he, bel, hv⟩ => ?_
  obtain rfl : v = .bool true := rd_g hv
  subst he
  exact ⟨_, rfl, _, _, _, [], _, [], hW', trodAll_mk1 (shut_bool Tryz.underlying4 _), ((trodAll_cons_mk (Below.trod laidOut (by kernel_rfl) (of_decide_eq_true (by kernel_rfl)) h0 bel lt0) (trodAll_cons_mk (Below.trod laidOut (by kernel_rfl) (of_decide_eq_true (by kernel_rfl)) h1 bel lt1) (trodAll_cons_mk (Below.trod laidOut (by kernel_rfl) (of_decide_eq_true (by kernel_rfl)) h2 bel lt2) trodAll_mk0)))), rfl, bel.frame _, fun h => by cases h⟩

theorem over : Rows.clashPartsRow.holds Tryz.pinned (OpenSpec.ofChange Rows.clashPartsSpec) :=
  OpenClaim.holds_of_wide 4 Tryz.f4 rfl rfl rfl rfl rfl rfl rfl ⟨rfl, rfl, rfl, rfl, rfl⟩ rfl rfl rfl rfl rfl (by kernel_rfl) Tryz.func4 (by kernel_rfl)
    (of_decide_eq_true (by kernel_rfl)) (by unfold Func.isWrapper; first | (rw [if_pos (by decide +kernel)]; kernel_rfl) | (rw [if_neg (by decide +kernel)]; exact ⟨rfl, rfl⟩))
    (fun os started H enc _ => lifted os started H enc)

end Go.Proofs.YtmnejmpjmniiiaaGreatDoor.clashPartsRow
namespace Go.Proofs.YtmnejmpjmniiiaaGreatDoor
open Go
theorem clashParts_holds : Rows.ClashPartsCardSaid :=
  Claim7.holds_tied_plain_at .later [] [.data, .data] true (true, "c423e455aa52841bf1b2d613d3a2cfd8f4767d7e9b85d99136304ecc55709775") false
    clashPartsRow.over (fun _ h => by cases h) (by kernel_rfl) (fun _ h => by cases h) clashParts_row_tie rfl ⟨rfl, rfl⟩ (by kernel_rfl) rfl
    (fun f fn hf hfn => by
      obtain rfl : f = 4 := Option.some.inj ((show Tryz.prog.funcNamed "seamark/seamarklaw19.ClashParts" = some 4 by kernel_rfl).symm.trans hf) |>.symm
      obtain rfl : fn = Tryz.f4 := (Option.some.inj (Tryz.func4.symm.trans hfn)).symm
      exact ⟨by kernel_rfl, fun j t ht => by
        rw [Tryz.params4] at ht
        have hm : t ∈ [26, 27, 27] := by simpa using Array.mem_of_getElem? ht
        have hall : ([26, 27, 27].all fun u => !Tryz.prog.wantsStandIn u) = true := by kernel_rfl
        exact (show Tryz.prog.wantsStandIn t = false by simpa using List.all_eq_true.1 hall t hm)⟩)
    (by kernel_rfl)
end Go.Proofs.YtmnejmpjmniiiaaGreatDoor
