/- EditionApplied: for every input the law's call returns true, and every argument reads as it did. No condition. -/
import Derived.Test.YtdhgiklbkmkblaaGreatK01
import Derived.Test.YtdhgiklbkmkblaaGreatK02
import Derived.Test.YtdhgiklbkmkblaaGreatK03
import Derived.Test.YtdhgiklbkmkblaaGreatK04
import Derived.Test.YtdhgiklbkmkblaaGreatK05
import Derived.Test.YtdhgiklbkmkblaaGreatK06
import Derived.Test.YtdhgiklbkmkblaaGreatK07
import Derived.Test.YtdhgiklbkmkblaaGreatK08
import Derived.Test.YtdhgiklbkmkblaaGreatK09
import Derived.Test.YtdhgiklbkmkblaaGreatK10
import Derived.Test.YtdhgiklbkmkblaaGreatK11
import Derived.Test.YtdhgiklbkmkblaaGreatK12
import Derived.Test.YtdhgiklbkmkblaaGreatK13
import Derived.Test.YtdhgiklbkmkblaaGreatK14
import Derived.Test.YtdhgiklbkmkblaaGreatK15
import Derived.ProofKit
import Derived.OpenShut
import Derived.ChangeOld
import Derived.Below
set_option linter.unusedVariables false
set_option linter.unusedSimpArgs false
namespace Go.Proofs.YtdhgiklbkmkblaaGreat.editionAppliedRow
open Go.Proofs.YtdhgiklbkmkblaaGreat Go.Sea Go.ChangeShapes Go.WideShapes Go.ChangeAt Go.RowKit

theorem own : ownKnob Tryz.prog.godebug = none := by kernel_rfl
theorem laidOut : laidOutB Tryz.prog = true := by kernel_rfl

set_option maxRecDepth 100000 in
theorem lifted (os : Os) (started : os.Started) (H : Type) (enc : TypeId × Value → H) :
    ReturnsInHanded {} Tryz.checked os 4 .any (Rows.editionAppliedSpec.pre6 enc Tryz.prog Tryz.f4 Rows.editionAppliedRow.domain false) (Rows.editionAppliedSpec.post enc Tryz.prog Tryz.f4 false true false false) := by
  refine returnsInHanded_of_change (C := Tryz.checked) own started (by kernel_rfl) Tryz.func4
    (ChangeSpec.witness6 (enc := enc) (C := Tryz.checked) false ⟨#[], #[.agg #[.int .i64 0, .int .i64 0, .int .i64 0, .int .i64 0, .int .i64 0, .int .i64 0, .int .i64 0, .int .i64 0, .int .i64 0, .int .i64 0, .int .i64 0, .slice none 0 0, .slice none 0 0], .agg #[.int .i64 0, .int .i64 0, .int .i64 0, .int .i64 0, .int .i64 0, .int .i64 0, .slice none 0 0]], []⟩ 8 (by kernel_rfl) (by kernel_rfl) (by kernel_rfl) (by kernel_rfl)) ?_
  intro W base args ds gs before hval0 hW hcnd _
  have hval : ∀ (j : Nat) t v, Tryz.f4.params[j]? = some t → args[j]? = some v → Value.okWide Tryz.prog W .any base t v := hval0
  have hW' := hW
  obtain ⟨p, q, hA0, hV, rfl, hfz, hnd⟩ := hW
  have hA : DataW.TrodAll enc Tryz.prog W 0 (fun _ => true) true Tryz.f4.params.toList args.toList ds p := hA0
  rw [Tryz.params4] at hA hval
  obtain ⟨v0, vs0, d0, ds0, p0, q0, hargs, rfl, rfl, h0, r0⟩ := trodAll_cons hA
  obtain ⟨v1, vs1, d1, ds1, p1, q1, rfl, rfl, rfl, h1, r1⟩ := trodAll_cons r0
  obtain ⟨rfl, rfl, rfl⟩ := trodAll_nil r1
  obtain rfl : args = #[v0, v1] := by cases args; simp_all
  obtain ⟨rfl, rfl⟩ := trodVars_none hV
  have lt0 : ∀ x ∈ p0, x.block < W.heap.size := by obtain ⟨m, hm⟩ := h0; exact DataW.trod_lt m _ _ _ hm
  have lt1 : ∀ x ∈ p1, x.block < W.heap.size := by obtain ⟨m, hm⟩ := h1; exact DataW.trod_lt m _ _ _ hm
  obtain ⟨l0, o0, z0⟩ := open_sheet (hval 0 27 v0 rfl rfl) h0
  obtain ⟨l1, o1, z1⟩ := open_not (hval 1 30 v1 rfl rfl) h1
  clear hA0 hval0
  refine (app_law l0 l1 o0 o1 W (Zw W) #[v0, v1] (fun _ h => h) ⟨z0, z1, trivial⟩).mono fun e W' ⟨v, he, bel, hv⟩ => ?_
  obtain rfl : v = .bool true := rd_g hv
  subst he
  exact ⟨_, rfl, _, _, _, [], _, [], hW', trodAll_mk1 (shut_bool Tryz.underlying4 _), ((trodAll_cons_mk (Below.trod laidOut (by kernel_rfl) (of_decide_eq_true (by kernel_rfl)) h0 bel lt0) (trodAll_cons_mk (Below.trod laidOut (by kernel_rfl) (of_decide_eq_true (by kernel_rfl)) h1 bel lt1) trodAll_mk0))), rfl, bel.frame _, fun h => by cases h⟩

theorem over : Rows.editionAppliedRow.holds Tryz.pinned (OpenSpec.ofChange Rows.editionAppliedSpec) :=
  OpenClaim.holds_of_wide 4 Tryz.f4 rfl rfl rfl rfl rfl rfl rfl ⟨rfl, rfl, rfl, rfl, rfl⟩ rfl rfl rfl rfl rfl (by kernel_rfl) Tryz.func4 (by kernel_rfl)
    (of_decide_eq_true (by kernel_rfl)) (by unfold Func.isWrapper; first | (rw [if_pos (by decide +kernel)]; kernel_rfl) | (rw [if_neg (by decide +kernel)]; exact ⟨rfl, rfl⟩))
    (fun os started H enc _ => lifted os started H enc)

end Go.Proofs.YtdhgiklbkmkblaaGreat.editionAppliedRow
namespace Go.Proofs.YtdhgiklbkmkblaaGreat
theorem editionApplied_holds : Rows.EditionAppliedSaid := editionAppliedRow.over
end Go.Proofs.YtdhgiklbkmkblaaGreat
