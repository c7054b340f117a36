/- EditionMatchesReference: for every input the law's call returns true, and every argument reads as it did. No condition. -/
import Derived.Test.YtdhgiklbkmkblaaGreatM01
import Derived.Test.YtdhgiklbkmkblaaGreatM02
import Derived.Test.YtdhgiklbkmkblaaGreatM03
import Derived.Test.YtdhgiklbkmkblaaGreatM04
import Derived.Test.YtdhgiklbkmkblaaGreatM05
import Derived.Test.YtdhgiklbkmkblaaGreatM06
import Derived.Test.YtdhgiklbkmkblaaGreatM07
import Derived.Test.YtdhgiklbkmkblaaGreatM08
import Derived.Test.YtdhgiklbkmkblaaGreatM09
import Derived.Test.YtdhgiklbkmkblaaGreatM10
import Derived.Test.YtdhgiklbkmkblaaGreatM11
import Derived.Test.YtdhgiklbkmkblaaGreatM12
import Derived.Test.YtdhgiklbkmkblaaGreatM13
import Derived.Test.YtdhgiklbkmkblaaGreatM14
import Derived.Test.YtdhgiklbkmkblaaGreatM15
import Derived.Test.YtdhgiklbkmkblaaGreatM16
import Derived.ProofKit
import Derived.OpenShut
import Derived.ChangeOld
import Derived.Below
set_option linter.unusedVariables false
set_option linter.unusedSimpArgs false
namespace Go.Proofs.YtdhgiklbkmkblaaGreat.editionMatchesReferenceRow
open Go.Proofs.YtdhgiklbkmkblaaGreat Go.Sea Go.ChangeShapes Go.WideShapes Go.ChangeAt Go.RowKit

theorem own : ownKnob Tryz.prog.godebug = none := by kernel_rfl
theorem laidOut : laidOutB Tryz.prog = true := by kernel_rfl

set_option maxRecDepth 100000 in
theorem lifted (os : Os) (started : os.Started) (H : Type) (enc : TypeId × Value → H) :
    ReturnsInHanded {} Tryz.checked os 3 .any (Rows.editionMatchesReferenceSpec.pre6 enc Tryz.prog Tryz.f3 Rows.editionMatchesReferenceRow.domain false) (Rows.editionMatchesReferenceSpec.post enc Tryz.prog Tryz.f3 false true false false) := by
  refine returnsInHanded_of_change (C := Tryz.checked) own started (by kernel_rfl) Tryz.func3
    (ChangeSpec.witness6 (enc := enc) (C := Tryz.checked) false ⟨#[], #[.agg #[.int .i64 0, .int .i64 0, .int .i64 0, .int .i64 0, .int .i64 0, .int .i64 0, .int .i64 0, .int .i64 0, .int .i64 0, .int .i64 0, .int .i64 0, .slice none 0 0, .slice none 0 0], .agg #[.int .i64 0, .int .i64 0, .int .i64 0, .int .i64 0, .int .i64 0, .int .i64 0, .int .i64 0, .int .i64 0, .int .i64 0, .int .i64 0, .int .i64 0, .slice none 0 0, .slice none 0 0], .agg #[.int .i64 0, .int .i64 0, .int .i64 0, .int .i64 0, .int .i64 0, .int .i64 0, .slice none 0 0], .slice none 0 0, .int .i64 0, .slice none 0 0], []⟩ 8 (by kernel_rfl) (by kernel_rfl) (by kernel_rfl) (by kernel_rfl)) ?_
  intro W base args ds gs before hval0 hW hcnd _
  have hval : ∀ (j : Nat) t v, Tryz.f3.params[j]? = some t → args[j]? = some v → Value.okWide Tryz.prog W .any base t v := hval0
  have hW' := hW
  obtain ⟨p, q, hA0, hV, rfl, hfz, hnd⟩ := hW
  have hA : DataW.TrodAll enc Tryz.prog W 0 (fun _ => true) true Tryz.f3.params.toList args.toList ds p := hA0
  rw [Tryz.params3] at hA hval
  obtain ⟨v0, vs0, d0, ds0, p0, q0, hargs, rfl, rfl, h0, r0⟩ := trodAll_cons hA
  obtain ⟨v1, vs1, d1, ds1, p1, q1, rfl, rfl, rfl, h1, r1⟩ := trodAll_cons r0
  obtain ⟨v2, vs2, d2, ds2, p2, q2, rfl, rfl, rfl, h2, r2⟩ := trodAll_cons r1
  obtain ⟨v3, vs3, d3, ds3, p3, q3, rfl, rfl, rfl, h3, r3⟩ := trodAll_cons r2
  obtain ⟨v4, vs4, d4, ds4, p4, q4, rfl, rfl, rfl, h4, r4⟩ := trodAll_cons r3
  obtain ⟨v5, vs5, d5, ds5, p5, q5, rfl, rfl, rfl, h5, r5⟩ := trodAll_cons r4
  obtain ⟨rfl, rfl, rfl⟩ := trodAll_nil r5
  obtain rfl : args = #[v0, v1, v2, v3, v4, v5] := by cases args; simp_all
  obtain ⟨rfl, rfl⟩ := trodVars_none hV
  have lt0 : ∀ x ∈ p0, x.block < W.heap.size := by obtain ⟨m, hm⟩ := h0; exact DataW.trod_lt m _ _ _ hm
  have lt1 : ∀ x ∈ p1, x.block < W.heap.size := by obtain ⟨m, hm⟩ := h1; exact DataW.trod_lt m _ _ _ hm
  have lt2 : ∀ x ∈ p2, x.block < W.heap.size := by obtain ⟨m, hm⟩ := h2; exact DataW.trod_lt m _ _ _ hm
  have lt3 : ∀ x ∈ p3, x.block < W.heap.size := by obtain ⟨m, hm⟩ := h3; exact DataW.trod_lt m _ _ _ hm
  have lt4 : ∀ x ∈ p4, x.block < W.heap.size := by obtain ⟨m, hm⟩ := h4; exact DataW.trod_lt m _ _ _ hm
  have lt5 : ∀ x ∈ p5, x.block < W.heap.size := by obtain ⟨m, hm⟩ := h5; exact DataW.trod_lt m _ _ _ hm
  obtain ⟨a4, rfl, _⟩ := open_i (hval 4 3 v4 rfl rfl) h4
  obtain ⟨l0, o0, z0⟩ := open_sheet (hval 0 27 v0 rfl rfl) h0
  obtain ⟨l1, o1, z1⟩ := open_sheet (hval 1 27 v1 rfl rfl) h1
  obtain ⟨l2, o2, z2⟩ := open_not (hval 2 30 v2 rfl rfl) h2
  obtain ⟨k3, l3, o3, z3⟩ := open_nots (hval 3 31 v3 rfl rfl) h3
  obtain ⟨k5, l5, o5, z5⟩ := open_ints (hval 5 24 v5 rfl rfl) h5
  clear hA0 hval0
  refine (match_law l0 l1 l2 k3 l3 a4 k5 l5 o0 o1 o2 o3.1 o3.2 o5 W (Zw W) #[v0, v1, v2, v3, .int .i64 a4, v5] (fun _ h => h) ⟨z0, z1, z2, z3, Rd.g _ rfl, z5, trivial⟩).mono fun e W' ⟨v, he, bel, hv⟩ => ?_
  obtain rfl : v = .bool true := rd_g hv
  subst he
  exact ⟨_, rfl, _, _, _, [], _, [], hW', trodAll_mk1 (shut_bool Tryz.underlying4 _), ((trodAll_cons_mk (Below.trod laidOut (by kernel_rfl) (of_decide_eq_true (by kernel_rfl)) h0 bel lt0) (trodAll_cons_mk (Below.trod laidOut (by kernel_rfl) (of_decide_eq_true (by kernel_rfl)) h1 bel lt1) (trodAll_cons_mk (Below.trod laidOut (by kernel_rfl) (of_decide_eq_true (by kernel_rfl)) h2 bel lt2) (trodAll_cons_mk (Below.trod laidOut (by kernel_rfl) (of_decide_eq_true (by kernel_rfl)) h3 bel lt3) (trodAll_cons_mk (Below.trod laidOut (by kernel_rfl) (of_decide_eq_true (by kernel_rfl)) h4 bel lt4) (trodAll_cons_mk (Below.trod laidOut (by kernel_rfl) (of_decide_eq_true (by kernel_rfl)) h5 bel lt5) trodAll_mk0))))))), rfl, bel.frame _, fun h => by cases h⟩

theorem over : Rows.editionMatchesReferenceRow.holds Tryz.pinned (OpenSpec.ofChange Rows.editionMatchesReferenceSpec) :=
  OpenClaim.holds_of_wide 3 Tryz.f3 rfl rfl rfl rfl rfl rfl rfl ⟨rfl, rfl, rfl, rfl, rfl⟩ rfl rfl rfl rfl rfl (by kernel_rfl) Tryz.func3 (by kernel_rfl)
    (of_decide_eq_true (by kernel_rfl)) (by unfold Func.isWrapper; first | (rw [if_pos (by decide +kernel)]; kernel_rfl) | (rw [if_neg (by decide +kernel)]; exact ⟨rfl, rfl⟩))
    (fun os started H enc _ => lifted os started H enc)

end Go.Proofs.YtdhgiklbkmkblaaGreat.editionMatchesReferenceRow
namespace Go.Proofs.YtdhgiklbkmkblaaGreat
theorem editionMatchesReference_holds : Rows.EditionMatchesReferenceSaid := editionMatchesReferenceRow.over
end Go.Proofs.YtdhgiklbkmkblaaGreat
