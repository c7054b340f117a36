/- DiskForward: for every input the law's call returns true, and every argument reads as it did. No condition. -/
import Derived.Test.YtifoncmlelinjaaAC
import Derived.Test.YtifoncmlelinjaaV
import Derived.ProofKit
import Derived.OpenShut
import Derived.ChangeOld
import Derived.Below
import Derived.SizedLaws
set_option linter.unusedVariables false
set_option linter.unusedSimpArgs false
namespace Go.Proofs.Ytifoncmlelinjaa.diskForwardRow
open Go.Proofs.Ytifoncmlelinjaa Go.Sea Go.ChangeShapes Go.WideShapes Go.ChangeAt Go.RowKit

theorem own : ownKnob Try.prog.godebug = none := by kernel_rfl
theorem laidOut : laidOutB Try.prog = true := by kernel_rfl

theorem bytes25 : Try.prog.bytesOf 25 = 24 := by kernel_rfl
/-- A list that the form reaches has not too many elements. -/
theorem recs_reach {H : Type} {enc : TypeId × Value → H} {w : World} {base : Nat} {spare : Nat → Bool} {held : Bool} {v : Value} {d : DataW H} {p : List MemPlace} {ts : List TypeId} {ds : List (DataW H)} (hsz : (DataW.weightsEach Try.prog ts ds).all (· ≤ reachBytes) = true) {j : Nat} (ht : ts[j]? = some 22) (hd : ds[j]? = some d) (h : DataW.Trod enc Try.prog w base spare held 22 v d p) {Z : Nat → Prop} {k : Nat} {f : Nat → Nat → IV} (z : Rd w Z v (.lst 1 k f)) : k ≤ 5864062014800 := by
  cases z with
  | nil => exact Nat.zero_le _
  | lst b off _ cap _ _ X hz hn hm q1 q2 =>
    obtain ⟨fuel, hf⟩ := h
    rcases Go.Deep.open_slice Try.underlying22 hf with ⟨e, _⟩ | ⟨a, len, cap', m, n', D, Pl, e, _, _, _, _, hx, _⟩
    · simp [Value.cells] at e
    · simp [Value.cells] at e
      obtain ⟨_, rfl, _⟩ := e
      simp only [Prod.mk.injEq] at hx
      obtain ⟨rfl, _⟩ := hx
      have := sized_slice hsz ht hd Try.underlying22
      rw [bytes25, List.length_map, List.length_range] at this
      unfold reachBytes at this
      omega
set_option maxRecDepth 100000 in
theorem lifted (os : Os) (started : os.Started) (H : Type) (enc : TypeId × Value → H) :
    ReturnsInHanded {} Try.checked os 9 .any (Rows.diskForwardSpec.pre6 enc Try.prog Try.f9 Rows.diskForwardRow.domain false) (Rows.diskForwardSpec.post enc Try.prog Try.f9 false true false false) := by
  refine returnsInHanded_of_change_sized (C := Try.checked) own started (by kernel_rfl) Try.func9
    (ChangeSpec.witness6 (enc := enc) (C := Try.checked) false ⟨#[], #[.agg #[.slice none 0 0], .slice none 0 0, .slice none 0 0, .int .i64 0, .int .i64 0], []⟩ 8 (by kernel_rfl) (by kernel_rfl) (by kernel_rfl) (by kernel_rfl)) ?_
  intro W base args ds gs before hval0 hW hcnd hsz _
  have hval : ∀ (j : Nat) t v, Try.f9.params[j]? = some t → args[j]? = some v → Value.okWide Try.prog W .any base t v := hval0
  have hW' := hW
  obtain ⟨p, q, hA0, hV, rfl, hfz, hnd⟩ := hW
  have hA : DataW.TrodAll enc Try.prog W 0 (fun _ => true) true Try.f9.params.toList args.toList ds p := hA0
  rw [Try.params9] at hA hval
  obtain ⟨v0, vs0, d0, ds0, p0, q0, hargs, rfl, rfl, h0, r0⟩ := trodAll_cons hA
  obtain ⟨v1, vs1, d1, ds1, p1, q1, rfl, rfl, rfl, h1, r1⟩ := trodAll_cons r0
  obtain ⟨v2, vs2, d2, ds2, p2, q2, rfl, rfl, rfl, h2, r2⟩ := trodAll_cons r1
  obtain ⟨v3, vs3, d3, ds3, p3, q3, rfl, rfl, rfl, h3, r3⟩ := trodAll_cons r2
  obtain ⟨v4, vs4, d4, ds4, p4, q4, rfl, rfl, rfl, h4, r4⟩ := trodAll_cons r3
  obtain ⟨rfl, rfl, rfl⟩ := trodAll_nil r4
  obtain rfl : args = #[v0, v1, v2, v3, v4] := by cases args; simp_all
  obtain ⟨rfl, rfl⟩ := trodVars_none hV
  have lt0 : ∀ x ∈ p0, x.block < W.heap.size := by obtain ⟨m, hm⟩ := h0; exact DataW.trod_lt m _ _ _ hm
  have lt1 : ∀ x ∈ p1, x.block < W.heap.size := by obtain ⟨m, hm⟩ := h1; exact DataW.trod_lt m _ _ _ hm
  have lt2 : ∀ x ∈ p2, x.block < W.heap.size := by obtain ⟨m, hm⟩ := h2; exact DataW.trod_lt m _ _ _ hm
  have lt3 : ∀ x ∈ p3, x.block < W.heap.size := by obtain ⟨m, hm⟩ := h3; exact DataW.trod_lt m _ _ _ hm
  have lt4 : ∀ x ∈ p4, x.block < W.heap.size := by obtain ⟨m, hm⟩ := h4; exact DataW.trod_lt m _ _ _ hm
  obtain ⟨k0, m0, D0, o0, z0⟩ := open_disk (hval 0 24 v0 rfl rfl) h0
  obtain ⟨k1, R1, o1, z1⟩ := open_rec (hval 1 25 v1 rfl rfl) h1
  obtain ⟨k2, m2, D2, o2, z2⟩ := open_recs (hval 2 22 v2 rfl rfl) h2
  obtain ⟨a3, rfl, w3⟩ := open_i (hval 3 3 v3 rfl rfl) h3
  obtain ⟨a4, rfl, w4⟩ := open_i (hval 4 3 v4 rfl rfl) h4
  clear hA0 hval0
  refine (law9 k0 m0 D0 o0.1 o0.2.1 o0.2.2 k2 m2 D2 (recs_reach (j := 2) hsz rfl rfl h2 z2) o2.2.1 o2.2.2 k1 R1 o1.1 o1.2 a3 w3 a4 w4 W (Zw W) #[v0, v1, v2, .int .i64 a3, .int .i64 a4] (fun _ h => h) ⟨z0, z1, z2, Rd.g _ rfl, Rd.g _ rfl, trivial⟩).mono fun e W' ⟨v, he, bel, hv⟩ => ?_
  obtain rfl : v = .bool true := rd_g hv
  subst he
  exact ⟨_, rfl, _, _, _, [], _, [], hW', trodAll_mk1 (shut_bool Try.underlying4 _), ((trodAll_cons_mk (Below.trod laidOut (by kernel_rfl) (of_decide_eq_true (by kernel_rfl)) h0 bel lt0) (trodAll_cons_mk (Below.trod laidOut (by kernel_rfl) (of_decide_eq_true (by kernel_rfl)) h1 bel lt1) (trodAll_cons_mk (Below.trod laidOut (by kernel_rfl) (of_decide_eq_true (by kernel_rfl)) h2 bel lt2) (trodAll_cons_mk (Below.trod laidOut (by kernel_rfl) (of_decide_eq_true (by kernel_rfl)) h3 bel lt3) (trodAll_cons_mk (Below.trod laidOut (by kernel_rfl) (of_decide_eq_true (by kernel_rfl)) h4 bel lt4) trodAll_mk0)))))), rfl, bel.frame _, fun h => by cases h⟩

theorem over : Rows.diskForwardRow.holds Try.pinned (OpenSpec.ofChange Rows.diskForwardSpec) :=
  OpenClaim.holds_of_wide 9 Try.f9 rfl rfl rfl rfl rfl rfl rfl ⟨rfl, rfl, rfl, rfl, rfl⟩ rfl rfl rfl rfl rfl (by kernel_rfl) Try.func9 (by kernel_rfl)
    (of_decide_eq_true (by kernel_rfl)) (by unfold Func.isWrapper; first | (rw [if_pos (by decide +kernel)]; kernel_rfl) | (rw [if_neg (by decide +kernel)]; exact ⟨rfl, rfl⟩))
    (fun os started H enc _ => lifted os started H enc)

end Go.Proofs.Ytifoncmlelinjaa.diskForwardRow
namespace Go.Proofs.Ytifoncmlelinjaa
theorem diskForward_holds : Rows.DiskForwardSaid := diskForwardRow.over
end Go.Proofs.Ytifoncmlelinjaa
