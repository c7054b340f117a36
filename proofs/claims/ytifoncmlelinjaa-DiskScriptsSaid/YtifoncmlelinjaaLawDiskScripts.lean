/- DiskScripts: for every input the law's call returns true, and every argument reads as it did. No condition. -/
import Derived.Test.YtifoncmlelinjaaAB
import Derived.Test.YtifoncmlelinjaaV
import Derived.ProofKit
import Derived.OpenShut
import Derived.ChangeOld
import Derived.Below
set_option linter.unusedVariables false
set_option linter.unusedSimpArgs false
namespace Go.Proofs.Ytifoncmlelinjaa
open Go.ChangeShapes Go.WideShapes Go.ChangeAt Go.RowKit Go.Joins Go.Deep Go.Sea
section
variable {H : Type} {enc : TypeId × Value → H} {w : World} {base : Nat} {spare : Nat → Bool} {held : Bool} {r : Reach} {b0 : Nat} {v : Value} {d : DataW H} {p : List MemPlace}
theorem cells49 : Try.prog.cellsOf 49 = 1 := by kernel_rfl
abbrev U16K : Type := {z : Int // 0 ≤ z ∧ z < 65536}
instance : Inhabited U16K := ⟨⟨0, by decide, by decide⟩⟩
theorem u16_cell {n : Nat} {cs : List Value} {y : DataW H × List MemPlace} (h : DataW.trod enc Try.prog w base spare held n 49 cs = some y) (hl : cs.length = 1) : ∃ z : U16K, ∀ (o : Nat) v, cs[o]? = some v → Rd w (Zw w) v (.g (.int .u16 z.1)) := by
  obtain ⟨z, e, _, wx⟩ := DataW.trod_int Try.underlying49 h
  subst e
  refine ⟨⟨z, ?_⟩, fun o v hv => ?_⟩
  · simp [Lit.wf, IntKind.min, IntKind.max, IntKind.signed, IntKind.bits] at wx
    omega
  · rcases o with _ | o
    · simp at hv; subst hv; exact .g _ rfl
    · simp at hv
set_option maxRecDepth 100000 in
theorem open_u16s (hv : Value.okWide Try.prog w r b0 48 v) (h : DataW.Trod enc Try.prog w base spare held 48 v d p) : ∃ (k : Nat) (R : Nat → Int), (k ≤ 9223372036854775807 ∧ ∀ i, 0 ≤ R i ∧ R i < 65536) ∧ PTRel w (Zw w) v (.one (.lst 1 k fun i _ => .g (.int .u16 (R i)))) := by
  obtain ⟨p0, len, cap, rfl⟩ := okWide_slice Try.underlying48 hv
  obtain ⟨fuel, hf⟩ := h
  obtain ⟨k, Z, hk, hr⟩ := rd_slice Try.underlying48 cells49 (by omega) (fun (z : U16K) _ => .g (.int .u16 z.1)) (fun n cs y h hl => u16_cell h hl) (c := .slice p0 len cap) (by simpa [Value.cells] using hf)
  exact ⟨k, fun i => (Z i).1, ⟨hk, fun i => (Z i).2⟩, hr⟩
end
end Go.Proofs.Ytifoncmlelinjaa
namespace Go.Proofs.Ytifoncmlelinjaa.diskScriptsRow
open Go.Proofs.Ytifoncmlelinjaa Go.Sea Go.ChangeShapes Go.WideShapes Go.ChangeAt Go.RowKit

theorem own : ownKnob Try.prog.godebug = none := by kernel_rfl
theorem laidOut : laidOutB Try.prog = true := by kernel_rfl

set_option maxRecDepth 100000 in
theorem lifted (os : Os) (started : os.Started) (H : Type) (enc : TypeId × Value → H) :
    ReturnsInHanded {} Try.checked os 7 .any (Rows.diskScriptsSpec.pre6 enc Try.prog Try.f7 Rows.diskScriptsRow.domain false) (Rows.diskScriptsSpec.post enc Try.prog Try.f7 false true false false) := by
  refine returnsInHanded_of_change (C := Try.checked) own started (by kernel_rfl) Try.func7
    (ChangeSpec.witness6 (enc := enc) (C := Try.checked) false ⟨#[], #[.int .i64 0, .slice none 0 0, .slice none 0 0, .slice none 0 0], []⟩ 8 (by kernel_rfl) (by kernel_rfl) (by kernel_rfl) (by kernel_rfl)) ?_
  intro W base args ds gs before hval0 hW hcnd _
  have hval : ∀ (j : Nat) t v, Try.f7.params[j]? = some t → args[j]? = some v → Value.okWide Try.prog W .any base t v := hval0
  have hW' := hW
  obtain ⟨p, q, hA0, hV, rfl, hfz, hnd⟩ := hW
  have hA : DataW.TrodAll enc Try.prog W 0 (fun _ => true) true Try.f7.params.toList args.toList ds p := hA0
  rw [Try.params7] at hA hval
  obtain ⟨v0, vs0, d0, ds0, p0, q0, hargs, rfl, rfl, h0, r0⟩ := trodAll_cons hA
  obtain ⟨v1, vs1, d1, ds1, p1, q1, rfl, rfl, rfl, h1, r1⟩ := trodAll_cons r0
  obtain ⟨v2, vs2, d2, ds2, p2, q2, rfl, rfl, rfl, h2, r2⟩ := trodAll_cons r1
  obtain ⟨v3, vs3, d3, ds3, p3, q3, rfl, rfl, rfl, h3, r3⟩ := trodAll_cons r2
  obtain ⟨rfl, rfl, rfl⟩ := trodAll_nil r3
  obtain rfl : args = #[v0, v1, v2, v3] := by cases args; simp_all
  obtain ⟨rfl, rfl⟩ := trodVars_none hV
  have lt0 : ∀ x ∈ p0, x.block < W.heap.size := by obtain ⟨m, hm⟩ := h0; exact DataW.trod_lt m _ _ _ hm
  have lt1 : ∀ x ∈ p1, x.block < W.heap.size := by obtain ⟨m, hm⟩ := h1; exact DataW.trod_lt m _ _ _ hm
  have lt2 : ∀ x ∈ p2, x.block < W.heap.size := by obtain ⟨m, hm⟩ := h2; exact DataW.trod_lt m _ _ _ hm
  have lt3 : ∀ x ∈ p3, x.block < W.heap.size := by obtain ⟨m, hm⟩ := h3; exact DataW.trod_lt m _ _ _ hm
  obtain ⟨a0, rfl, w0⟩ := open_i (hval 0 3 v0 rfl rfl) h0
  obtain ⟨k1, m1, D1, o1, z1⟩ := open_recs (hval 1 22 v1 rfl rfl) h1
  obtain ⟨k2, R2, o2, z2⟩ := open_rec (hval 2 25 v2 rfl rfl) h2
  obtain ⟨k3, R3, o3, z3⟩ := open_u16s (hval 3 48 v3 rfl rfl) h3
  clear hA0 hval0
  refine (law7 a0 w0 k1 m1 D1 o1.1 o1.2.1 o1.2.2 k2 R2 o2.1 o2.2 k3 R3 o3.1 o3.2 W (Zw W) #[.int .i64 a0, v1, v2, v3] (fun _ h => h) ⟨Rd.g _ rfl, z1, z2, z3, trivial⟩).mono fun e W' ⟨v, he, bel, hv⟩ => ?_
  obtain rfl : v = .bool true := rd_g hv
  subst he
  exact ⟨_, rfl, _, _, _, [], _, [], hW', trodAll_mk1 (shut_bool Try.underlying4 _), ((trodAll_cons_mk (Below.trod laidOut (by kernel_rfl) (of_decide_eq_true (by kernel_rfl)) h0 bel lt0) (trodAll_cons_mk (Below.trod laidOut (by kernel_rfl) (of_decide_eq_true (by kernel_rfl)) h1 bel lt1) (trodAll_cons_mk (Below.trod laidOut (by kernel_rfl) (of_decide_eq_true (by kernel_rfl)) h2 bel lt2) (trodAll_cons_mk (Below.trod laidOut (by kernel_rfl) (of_decide_eq_true (by kernel_rfl)) h3 bel lt3) trodAll_mk0))))), rfl, bel.frame _, fun h => by cases h⟩

theorem over : Rows.diskScriptsRow.holds Try.pinned (OpenSpec.ofChange Rows.diskScriptsSpec) :=
  OpenClaim.holds_of_wide 7 Try.f7 rfl rfl rfl rfl rfl rfl rfl ⟨rfl, rfl, rfl, rfl, rfl⟩ rfl rfl rfl rfl rfl (by kernel_rfl) Try.func7 (by kernel_rfl)
    (of_decide_eq_true (by kernel_rfl)) (by unfold Func.isWrapper; first | (rw [if_pos (by decide +kernel)]; kernel_rfl) | (rw [if_neg (by decide +kernel)]; exact ⟨rfl, rfl⟩))
    (fun os started H enc _ => lifted os started H enc)

end Go.Proofs.Ytifoncmlelinjaa.diskScriptsRow
namespace Go.Proofs.Ytifoncmlelinjaa
theorem diskScripts_holds : Rows.DiskScriptsSaid := diskScriptsRow.over
end Go.Proofs.Ytifoncmlelinjaa
