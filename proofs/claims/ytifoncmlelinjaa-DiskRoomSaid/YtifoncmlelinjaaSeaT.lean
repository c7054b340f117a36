/- More operations in the walk: shifts. -/
import Derived.Test.YtifoncmlelinjaaSeaS
set_option linter.unusedVariables false
set_option linter.unusedSimpArgs false
namespace Go.Sea
open Go.RowKit
section
variable {P : Program} {gs : List (Option Nat)} {d : Option Tmp} {t t' : TypeId} {x y : Operand} {ty : TypeId} {pos : String} {aft : Array Edge} {g : Option (Nat × Bool)} {os : List Oper} {s : AS} {K : AS → Prop} {k k' : IntKind} {m n : Int}
theorem callK_shr (hx : s.ev x = iA k m) (hy : s.ev y = iA k' n) (hn : 0 ≤ n) (h : arun P gs os (s.put d (iA k (m.fdiv (2 ^ (min n.toNat k.bits))))) K) : callK P gs ⟨d, .binOp .shr t x y t', ty, pos, aft, g⟩ os s K := by
  refine Or.inl ?_
  unfold callF0
  refine ⟨rfl, ?_, .int k (m.fdiv (2 ^ (min n.toNat k.bits))), fun w => ?_, ?_⟩
  · simp [Op.operands, gv, hx, hy]
  · simp [execOp, gρ, gv, hx, hy, binOp, eqGuard, Op.shift, Int.not_lt.2 hn]
  · exact h
end
theorem seaNat3 (k : Nat) : ((k : Int) - 1 - 1).toNat = k - 2 := by omega
theorem seaWrapU {n : Int} (h1 : 0 ≤ n) (h2 : n ≤ 18446744073709551615) : IntKind.u64.wrap n = n := by
  unfold IntKind.wrap IntKind.signed IntKind.bits
  simp only
  split <;> simp_all <;> omega
/-- A loop over a function, its own code behind names. -/
theorem AW_rangeFuncH {P : Program} {s : AS} {Q : Exit → AS → Prop} {g : Operand} {ps : Array Tmp} {asg body c : Code} {k : FuncId} {m : List LV} {fn : Func} (hg : iterF (s.ev g) = some (k, m)) (hf : P.funcs[k]? = some fn) (hb : fn.body = some c) (hk : fnOk P k = true)
    (hl : m.length + 1 ≤ fn.ntmps) (hro : inLs s.lp.ls s.lp.ro) (hls : lsF s.lp.ls s.lp.fr)
    (h : ∀ l, (∀ x, x ∈ s.lp.ls → x.l ≠ l) → ∀ A B : Code, A = asg → B = body → AW P c ⟨argEnv (yV l :: m.map LV.tv) 0, s.heap, fn.ntmps, (s.lp.fr, s.env) :: s.gh, ⟨⟨l, .ready, none, s.lp.fr, s.N, ps.toList, A, B⟩ :: s.lp.ls, s.lp.fr + 1, none⟩⟩ (loopQ l s.lp.fr s.N s.lp fn Q)) :
    AW P (.rangeFunc g ps asg body) s Q := AW_rangeFunc hg hf hb hk hl hro hls fun l hl' => h l hl' asg body rfl rfl
theorem AW_eq {P : Program} {s : AS} {Q : Exit → AS → Prop} {A c : Code} (e : A = c) (h : AW P c s Q) : AW P A s Q := e ▸ h
end Go.Sea
