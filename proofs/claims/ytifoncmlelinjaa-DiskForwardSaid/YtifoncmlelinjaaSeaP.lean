/- Loops whose states are told by lists of slots and blocks. -/
import Derived.Test.YtifoncmlelinjaaSeaO
set_option linter.unusedVariables false
set_option linter.unusedSimpArgs false
namespace Go.Sea
open Go.RowKit

def okB (H : List (Option (List CV))) (i : Nat) : Prop := (hget H i).isSome = true
def okL (H : List (Option (List CV))) (e : List (Nat × AV)) : List (Nat × AV) → Prop
  | [] => True
  | (k, v) :: r => ((lk e k = v ∧ v.ok (okB H)) ∨ nilA (lk e k) v) ∧ okL H e r
theorem okL_E {H : List (Option (List CV))} {e : List (Nat × AV)} : ∀ {r : List (Nat × AV)}, okL H e r → okE H e r
  | [], _ => fun p hp => by cases hp
  | (k, v) :: r, ⟨h1, h2⟩ => fun p hp => by
    rcases List.mem_cons.1 hp with rfl | hp
    · exact h1
    · exact okL_E h2 p hp
def okGL (H : List (Option (List CV))) (g : List (Nat × List (Nat × AV))) : List (Nat × List (Nat × AV)) → Prop
  | [] => True
  | (f, e) :: r => okL H (gf g f) e ∧ okGL H g r
theorem okGL_E {H : List (Option (List CV))} {g : List (Nat × List (Nat × AV))} : ∀ {G : List (Nat × List (Nat × AV))}, okGL H g G → ∀ f, okE H (gf g f) (gf G f)
  | [], _, f => fun p hp => by cases hp
  | (k, e) :: r, ⟨h1, h2⟩, f => by
    simp only [gf]
    split
    · rename_i h; subst h; exact okL_E h1
    · exact okGL_E h2 f
theorem Weak.lit {s : AS} {N : Nat} {E : List (Nat × AV)} {H : List (Option (List CV))} {G : List (Nat × List (Nat × AV))} {lp : LP} (hN : N = s.N) (hl : lp = s.lp) (hg : okGL H s.gh G) (h1 : okL H s.env E) (h2 : wkH (okB H) s.heap H) : Weak s ⟨E, H, N, G, lp⟩ :=
  Weak.of hN (okGL_E hg) hl (okL_E h1) h2
/-- A loop: slots E, waiting frames' slots G, blocks H. -/
theorem AW_loopG {P : Program} {s : AS} {Q : Exit → AS → Prop} {c : Code} {ι : Type} (E : ι → List (Nat × AV)) (G : ι → List (Nat × List (Nat × AV))) (H : ι → List (Option (List CV))) (I : ι → Prop) (μ : ι → Nat) (i0 : ι) {N : Nat} {lp : LP} (hN : N = s.N) (hl : lp = s.lp)
    (hg : okGL (H i0) s.gh (G i0)) (h1 : okL (H i0) s.env (E i0)) (h2 : wkH (okB (H i0)) s.heap (H i0)) (hi : I i0)
    (round : ∀ i, I i → AW P c ⟨E i, H i, N, G i, lp⟩ (thenA (fun s' => N = s'.N ∧ lp = s'.lp ∧ ∃ j, I j ∧ μ j < μ i ∧ okGL (H j) s'.gh (G j) ∧ okL (H j) s'.env (E j) ∧ wkH (okB (H j)) s'.heap (H j)) Q)) : AW P (.loop c) s Q := by
  refine AW_loop (fun n s => ∃ i, I i ∧ n = μ i ∧ s = ⟨E i, H i, N, G i, lp⟩) (μ i0) ⟨_, Weak.lit hN hl hg h1 h2, i0, hi, rfl, rfl⟩ ?_
  rintro n s ⟨i, hI, rfl, rfl⟩
  refine (round i hI).mono fun e s' h => ?_
  cases e with
  | normal =>
    obtain ⟨g1, g2, j, g3, g4, g5, g6, g7⟩ := h
    exact ⟨μ j, _, g4, Weak.lit g1 g2 g5 g6 g7, j, g3, rfl, rfl⟩
  | _ => exact h
theorem AW_loopL {P : Program} {s : AS} {Q : Exit → AS → Prop} {c : Code} {ι : Type} (E : ι → List (Nat × AV)) (H : ι → List (Option (List CV))) (I : ι → Prop) (μ : ι → Nat) (i0 : ι) {N : Nat} (hN : N = s.N) (hl : LP.top = s.lp)
    (h1 : okL (H i0) s.env (E i0)) (h2 : wkH (okB (H i0)) s.heap (H i0)) (hi : I i0)
    (round : ∀ i, I i → AW P c ⟨E i, H i, N, [], .top⟩ (thenA (fun s' => N = s'.N ∧ LP.top = s'.lp ∧ ∃ j, I j ∧ μ j < μ i ∧ okL (H j) s'.env (E j) ∧ wkH (okB (H j)) s'.heap (H j)) Q)) : AW P (.loop c) s Q :=
  AW_loopG E (fun _ => []) H I μ i0 hN hl trivial h1 h2 hi fun i hI => (round i hI).mono fun e s' h => by
    cases e with
    | normal =>
      obtain ⟨g1, g2, j, g3, g4, g5, g6⟩ := h
      exact ⟨g1, g2, j, g3, g4, trivial, g5, g6⟩
    | _ => exact h
def keepE (e : List (Nat × AV)) : List Nat → List (Nat × AV)
  | [] => []
  | t :: U => (t, lk e t) :: keepE e U
def hupd (h : List (Option (List CV))) : List (Nat × List CV) → List (Option (List CV))
  | [] => h
  | (i, cs) :: r => hset (hupd h r) i cs
/-- What holds where a loop goes on. -/
def nextL {ι : Type} (N : Nat) (lp : LP) (g : List (Nat × List (Nat × AV))) (C : ι → List (Nat × AV)) (HC : ι → List (Nat × List CV)) (I : ι → Prop) (μ : ι → Nat) (e : List (Nat × AV)) (h : List (Option (List CV))) (U : List Nat) (i j : ι) (s' : AS) : Prop :=
  N = s'.N ∧ lp = s'.lp ∧ g = s'.gh ∧ I j ∧ μ j < μ i ∧ okL (hupd h (HC j)) s'.env (C j ++ keepE e U) ∧ wkH (okB (hupd h (HC j))) s'.heap (hupd h (HC j))
def okG (H : List (Option (List CV))) : List (Nat × List (Nat × AV)) → Prop
  | [] => True
  | (_, e) :: r => okL H e e ∧ okG H r
/-- A loop: the slots C and the blocks HC turn from round to round; the slots U stay as they are; all others are forgotten. -/
theorem AW_loopC {P : Program} {s : AS} {Q : Exit → AS → Prop} {c : Code} {ι : Type} (U : List Nat) (C : ι → List (Nat × AV)) (HC : ι → List (Nat × List CV)) (I : ι → Prop) (μ : ι → Nat) (i0 : ι)
    (hg : ∀ i, I i → okGL (hupd s.heap (HC i)) s.gh s.gh)
    (h1 : okL (hupd s.heap (HC i0)) s.env (C i0 ++ keepE s.env U)) (h2 : wkH (okB (hupd s.heap (HC i0))) s.heap (hupd s.heap (HC i0))) (hi : I i0)
    (round : ∀ i, I i → ∀ K : AS → Prop, (∀ s' j, nextL s.N s.lp s.gh C HC I μ s.env s.heap U i j s' → K s') → AW P c ⟨C i ++ keepE s.env U, hupd s.heap (HC i), s.N, s.gh, s.lp⟩ (thenA K Q)) : AW P (.loop c) s Q := by
  refine AW_loopG (fun i => C i ++ keepE s.env U) (fun _ => s.gh) (fun i => hupd s.heap (HC i)) I μ i0 rfl rfl (hg i0 hi) h1 h2 hi fun i hI => ?_
  refine round i hI _ fun s' j h => ?_
  obtain ⟨g1, g2, g3, g4, g5, g6, g7⟩ := h
  exact ⟨g1, g2, j, g4, g5, g3 ▸ hg j g4, g6, g7⟩
theorem all_succ {p : Nat → Prop} {k : Nat} (h : ∀ i, i < k → p i) (h' : p k) : ∀ i, i < k + 1 → p i := fun i hi => by
  by_cases e : i = k
  · subst e; exact h'
  · exact h i (by omega)
theorem lk_keepE (e : List (Nat × AV)) (t : Nat) : ∀ U : List Nat, lk (keepE e U) t = .any ∨ lk (keepE e U) t = lk e t
  | [] => Or.inl rfl
  | u :: U => by
    simp only [keepE, lk]
    split
    · rename_i h; subst h; exact Or.inr rfl
    · exact lk_keepE e t U
/-- The slots U alone are kept. -/
theorem AW_prune {P : Program} {s : AS} {Q : Exit → AS → Prop} {c : Code} (U : List Nat) (h : AW P c ⟨keepE s.env U, s.heap, s.N, s.gh, s.lp⟩ Q) : AW P c s Q := fun w0 Z0 a w n ⟨J, Z, R⟩ =>
  h w0 Z0 a w n ⟨J, Z, R.nodef, R.size, R.below, R.zfrom, R.zlt, R.jlt, R.inj, R.hole, R.cells, fun t => by
    rcases lk_keepE s.env t U with e | e
    · show ARel _ _ _ _ (lk (keepE s.env U) t); rw [e]; trivial
    · show ARel _ _ _ _ (lk (keepE s.env U) t); rw [e]; exact R.slots t, R.ghost, R.loops, R.lnd, R.ro⟩
theorem AW_regionP {P : Program} {s : AS} {Q : Exit → AS → Prop} (id : Nat) (U : List Nat) {ops : Array Oper} (h : arun P (ops.toList.map (·.dst)) ops.toList ⟨keepE s.env U, s.heap, s.N, s.gh, s.lp⟩ fun s' => Q .normal s') : AW P (.region id ops false) s Q := AW_prune U (AW_region h)
theorem seaNat1 (k : Nat) : ((k : Int) - 1).toNat = k - 1 := by omega
theorem seaNat2 (k : Nat) : ((k : Int) + 1).toNat = k + 1 := by omega
/-- A goal that the walk leaves alone. -/
structure Stuck (p : Prop) : Prop where
  out : p
theorem seaMin (m n : Int) : (if n < m then n else m) = min m n := by
  rw [Int.min_def]; split <;> split <;> omega
theorem seaMax (m n : Int) : (if n > m then n else m) = max m n := by
  rw [Int.max_def]; split <;> split <;> omega
end Go.Sea
