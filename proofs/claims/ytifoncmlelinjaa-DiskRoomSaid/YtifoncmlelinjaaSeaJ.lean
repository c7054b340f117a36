/- An own block that is never turned again is read by value from then on. -/
import Derived.Test.YtifoncmlelinjaaSeaB
set_option linter.unusedVariables false
set_option linter.unusedSimpArgs false
namespace Go.Sea
open Go.RowKit
def civ : CV → IV
  | .iv c => c
  | _ => .g undef
def isIv : CV → Prop
  | .iv _ => True
  | _ => False
def frzC (i : Nat) (cs : List CV) : CV → CV
  | .slc j off n E => if j = i then (if off + n * E ≤ cs.length then .iv (.lst E n fun p o => civ (cs.getD (off + p * E + o) .any)) else .any) else .slc j off n E
  | .ptr j o => if j = i then (if o < cs.length then .ip (cs.length - o) (fun k => civ (cs.getD (o + k) .any)) else .any) else .ptr j o
  | .fn f a b => if (CV.fn f a b).has i = true then .any else .fn f a b
  | c => c
def frzT (i : Nat) (cs : List CV) : TV → TV
  | .one c => .one (frzC i cs c)
  | .agg l => .agg (l.map (frzC i cs))
def frzA (i : Nat) (cs : List CV) : AV → AV
  | .t x => .t (frzT i cs x)
  | .tup l => .tup (l.map (frzT i cs))
  | .mb b x => .mb b (frzT i cs x)
  | .any => .any
def frzE (i : Nat) (cs : List CV) (env : List (Nat × AV)) : List (Nat × AV) := env.map fun p => (p.1, frzA i cs p.2)
def frzG (i : Nat) (cs : List CV) (g : List (Nat × List (Nat × AV))) : List (Nat × List (Nat × AV)) := g.map fun p => (p.1, frzE i cs p.2)
def frzH (i : Nat) (cs : List CV) (h : List (Option (List CV))) : List (Option (List CV)) := h.map fun o => o.map (List.map (frzC i cs))
def hdel : List (Option (List CV)) → Nat → List (Option (List CV))
  | [], _ => []
  | _ :: h, 0 => none :: h
  | x :: h, i + 1 => x :: hdel h i
theorem hget_hdel : ∀ (h : List (Option (List CV))) (i k : Nat), hget (hdel h i) k = if k = i then none else hget h k
  | [], i, k => by simp [hdel, hget]
  | x :: h, 0, 0 => by simp [hdel, hget]
  | x :: h, 0, k + 1 => by simp [hdel, hget]
  | x :: h, i + 1, 0 => by simp [hdel, hget]
  | x :: h, i + 1, k + 1 => by
    have := hget_hdel h i k
    simpa [hdel, hget] using this
/-- The block i, of the cells cs, is read by value. -/
def AS.frzW (i : Nat) (cs : List CV) (s : AS) : AS := ⟨frzE i cs s.env, hdel (frzH i cs s.heap) i, s.N, frzG i cs s.gh, s.lp⟩
def frzOk (i : Nat) (s : AS) : Option (List CV) → Prop
  | some cs => ∀ c, c ∈ cs → isIv c
  | none => False
def AS.frz (i : Nat) (s : AS) : AS := match hget s.heap i with
  | some cs => s.frzW i cs
  | none => s
theorem lk_frz (i : Nat) (cs : List CV) (t : Nat) : ∀ env : List (Nat × AV), lk (frzE i cs env) t = frzA i cs (lk env t)
  | [] => rfl
  | (k, v) :: r => by
    simp only [frzE, List.map_cons, lk]
    split
    · rfl
    · exact lk_frz i cs t r
theorem gf_frz (i : Nat) (cs : List CV) (f : Nat) : ∀ g : List (Nat × List (Nat × AV)), gf (frzG i cs g) f = frzE i cs (gf g f)
  | [] => rfl
  | (k, v) :: r => by
    simp only [frzG, List.map_cons, gf]
    split
    · rfl
    · exact gf_frz i cs f r
theorem gk_frz (i : Nat) (cs : List CV) (f t : Nat) (g : List (Nat × List (Nat × AV))) : gk (frzG i cs g) f t = frzA i cs (gk g f t) := by
  simp only [gk, gf_frz, lk_frz]
theorem hget_frz (i : Nat) (cs : List CV) (k : Nat) (h : List (Option (List CV))) : hget (frzH i cs h) k = (hget h k).map (List.map (frzC i cs)) := by
  simp only [hget, frzH, List.getElem?_map]
  cases h[k]? <;> rfl
section
variable {w0 : World} {Z0 : Fr} {J : Nat → Option Nat} {Z : Nat → Prop} {s : AS} {a : Act} {w : World}
theorem jne {i : Nat} {l : LV} (h : l.has i = false) {v : Value} {Z' : Nat → Prop} (hz : ∀ b, Z b → Z' b) (hr : LRel w J Z v l) : LRel w (fun k => if k = i then none else J k) Z' v l := by
  cases l with
  | iv c => exact Rd.mono hr hz fun _ _ _ => rfl
  | ptr j o =>
    simp only [LV.has, beq_eq_false_iff_ne] at h
    obtain ⟨b, e, hj⟩ := hr
    exact ⟨b, e, by simp only; rw [if_neg h]; exact hj⟩
theorem CRel.frz (R : Rel w0 Z0 J Z s a w) {i : Nat} {cs : List CV} (hcs : hget s.heap i = some cs) (hiv : ∀ c, c ∈ cs → isIv c) {v : Value} {c : CV} (h : CRel w J Z v c) :
    CRel w (fun k => if k = i then none else J k) (fun b => Z b ∨ J i = some b) v (frzC i cs c) := by
  have hz : ∀ b, Z b → Z b ∨ J i = some b := fun b h => Or.inl h
  have one : ∀ bb, J i = some bb → ∀ k, k < cs.length → ∃ c1 e1, w.heap[bb]? = some (.cells c1 e1 (0, 0)) ∧ w.cell? ⟨bb, k, none⟩ = some (c1.getD k undef) ∧ Rd w (fun b => Z b ∨ J i = some b) (c1.getD k undef) (civ (cs.getD k .any)) := by
    intro bb hj k hk
    obtain ⟨b', c1, e1, g1, g2, g3⟩ := R.cells i cs hcs (by rintro rfl; simp at hk)
    obtain rfl : bb = b' := by rw [hj] at g1; exact Option.some.inj g1
    obtain ⟨u, hu, hr⟩ := g3.get (k := k) (y := cs.getD k .any) (by simp [List.getD, List.getElem?_eq_getElem hk])
    rw [List.getElem?_take, if_pos hk, Array.getElem?_toList] at hu
    have hg : c1.getD k undef = u := by simp [hu]
    refine ⟨c1, e1, g2, ?_, ?_⟩
    · rw [hg, cell_of_row w bb _ c1 e1 _ g2]; exact hu
    · rw [hg]
      have hi := hiv (cs.getD k .any) (by simp [List.getD, List.getElem?_eq_getElem hk])
      generalize cs.getD k .any = cv at hi hr
      cases cv <;> simp only [isIv] at hi
      exact Rd.mono hr hz fun _ _ _ => rfl
  cases c with
  | iv c => exact Rd.mono h hz fun _ _ _ => rfl
  | ip m c =>
    obtain ⟨b, off, X, e, z, hX⟩ := h
    exact ⟨b, off, X, e, Or.inl z, fun o ho => ⟨(hX o ho).1, Rd.mono (hX o ho).2 hz fun _ _ _ => rfl⟩⟩
  | slc j off n E =>
    simp only [frzC]
    split
    · rename_i hj
      subst hj
      split
      · rename_i hb
        rcases h with ⟨rfl, rfl⟩ | ⟨bb, cap, c', e, rfl, hj, hc1, hc2, hb', hs⟩
        · exact Rd.nil _ _ _ _
        have key : ∀ p o, p < n → o < E → off + p * E + o < cs.length := fun p o hp ho => by
          have : (p + 1) * E ≤ n * E := Nat.mul_le_mul_right _ hp
          rw [Nat.add_mul] at this
          omega
        refine Rd.lst bb off n cap E _ (fun p o => c'.getD (off + p * E + o) undef) (Or.inr hj) hc1 hc2 (fun p o hp ho => ?_) fun p o hp ho => ?_
        · obtain ⟨c1, e1, g2, g3, _⟩ := one bb hj _ (key p o hp ho)
          rw [hb'] at g2; cases g2; exact g3
        · obtain ⟨c1, e1, g2, _, g4⟩ := one bb hj _ (key p o hp ho)
          rw [hb'] at g2; cases g2; exact g4
      · exact CRel.one (c := .slc j off n E) (J := J) (Z := Z) (w := w) h
    · rename_i hj
      rcases h with h | ⟨bb, cap, c', e, e1, hj', r⟩
      · exact Or.inl h
      · exact Or.inr ⟨bb, cap, c', e, e1, by simp only; rw [if_neg hj]; exact hj', r⟩
  | ptr j o =>
    simp only [frzC]
    split
    · rename_i hj
      subst hj
      split
      · rename_i hb
        obtain ⟨bb, rfl, hj⟩ := h
        obtain ⟨c0, e0, g0, _, _⟩ := one bb hj o hb
        refine ⟨bb, o, fun k => c0.getD (o + k) undef, rfl, Or.inr hj, fun k hk => ?_⟩
        obtain ⟨c1, e1, g2, g3, g4⟩ := one bb hj (o + k) (by omega)
        rw [g0] at g2; cases g2
        exact ⟨g3, g4⟩
      · exact CRel.one (c := .ptr j o) (J := J) (Z := Z) (w := w) h
    · rename_i hj
      obtain ⟨bb, e, hj'⟩ := h
      exact ⟨bb, e, by simp only; rw [if_neg hj]; exact hj'⟩
  | fn f x y =>
    simp only [frzC]
    split
    · exact CRel.one (c := .fn f x y) (J := J) (Z := Z) (w := w) h
    · rename_i hh
      simp only [CV.has, Bool.or_eq_true, not_or, Bool.not_eq_true, List.any_eq_false] at hh
      obtain ⟨A, B, e, h1, h2⟩ := h
      exact ⟨A, B, e, h1.mono' fun u l hl hr => jne (by simpa using hh.1 l hl) hz hr, h2.mono' fun u l hl hr => jne (by simpa using hh.2 l hl) hz hr⟩
  | any => exact h
theorem TRel.frz (R : Rel w0 Z0 J Z s a w) {i : Nat} {cs : List CV} (hcs : hget s.heap i = some cs) (hiv : ∀ c, c ∈ cs → isIv c) {v : Value} {x : TV} (h : TRel w J Z v x) :
    TRel w (fun k => if k = i then none else J k) (fun b => Z b ∨ J i = some b) v (frzT i cs x) := by
  cases x with
  | one c => exact CRel.frz R hcs hiv h
  | agg l => obtain ⟨A, e, h⟩ := h; exact ⟨A, e, All2.map_right.2 (h.mono fun _ _ => CRel.frz R hcs hiv)⟩
theorem ARel.frz (R : Rel w0 Z0 J Z s a w) {i : Nat} {cs : List CV} (hcs : hget s.heap i = some cs) (hiv : ∀ c, c ∈ cs → isIv c) {v : Value} {x : AV} (h : ARel w J Z v x) :
    ARel w (fun k => if k = i then none else J k) (fun b => Z b ∨ J i = some b) v (frzA i cs x) := by
  cases x with
  | t x => exact TRel.frz R hcs hiv h
  | tup l => obtain ⟨A, e, h⟩ := h; exact ⟨A, e, All2.map_right.2 (h.mono fun _ _ => TRel.frz R hcs hiv)⟩
  | mb b x => exact ⟨fun hb => TRel.frz R hcs hiv (h.1 hb), h.2⟩
  | any => trivial
theorem Rel.frz (R : Rel w0 Z0 J Z s a w) {i : Nat} (hok : frzOk i s (hget s.heap i)) : Rel w0 Z0 (fun k => if k = i then none else J k) (fun b => Z b ∨ J i = some b) (s.frz i) a w := by
  unfold frzOk at hok
  unfold AS.frz
  split at hok
  · rename_i cs hcs
    have sub : ∀ k b, (if k = i then none else J k) = some b → k ≠ i ∧ J k = some b := fun k b h => by
      split at h
      · cases h
      · rename_i hk; exact ⟨hk, h⟩
    refine ⟨R.nodef, R.size, R.below, fun b h => ?_, fun b h => ?_, fun k b h => ?_, fun k j b hk hj => ?_, fun k h => ?_, fun k ds h hne => ?_, fun t => ?_, fun f t => ?_, R.loops, R.lnd, R.ro⟩
    · rcases h with h | h
      · exact R.zfrom b h
      · exact Or.inr (R.jlt i b h).1
    · rcases h with h | h
      · exact R.zlt b h
      · exact (R.jlt i b h).2.1
    · obtain ⟨hk, h⟩ := sub k b h
      have := R.jlt k b h
      exact ⟨this.1, this.2.1, fun hz => by
        rcases hz with hz | hz
        · exact this.2.2 hz
        · exact hk (R.inj k i b h hz)⟩
    · exact R.inj k j b (sub k b hk).2 (sub j b hj).2
    · simp only [AS.frzW, hget_hdel] at h
      by_cases hk : k = i
      · simp [hk]
      · rw [if_neg hk] at h ⊢
        rw [hget_frz, Option.map_eq_none_iff] at h
        exact R.hole k h
    · simp only [AS.frzW, hget_hdel] at h
      by_cases hk : k = i
      · simp [hk] at h
      · rw [if_neg hk, hget_frz, Option.map_eq_some_iff] at h
        obtain ⟨ds0, h, rfl⟩ := h
        obtain ⟨b, c, e, g1, g2, g3⟩ := R.cells k ds0 h (by rintro rfl; exact hne rfl)
        refine ⟨b, c, e, by rw [if_neg hk]; exact g1, g2, ?_⟩
        rw [List.length_map]
        exact All2.map_right.2 (g3.mono fun _ _ => CRel.frz R hcs hok)
    · show ARel _ _ _ _ (lk (frzE i cs s.env) t)
      rw [lk_frz]; exact ARel.frz R hcs hok (R.slots t)
    · show ARel _ _ _ _ (gk (frzG i cs s.gh) f t)
      rw [gk_frz]; exact ARel.frz R hcs hok (R.ghost f t)
  · exact hok.elim
theorem Rep.frz (h : Rep w0 Z0 s a w) {i : Nat} (hok : frzOk i s (hget s.heap i)) : Rep w0 Z0 (s.frz i) a w := by
  obtain ⟨J, Z, R⟩ := h
  exact ⟨_, _, R.frz hok⟩
def frzsOk : List Nat → AS → Prop
  | [], _ => True
  | i :: L, s => frzOk i s (hget s.heap i) ∧ frzsOk L (s.frz i)
def frzs : List Nat → AS → AS
  | [], s => s
  | i :: L, s => frzs L (s.frz i)
theorem frz_N (i : Nat) (s : AS) : (s.frz i).N = s.N := by unfold AS.frz; split <;> rfl
theorem frzs_N : ∀ (L : List Nat) (s : AS), (frzs L s).N = s.N
  | [], _ => rfl
  | i :: L, s => (frzs_N L _).trans (frz_N i s)
theorem frz_lp (i : Nat) (s : AS) : (s.frz i).lp = s.lp := by unfold AS.frz; split <;> rfl
theorem frzs_lp : ∀ (L : List Nat) (s : AS), (frzs L s).lp = s.lp
  | [], _ => rfl
  | i :: L, s => (frzs_lp L _).trans (frz_lp i s)
theorem Rep.frzs : ∀ (L : List Nat) {s : AS} {a : Act} {w : World}, Rep w0 Z0 s a w → frzsOk L s → Rep w0 Z0 (frzs L s) a w
  | [], _, _, _, h, _ => h
  | i :: L, _, _, _, h, ⟨h1, h2⟩ => Rep.frzs L (h.frz h1) h2
end
end Go.Sea
