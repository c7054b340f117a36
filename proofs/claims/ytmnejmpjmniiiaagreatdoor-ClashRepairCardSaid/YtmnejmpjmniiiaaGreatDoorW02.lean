/- Part 2 of 16: contracts of functions and plain laws for the root text. No condition. -/
import Derived.Test.YtmnejmpjmniiiaaGreatDoorW01
import Derived.Laws.StructEq
import Derived.ChangeKeysEq
set_option linter.unusedVariables false
set_option linter.unusedSimpArgs false
namespace Go.Sea
open Go.RowKit
def civ : CV → IV
  | .iv c => c
  | _ => .g undef
def isIv : CV → Prop
  | .iv _ => True
  | _ => False
def frzC (i : Nat) (cs : List CV) : CV → CV
  | .slc j off n E => if j = i then (if off + n * E ≤ cs.length then .iv (.lst E n fun p o => civ (cs.getD (off + p * E + o) .any)) else .any) else .slc j off n E
  | .ptr j o => if j = i then (if o < cs.length then .ip (cs.length - o) (fun k => civ (cs.getD (o + k) .any)) else .any) else .ptr j o
  | .fn f a b => if (CV.fn f a b).has i = true then .any else .fn f a b
  | .mp j => if j = i then .any else .mp j
  | .it j => if j = i then .any else .it j
  | .ml l => if (CV.ml l).has i = true then .any else .ml l
  | .mt j c p q => if j = i then .any else .mt j c p q
  | c => c
def frzT (i : Nat) (cs : List CV) : TV → TV
  | .one c => .one (frzC i cs c)
  | .agg l => .agg (l.map (frzC i cs))
def frzA (i : Nat) (cs : List CV) : AV → AV
  | .t x => .t (frzT i cs x)
  | .tup l => .tup (l.map (frzT i cs))
  | .mb b x => .mb b (frzT i cs x)
  | .any => .any
def frzE (i : Nat) (cs : List CV) (env : List (Nat × AV)) : List (Nat × AV) := env.map fun p => (p.1, frzA i cs p.2)
def frzG (i : Nat) (cs : List CV) (g : List (Nat × List (Nat × AV))) : List (Nat × List (Nat × AV)) := g.map fun p => (p.1, frzE i cs p.2)
def frzH (i : Nat) (cs : List CV) (h : List (Option (List CV))) : List (Option (List CV)) := h.map fun o => o.map (List.map (frzC i cs))
def hdel : List (Option (List CV)) → Nat → List (Option (List CV))
  | [], _ => []
  | _ :: h, 0 => none :: h
  | x :: h, i + 1 => x :: hdel h i
theorem hget_hdel : ∀ (h : List (Option (List CV))) (i k : Nat), hget (hdel h i) k = if k = i then none else hget h k
  | [], i, k => by simp [hdel, hget]
  | x :: h, 0, 0 => by simp [hdel, hget]
  | x :: h, 0, k + 1 => by simp [hdel, hget]
  | x :: h, i + 1, 0 => by simp [hdel, hget]
  | x :: h, i + 1, k + 1 => by
    have := hget_hdel h i k
    simpa [hdel, hget] using this
def AS.frzW (i : Nat) (cs : List CV) (s : AS) : AS := ⟨frzE i cs s.env, hdel (frzH i cs s.heap) i, s.N, frzG i cs s.gh, s.lp⟩
def frzOk (i : Nat) (s : AS) : Option (List CV) → Prop
  | some cs => ∀ c, c ∈ cs → isIv c
  | none => False
def AS.frz (i : Nat) (s : AS) : AS := match hget s.heap i with
  | some cs => s.frzW i cs
  | none => s
theorem lk_frz (i : Nat) (cs : List CV) (t : Nat) : ∀ env : List (Nat × AV), lk (frzE i cs env) t = frzA i cs (lk env t)
  | [] => rfl
  | (k, v) :: r => by
    simp only [frzE, List.map_cons, lk]
    split
    · rfl
    · exact lk_frz i cs t r
theorem gf_frz (i : Nat) (cs : List CV) (f : Nat) : ∀ g : List (Nat × List (Nat × AV)), gf (frzG i cs g) f = frzE i cs (gf g f)
  | [] => rfl
  | (k, v) :: r => by
    simp only [frzG, List.map_cons, gf]
    split
    · rfl
    · exact gf_frz i cs f r
theorem gk_frz (i : Nat) (cs : List CV) (f t : Nat) (g : List (Nat × List (Nat × AV))) : gk (frzG i cs g) f t = frzA i cs (gk g f t) := by
  simp only [gk, gf_frz, lk_frz]
theorem hget_frz (i : Nat) (cs : List CV) (k : Nat) (h : List (Option (List CV))) : hget (frzH i cs h) k = (hget h k).map (List.map (frzC i cs)) := by
  simp only [hget, frzH, List.getElem?_map]
  cases h[k]? <;> rfl
section
variable {w0 : World} {Z0 : Fr} {J : Nat → Option Nat} {Z : Nat → Prop} {s : AS} {a : Act} {w : World}
theorem jne {i : Nat} {l : LV} (h : l.has i = false) {v : Value} {Z' : Nat → Prop} (hz : ∀ b, Z b → Z' b) (hr : LRel w J Z v l) : LRel w (fun k => if k = i then none else J k) Z' v l := by
  cases l with
  | iv c => exact Rd.mono hr hz fun _ _ _ => rfl
  | ptr j o =>
    simp only [LV.has, beq_eq_false_iff_ne] at h
    obtain ⟨b, e, hj, ho⟩ := hr
    exact ⟨b, e, by simp only; rw [if_neg h]; exact hj, ho⟩
  | mp j =>
    simp only [LV.has, beq_eq_false_iff_ne] at h
    obtain ⟨b, e, hj⟩ := hr
    exact ⟨b, e, by simp only; rw [if_neg h]; exact hj⟩
theorem CRel.frz (R : Rel w0 Z0 J Z s a w) {i : Nat} {cs : List CV} (hcs : hget s.heap i = some cs) (hiv : ∀ c, c ∈ cs → isIv c) {v : Value} {c : CV} (h : CRel w J Z v c) :
    CRel w (fun k => if k = i then none else J k) (fun b => Z b ∨ J i = some b) v (frzC i cs c) := by
  have hz : ∀ b, Z b → Z b ∨ J i = some b := fun b h => Or.inl h
  have one : ∀ bb, J i = some bb → OwnC w bb → ∀ k, k < cs.length → ∃ c1 e1, w.heap[bb]? = some (.cells c1 e1 (0, 0)) ∧ w.cell? ⟨bb, k, none⟩ = some (c1.getD k undef) ∧ Rd w (fun b => Z b ∨ J i = some b) (c1.getD k undef) (civ (cs.getD k .any)) := by
    intro bb hj ho k hk
    obtain ⟨c1, e1, g2, g3⟩ := R.cells hcs (by rintro rfl; simp at hk) hj ho
    obtain ⟨u, hu, hr⟩ := g3.get (k := k) (y := cs.getD k .any) (by simp [List.getD, List.getElem?_eq_getElem hk])
    rw [List.getElem?_take, if_pos hk, Array.getElem?_toList] at hu
    have hg : c1.getD k undef = u := by simp [hu]
    refine ⟨c1, e1, g2, ?_, ?_⟩
    · rw [hg, cell_of_row w bb _ c1 e1 _ g2]; exact hu
    · rw [hg]
      have hi := hiv (cs.getD k .any) (by simp [List.getD, List.getElem?_eq_getElem hk])
      generalize cs.getD k .any = cv at hi hr
      cases cv <;> simp only [isIv] at hi
      exact Rd.mono hr hz fun _ _ _ => rfl
  cases c with
  | iv c => exact Rd.mono h hz fun _ _ _ => rfl
  | ip m c =>
    obtain ⟨b, off, X, e, z, hX⟩ := h
    exact ⟨b, off, X, e, Or.inl z, fun o ho => ⟨(hX o ho).1, Rd.mono (hX o ho).2 hz fun _ _ _ => rfl⟩⟩
  | slc j off n E =>
    simp only [frzC]
    split
    · rename_i hj
      subst hj
      split
      · rename_i hb
        rcases h with ⟨rfl, rfl⟩ | ⟨bb, cap, c', e, rfl, hj, hc1, hc2, hb', hs⟩
        · exact Rd.nil _ _ _ _
        have key : ∀ p o, p < n → o < E → off + p * E + o < cs.length := fun p o hp ho => by
          have : (p + 1) * E ≤ n * E := Nat.mul_le_mul_right _ hp
          rw [Nat.add_mul] at this
          omega
        refine Rd.lst bb off n cap E _ (fun p o => c'.getD (off + p * E + o) undef) (Or.inr hj) hc1 hc2 (fun p o hp ho => ?_) fun p o hp ho => ?_
        · obtain ⟨c1, e1, g2, g3, _⟩ := one bb hj ⟨_, _, hb'⟩ _ (key p o hp ho)
          rw [hb'] at g2; cases g2; exact g3
        · obtain ⟨c1, e1, g2, _, g4⟩ := one bb hj ⟨_, _, hb'⟩ _ (key p o hp ho)
          rw [hb'] at g2; cases g2; exact g4
      · exact CRel.one (c := .slc j off n E) (J := J) (Z := Z) (w := w) h
    · rename_i hj
      rcases h with h | ⟨bb, cap, c', e, e1, hj', r⟩
      · exact Or.inl h
      · exact Or.inr ⟨bb, cap, c', e, e1, by simp only; rw [if_neg hj]; exact hj', r⟩
  | ptr j o =>
    simp only [frzC]
    split
    · rename_i hj
      subst hj
      split
      · rename_i hb
        obtain ⟨bb, rfl, hj, ho⟩ := h
        obtain ⟨c0, e0, g0, _, _⟩ := one bb hj ho o hb
        refine ⟨bb, o, fun k => c0.getD (o + k) undef, rfl, Or.inr hj, fun k hk => ?_⟩
        obtain ⟨c1, e1, g2, g3, g4⟩ := one bb hj ho (o + k) (by omega)
        rw [g0] at g2; cases g2
        exact ⟨g3, g4⟩
      · exact CRel.one (c := .ptr j o) (J := J) (Z := Z) (w := w) h
    · rename_i hj
      obtain ⟨bb, e, hj', ho⟩ := h
      exact ⟨bb, e, by simp only; rw [if_neg hj]; exact hj', ho⟩
  | mp j =>
    simp only [frzC]
    split
    · exact CRel.one (c := .mp j) (J := J) (Z := Z) (w := w) h
    · rename_i hj
      obtain ⟨bb, e, hj'⟩ := h
      exact ⟨bb, e, by simp only; rw [if_neg hj]; exact hj'⟩
  | it j =>
    simp only [frzC]
    split
    · exact CRel.one (c := .it j) (J := J) (Z := Z) (w := w) h
    · rename_i hj
      obtain ⟨bb, e, hj'⟩ := h
      exact ⟨bb, e, by simp only; rw [if_neg hj]; exact hj'⟩
  | mi => exact h.elim
  | m2 => exact h.elim
  | ml => exact h.elim
  | mt => exact h.elim
  | fn f x y =>
    simp only [frzC]
    split
    · exact CRel.one (c := .fn f x y) (J := J) (Z := Z) (w := w) h
    · rename_i hh
      simp only [CV.has, Bool.or_eq_true, not_or, Bool.not_eq_true, List.any_eq_false] at hh
      obtain ⟨A, B, e, h1, h2⟩ := h
      exact ⟨A, B, e, h1.mono' fun u l hl hr => jne (by simpa using hh.1 l hl) hz hr, h2.mono' fun u l hl hr => jne (by simpa using hh.2 l hl) hz hr⟩
  | any => exact h
theorem Blk.frz (R : Rel w0 Z0 J Z s a w) {i : Nat} {cs : List CV} (hcs : hget s.heap i = some cs) (hiv : ∀ c, c ∈ cs → isIv c) {b : Nat} {ds : List CV} (h : Blk w J Z b ds) :
    Blk w (fun k => if k = i then none else J k) (fun b => Z b ∨ J i = some b) b (ds.map (frzC i cs)) := by
  have hz : ∀ b, Z b → Z b ∨ J i = some b := fun b h => Or.inl h
  unfold Blk at h
  split at h
  · obtain ⟨rfl, es, clock, h1, h0, k1⟩ := h
    exact ⟨rfl, es, clock, h1, h0, k1.mono hz fun _ _ _ => rfl⟩
  · obtain ⟨rfl, es, clock, h1, k1⟩ := h
    exact ⟨rfl, es, clock, h1, k1.mono hz fun _ _ _ => rfl⟩
  · rename_i l r
    obtain ⟨rfl, es, clock, h1, h2, h3⟩ := h
    simp only [List.map_cons, List.map_nil, frzC]
    split
    · exact Blk.dead h1 rfl (by simp)
    · rename_i hh
      refine ⟨rfl, es, clock, h1, h2, All2.mono' (fun x y hy hr => ⟨hr.1, ?_⟩) h3⟩
      have := CRel.frz R hcs hiv hr.2
      have hn : (CV.fn y.2.1 y.2.2.1 y.2.2.2).has i = false := by
        simp only [CV.has, Bool.not_eq_true, List.any_eq_false] at hh
        exact hh y hy
      simp only [frzC, hn, Bool.false_eq_true, if_false] at this
      exact this
  · rename_i j x p q l
    obtain ⟨rfl, m, seen, es, clock, h1, h2, h3⟩ := h
    simp only [List.map_cons, List.map_nil, frzC]
    split
    · exact Blk.dead h1 rfl (by simp)
    · rename_i hj
      exact ⟨rfl, m, seen, es, clock, h1, by simp only; rw [if_neg hj]; exact h2, h3⟩
  · rcases h with ⟨c, e, h1, h2⟩ | ⟨⟨o, h1, h2⟩, h3⟩
    · refine Blk.of h1 ?_
      rw [List.length_map]
      exact All2.map_right.2 (h2.mono fun _ _ => CRel.frz R hcs hiv)
    · refine Blk.dead h1 h2 fun c hc => ?_
      obtain ⟨c', hc', rfl⟩ := List.mem_map.1 hc
      rw [h3 c' hc']; rfl
theorem TRel.frz (R : Rel w0 Z0 J Z s a w) {i : Nat} {cs : List CV} (hcs : hget s.heap i = some cs) (hiv : ∀ c, c ∈ cs → isIv c) {v : Value} {x : TV} (h : TRel w J Z v x) :
    TRel w (fun k => if k = i then none else J k) (fun b => Z b ∨ J i = some b) v (frzT i cs x) := by
  cases x with
  | one c => exact CRel.frz R hcs hiv h
  | agg l => obtain ⟨A, e, h⟩ := h; exact ⟨A, e, All2.map_right.2 (h.mono fun _ _ => CRel.frz R hcs hiv)⟩
theorem ARel.frz (R : Rel w0 Z0 J Z s a w) {i : Nat} {cs : List CV} (hcs : hget s.heap i = some cs) (hiv : ∀ c, c ∈ cs → isIv c) {v : Value} {x : AV} (h : ARel w J Z v x) :
    ARel w (fun k => if k = i then none else J k) (fun b => Z b ∨ J i = some b) v (frzA i cs x) := by
  cases x with
  | t x => exact TRel.frz R hcs hiv h
  | tup l => obtain ⟨A, e, h⟩ := h; exact ⟨A, e, All2.map_right.2 (h.mono fun _ _ => TRel.frz R hcs hiv)⟩
  | mb b x => exact ⟨fun hb => TRel.frz R hcs hiv (h.1 hb), h.2⟩
  | any => trivial
theorem Rel.frz (R : Rel w0 Z0 J Z s a w) {i : Nat} (hok : frzOk i s (hget s.heap i)) : Rel w0 Z0 (fun k => if k = i then none else J k) (fun b => Z b ∨ J i = some b) (s.frz i) a w := by
  unfold frzOk at hok
  unfold AS.frz
  split at hok
  · rename_i cs hcs
    have sub : ∀ k b, (if k = i then none else J k) = some b → k ≠ i ∧ J k = some b := fun k b h => by
      split at h
      · cases h
      · rename_i hk; exact ⟨hk, h⟩
    refine ⟨R.nodef, R.size, R.below, fun b h => ?_, fun b h => ?_, fun k b h => ?_, fun k j b hk hj => ?_, fun k h => ?_, fun k ds h hne => ?_, fun t => ?_, fun f t => ?_, R.loops, R.lnd, R.ro, R.tab⟩
    · rcases h with h | h
      · exact R.zfrom b h
      · exact Or.inr (R.jlt i b h).1
    · rcases h with h | h
      · exact R.zlt b h
      · exact (R.jlt i b h).2.1
    · obtain ⟨hk, h⟩ := sub k b h
      have := R.jlt k b h
      exact ⟨this.1, this.2.1, fun hz => by
        rcases hz with hz | hz
        · exact this.2.2 hz
        · exact hk (R.inj k i b h hz)⟩
    · exact R.inj k j b (sub k b hk).2 (sub j b hj).2
    · simp only [AS.frzW, hget_hdel] at h
      by_cases hk : k = i
      · simp [hk]
      · rw [if_neg hk] at h ⊢
        rw [hget_frz, Option.map_eq_none_iff] at h
        exact R.hole k h
    · simp only [AS.frzW, hget_hdel] at h
      by_cases hk : k = i
      · simp [hk] at h
      · rw [if_neg hk, hget_frz, Option.map_eq_some_iff] at h
        obtain ⟨ds0, h, rfl⟩ := h
        obtain ⟨b, g1, g2⟩ := R.blk k ds0 h (by rintro rfl; exact hne rfl)
        exact ⟨b, by rw [if_neg hk]; exact g1, g2.frz R hcs hok⟩
    · show ARel _ _ _ _ (lk (frzE i cs s.env) t)
      rw [lk_frz]; exact ARel.frz R hcs hok (R.slots t)
    · show ARel _ _ _ _ (gk (frzG i cs s.gh) f t)
      rw [gk_frz]; exact ARel.frz R hcs hok (R.ghost f t)
  · exact hok.elim
theorem Rep.frz (h : Rep w0 Z0 s a w) {i : Nat} (hok : frzOk i s (hget s.heap i)) : Rep w0 Z0 (s.frz i) a w := by
  obtain ⟨J, Z, R⟩ := h
  exact ⟨_, _, R.frz hok⟩
def frzsOk : List Nat → AS → Prop
  | [], _ => True
  | i :: L, s => frzOk i s (hget s.heap i) ∧ frzsOk L (s.frz i)
def frzs : List Nat → AS → AS
  | [], s => s
  | i :: L, s => frzs L (s.frz i)
theorem frz_N (i : Nat) (s : AS) : (s.frz i).N = s.N := by unfold AS.frz; split <;> rfl
theorem frzs_N : ∀ (L : List Nat) (s : AS), (frzs L s).N = s.N
  | [], _ => rfl
  | i :: L, s => (frzs_N L _).trans (frz_N i s)
theorem Rep.frzs : ∀ (L : List Nat) {s : AS} {a : Act} {w : World}, Rep w0 Z0 s a w → frzsOk L s → Rep w0 Z0 (frzs L s) a w
  | [], _, _, _, h, _ => h
  | i :: L, _, _, _, h, ⟨h1, h2⟩ => Rep.frzs L (h.frz h1) h2
end
end Go.Sea
namespace Go.Sea
open Go.RowKit
abbrev Hp := Nat → Option (List CV)
inductive Eff where
  | nop
  | new (cs : List CV)
  | set (i : Nat) (cs : List CV)
  | app (i : Nat) (cs : List CV)
def hset : List (Option (List CV)) → Nat → List CV → List (Option (List CV))
  | [], 0, x => [some x]
  | [], n + 1, x => none :: hset [] n x
  | _ :: h, 0, x => some x :: h
  | y :: h, n + 1, x => y :: hset h n x
theorem hget_nil (i : Nat) : hget [] i = none := by simp [hget]
theorem hget_zero (y : Option (List CV)) (h : List (Option (List CV))) : hget (y :: h) 0 = y := by simp [hget]
theorem hget_succ (y : Option (List CV)) (h : List (Option (List CV))) (n : Nat) : hget (y :: h) (n + 1) = hget h n := by simp [hget]
theorem hget_hset_same : ∀ (h : List (Option (List CV))) (n : Nat) (x : List CV), hget (hset h n x) n = some x
  | [], 0, x => by simp [hset, hget]
  | [], n + 1, x => by rw [hset, hget_succ]; exact hget_hset_same [] n x
  | _ :: h, 0, x => by simp [hset, hget]
  | y :: h, n + 1, x => by rw [hset, hget_succ]; exact hget_hset_same h n x
theorem hget_hset_ne : ∀ (h : List (Option (List CV))) (n k : Nat) (x : List CV), k ≠ n → hget (hset h n x) k = hget h k
  | [], 0, 0, x, hk => absurd rfl hk
  | [], 0, k + 1, x, hk => by rw [hset, hget_succ, hget_nil, hget_nil]
  | [], n + 1, 0, x, hk => by rw [hset, hget_zero, hget_nil]
  | [], n + 1, k + 1, x, hk => by rw [hset, hget_succ, hget_hset_ne [] n k x (by omega), hget_nil, hget_nil]
  | _ :: h, 0, 0, x, hk => absurd rfl hk
  | _ :: h, 0, k + 1, x, hk => by rw [hset, hget_succ, hget_succ]
  | y :: h, n + 1, 0, x, hk => by rw [hset, hget_zero, hget_zero]
  | y :: h, n + 1, k + 1, x, hk => by rw [hset, hget_succ, hget_succ]; exact hget_hset_ne h n k x (by omega)
def AS.eff (s : AS) (nid : Nat) : Eff → AS
  | .nop => s
  | .new cs => { s with heap := hset s.heap nid cs }
  | .set i cs => { s with heap := hset s.heap i cs }
  | .app i cs => { s with env := purgeE i s.env, gh := purgeG i s.gh, heap := hset (purgeH i s.heap) i cs }
def constA : Value → AV
  | .agg A => if A.all Value.oneCell' then .t (.agg (A.toList.map fun v => .iv (.g v))) else .any
  | .tuple _ => .any
  | v => .t (.one (.iv (.g v)))
def AS.ev (s : AS) : Operand → AV
  | .tmp t => s.get t
  | .const v => constA v
  | .func f => .t (.one (.iv (.g (.func (.func f) #[] #[]))))
  | .global _ => .any
theorem all2_g {w : World} {J : Nat → Option Nat} {Z : Nat → Prop} : ∀ (l : List Value), (∀ v ∈ l, v.oneCell' = true) → All2 (CRel w J Z) l (l.map fun v => .iv (.g v))
  | [], _ => trivial
  | v :: l, h => ⟨Rd.g v (h v (by simp)), all2_g l fun x hx => h x (by simp [hx])⟩
theorem constA_rel {w : World} {J : Nat → Option Nat} {Z : Nat → Prop} (v : Value) : ARel w J Z v (constA v) := by
  unfold constA
  split
  · split
    · rename_i A h
      refine ⟨A, rfl, all2_g _ fun x hx => ?_⟩
      rw [Array.all_eq_true'] at h
      exact h x (by simpa using hx)
    · trivial
  · trivial
  · rename_i h1 h2
    refine Rd.g v ?_
    cases v <;> first | rfl | exact absurd rfl (h1 _) | exact absurd rfl (h2 _)
section
variable {w0 : World} {Z0 : Fr} {J J' : Nat → Option Nat} {Z Z' : Nat → Prop} {s s' : AS} {a : Act} {w w' : World} {P : Program}
theorem Rel.ev (R : Rel w0 Z0 J Z s a w) (x : Operand) : ARel w J Z (a.eval x) (s.ev x) := by
  cases x with
  | tmp t => exact R.slots t
  | const v => exact constA_rel v
  | global g => trivial
  | func f => exact Rd.g _ rfl
end
def AV.tv : AV → Option TV
  | .t x | .mb _ x => some x
  | _ => none
def AV.nd : AV → Prop
  | .mb c _ => c = true
  | _ => True
theorem ARel.tv {w : World} {J : Nat → Option Nat} {Z : Nat → Prop} {v : Value} {x : AV} {y : TV} (h : ARel w J Z v x) (h1 : x.tv = some y) (h2 : x.nd) : TRel w J Z v y := by
  cases x <;> simp [AV.tv, AV.nd] at h1 h2 <;> subst h1
  · exact h
  · exact h.1 h2
def TV.cells : TV → List CV
  | .one c => [c]
  | .agg cs => cs
theorem TRel.cells {w : World} {J : Nat → Option Nat} {Z : Nat → Prop} {v : Value} {x : TV} (h : TRel w J Z v x) : All2 (CRel w J Z) v.cells.toList x.cells := by
  cases x with
  | one c =>
    have h1 := CRel.one h
    have : v.cells = #[v] := by cases v <;> first | rfl | (simp [Value.oneCell'] at h1)
    rw [this]; exact ⟨h, trivial⟩
  | agg cs => obtain ⟨A, rfl, h⟩ := h; exact h
def TV.int? : TV → Option (IntKind × Int)
  | .one (.iv (.g (.int k n))) => some (k, n)
  | _ => none
theorem TRel.int {w : World} {J : Nat → Option Nat} {Z : Nat → Prop} {v : Value} {x : TV} {k : IntKind} {n : Int} (h : TRel w J Z v x) (h1 : x.int? = some (k, n)) : v = .int k n := by
  unfold TV.int? at h1
  split at h1
  · cases h1
    cases h; rfl
  · cases h1
def TV.bool? : TV → Option Bool
  | .one (.iv (.g (.bool b))) => some b
  | _ => none
theorem TRel.bool {w : World} {J : Nat → Option Nat} {Z : Nat → Prop} {v : Value} {x : TV} {b : Bool} (h : TRel w J Z v x) (h1 : x.bool? = some b) : v = .bool b := by
  unfold TV.bool? at h1
  split at h1
  · cases h1
    cases h; rfl
  · cases h1
abbrev iA (k : IntKind) (n : Int) : AV := .t (.one (.iv (.g (.int k n))))
abbrev bA (b : Bool) : AV := .t (.one (.iv (.g (.bool b))))
def isAggD : TypeDesc → Bool
  | .struct _ | .array _ _ => true
  | _ => false
def tyD (P : Program) (t : TypeId) : Option (Bool × Nat) := match P.underlying t, P.info? t with
  | some d, some i => some (isAggD d, i.size)
  | _, _ => none
def slD (P : Program) (t : TypeId) : Option (Nat × Nat × TypeId) := match P.underlying t with
  | some (.slice e) => match P.info? e with
    | some i => match i.zero with
      | some z => if z.cells.size = i.size ∧ 0 < i.size then some (i.size, i.bytes, e) else none
      | none => none
    | none => none
  | _ => none
def arD (P : Program) (t : TypeId) : Option (Nat × Nat) := match P.underlying t with
  | some (.array n e) => match P.info? e with
    | some i => some (n, i.size)
    | none => none
  | _ => none
def inD (P : Program) (t : TypeId) : Option IntKind := match P.underlying t with
  | some (.int k) => some k
  | _ => none
def offOf (P : Program) (t : TypeId) (f : Nat) : Option Nat := match P.underlying t with
  | some (.struct fields) => match fields[f]? with
    | some fd => match P.info? fd.type with
      | some i => if i.size = 0 then none else some fd.offset
      | none => none
    | none => none
  | _ => none
theorem tyD_spec {P : Program} {t : TypeId} {b : Bool} {n : Nat} (h : tyD P t = some (b, n)) : ∃ d i, P.underlying t = some d ∧ P.info? t = some i ∧ i.size = n ∧ isAggD d = b := by
  unfold tyD at h
  split at h
  · rename_i d i h1 h2
    cases h
    exact ⟨d, i, h1, h2, rfl, rfl⟩
  · cases h
theorem slD_spec {P : Program} {t e : TypeId} {n b : Nat} (h : slD P t = some (n, b, e)) : ∃ i z, P.underlying t = some (.slice e) ∧ P.info? e = some i ∧ i.zero = some z ∧ z.cells.size = n ∧ i.size = n ∧ i.bytes = b ∧ 0 < n := by
  unfold slD at h
  split at h
  · rename_i e' h1
    split at h
    · rename_i i h2
      split at h
      · rename_i z h3
        split at h
        · rename_i h4
          cases h
          exact ⟨i, z, h1, h2, h3, h4.1, rfl, rfl, h4.2⟩
        · cases h
      · cases h
    · cases h
  · cases h
theorem arD_spec {P : Program} {t : TypeId} {n b : Nat} (h : arD P t = some (n, b)) : ∃ e i, P.underlying t = some (.array n e) ∧ P.info? e = some i ∧ i.size = b := by
  unfold arD at h
  split at h
  · rename_i k e' h1
    split at h
    · rename_i i h2
      cases h
      exact ⟨e', i, h1, h2, rfl⟩
    · cases h
  · cases h
theorem inD_spec {P : Program} {t : TypeId} {k : IntKind} (h : inD P t = some k) : P.underlying t = some (.int k) := by
  unfold inD at h
  split at h
  · cases h; assumption
  · cases h
theorem offOf_spec {P : Program} {t : TypeId} {f o : Nat} (h : offOf P t f = some o) : ∃ fs fd i, P.underlying t = some (.struct fs) ∧ fs[f]? = some fd ∧ P.info? fd.type = some i ∧ i.size ≠ 0 ∧ fd.offset = o := by
  unfold offOf at h
  split at h
  · rename_i fs h1
    split at h
    · rename_i fd h2
      split at h
      · rename_i i h3
        split at h
        · cases h
        · cases h
          exact ⟨fs, fd, i, h1, h2, h3, by assumption, rfl⟩
      · cases h
    · cases h
  · cases h
def ipCells (c : Nat → IV) : Nat → Nat → List CV
  | 0, _ => []
  | n + 1, k => .iv (c k) :: ipCells c n (k + 1)
def loadF (agg : Bool) (size : Nat) (H : Hp) : TV → Option (Prop × AV)
  | .one (.ip m c) => bif agg then some (size ≤ m, .t (.agg (ipCells c size 0))) else some (0 < m, .t (.one (.iv (c 0))))
  | .one (.ptr i o) => match H i with
    | some cs => bif agg then some (o + size ≤ cs.length ∧ 0 < size, .t (.agg ((cs.drop o).take size))) else some (o < cs.length, .t (.one (cs.getD o .any)))
    | none => none
  | _ => none
def storeF (size : Nat) (H : Hp) (v : TV) : TV → Option (Prop × AV × Eff)
  | .one (.ptr i o) => match H i with
    | some cs => some (v.cells.length = size ∧ o + size ≤ cs.length ∧ 0 < size, .any, .set i (cs.take o ++ v.cells ++ cs.drop (o + size)))
    | none => none
  | _ => none
def fieldF (off : Nat) : TV → Option (Prop × AV)
  | .one (.ip m c) => some (True, .t (.one (.ip (m - off) fun o => c (off + o))))
  | .one (.ptr i o) => some (True, .t (.one (.ptr i (o + off))))
  | _ => none
def indexF (sl : Option (Nat × Nat × TypeId)) (ar : Option (Nat × Nat)) (n : Int) : TV → Option (Prop × AV)
  | .one (.iv (.lst E len f)) => match sl with
    | some (e, _, _) => if e = E then some (0 ≤ n ∧ n < len, .t (.one (.ip E fun o => f n.toNat o))) else none
    | none => none
  | .one (.slc i off len E) => match sl with
    | some (e, _, _) => if e = E then some (0 ≤ n ∧ n < len, .t (.one (.ptr i (off + n.toNat * E)))) else none
    | none => none
  | .one (.ptr i o) => match ar with
    | some (len, e) => some (0 ≤ n ∧ n < len, .t (.one (.ptr i (o + n.toNat * e))))
    | none => none
  | .one (.ip m c) => match ar with
    | some (len, e) => some (0 ≤ n ∧ n < len, .t (.one (.ip (m - n.toNat * e) fun o => c (n.toNat * e + o))))
    | none => none
  | _ => none
def lenF (sl : Bool) : TV → Option AV
  | .one (.iv (.lst _ n _)) => bif sl then some (iA .i64 n) else none
  | .one (.slc _ _ n _) => bif sl then some (iA .i64 n) else none
  | .one (.iv (.g (.slice _ n _))) => bif sl then some (iA .i64 n) else none
  | .one (.iv (.g (.string b))) => bif sl then none else some (iA .i64 b.size)
  | _ => none
def intF (op : BinOp) (k : IntKind) (x y : Int) : Option (Prop × AV) :=
  match op with
  | .add => some (True, iA k (k.wrap (x + y)))
  | .sub => some (True, iA k (k.wrap (x - y)))
  | .mul => some (True, iA k (k.wrap (x * y)))
  | .quo => some (y ≠ 0, iA k (k.wrap (x.tdiv y)))
  | .rem => some (y ≠ 0, iA k (x.tmod y))
  | .and => some (True, iA k (bits .and k x y))
  | .or => some (True, iA k (bits .or k x y))
  | .xor => some (True, iA k (bits .xor k x y))
  | .andNot => some (True, iA k (bits .andNot k x y))
  | .eql => some (True, bA (x == y))
  | .neq => some (True, bA (x != y))
  | .lss => some (True, bA (x < y))
  | .leq => some (True, bA (x ≤ y))
  | .gtr => some (True, bA (x > y))
  | .geq => some (True, bA (x ≥ y))
  | .shl => some (0 ≤ y, iA k (k.wrap (x * 2 ^ (min y.toNat k.bits))))
  | .shr => some (0 ≤ y, iA k (x.fdiv (2 ^ (min y.toNat k.bits))))
def zeroC (P : Program) (t : TypeId) : Option (List CV) := match P.info? t with
  | some i => match i.zero with
    | some v => if v.cells.all Value.oneCell' then some (v.cells.toList.map fun v => .iv (.g v)) else none
    | none => none
  | none => none
def fillF (place : Nat → Option (Nat × Nat)) (cells : List CV) : List (Nat × TV) → Option (List CV)
  | [] => some cells
  | (i, v) :: rest => match place i with
    | none => none
    | some (off, size) => if v.cells.length = size ∧ off + size ≤ cells.length then fillF place (cells.take off ++ v.cells ++ cells.drop (off + size)) rest else none
def repC (z : List CV) : Nat → List CV
  | 0 => []
  | n + 1 => z ++ repC z n
def partsF (ρ : Operand → AV) : List (Nat × Operand) → Option (Prop × List (Nat × TV))
  | [] => some (True, [])
  | (i, x) :: r => match (ρ x).tv, partsF ρ r with
    | some v, some (nd, l) => some ((ρ x).nd ∧ nd, (i, v) :: l)
    | _, _ => none
def TV.lv : TV → Option LV
  | .one (.iv c) => some (.iv c)
  | .one (.ptr i o) => some (.ptr i o)
  | .one (.mp i) => some (.mp i)
  | _ => none
def lvsF (ρ : Operand → AV) : List Operand → Option (Prop × List LV)
  | [] => some (True, [])
  | x :: r => match (ρ x).tv.bind TV.lv, lvsF ρ r with
    | some v, some (nd, l) => some ((ρ x).nd ∧ nd, v :: l)
    | _, _ => none
def sliceF (e : Nat) (lo hi : Option Int) : TV → Option (Prop × AV)
  | .one (.iv (.lst E n f)) => if e = E then some (0 ≤ lo.getD 0 ∧ lo.getD 0 ≤ hi.getD n ∧ hi.getD n ≤ n, .t (.one (.iv (.lst E (hi.getD n - lo.getD 0).toNat fun i o => f ((lo.getD 0).toNat + i) o)))) else none
  | .one (.slc i off n E) => if e = E then (match lo, hi with
    | some l, none => if l = n then some (0 ≤ l, .t (.one (.iv (.lst E 0 fun _ _ => .g undef)))) else some (0 ≤ l ∧ l ≤ n, .t (.one (.slc i (off + l.toNat * E) (n - l).toNat E)))
    | _, _ => some (0 ≤ lo.getD 0 ∧ lo.getD 0 ≤ hi.getD n ∧ hi.getD n ≤ n ∧ (lo.getD 0 = 0 ∨ lo.getD 0 < n), .t (.one (.slc i (off + (lo.getD 0).toNat * E) (hi.getD n - lo.getD 0).toNat E)))) else none
  | _ => none
def lstC (f : Nat → Nat → IV) (E : Nat) : Nat → Nat → List CV
  | 0, _ => []
  | n + 1, k => ipCells (f k) E 0 ++ lstC f E n (k + 1)
def srcF (size : Nat) (H : Hp) : TV → Option (Prop × Nat × List CV)
  | .one (.iv (.g (.slice none 0 0))) => some (True, 0, [])
  | .one (.iv (.lst E n f)) => if E = size then some (True, n, lstC f E n 0) else none
  | .one (.slc j off m E) => match H j with
    | some ns => if E = size then some (off + m * E ≤ ns.length, m, (ns.drop off).take (m * E)) else none
    | none => none
  | _ => none
def appF (nid size : Nat) (bytes : Nat) (H : Hp) (x : TV) : TV → Option (Prop × AV × Eff)
  | .one (.iv (.g (.slice none 0 0))) => match srcF size H x with
    | some (nd, m, ns) => some (nd ∧ m * bytes ≤ 140737488355328 ∧ m ≤ maxLen, .t (.one (.slc nid 0 m size)), .new ns)
    | none => none
  | .one (.slc i 0 n E) => match H i, srcF size H x with
    | some cs, some (nd, m, ns) => if E = size then some (nd ∧ cs.length = n * E ∧ (n + m) * bytes ≤ 140737488355328 ∧ n + m ≤ maxLen,
          .t (.one (.slc i 0 (n + m) E)), .app i (purgeC i (cs ++ ns))) else none
    | _, _ => none
  | _ => none
section
variable {w0 : World} {Z0 : Fr} {J J' : Nat → Option Nat} {Z Z' : Nat → Prop} {s s' : AS} {a : Act} {w w' : World} {P : Program}
theorem run_isAgg {t : TypeId} {d : TypeDesc} (h : P.underlying t = some d) (w : World) : (isAgg t).run P w = .ok (isAggD d) w := by
  unfold isAgg
  simp only [Sem.run_bind, run_underlying h, Result.andThen_ok]
  cases d <;> rfl
theorem run_size {t : TypeId} {i : TypeInfo} (h : P.info? t = some i) (w : World) : (sizeOf t).run P w = .ok i.size w := by
  simp [sizeOf, typeInfo, h]
theorem ipCells_length (c : Nat → IV) : ∀ n k, (ipCells c n k).length = n
  | 0, _ => rfl
  | n + 1, k => by simp [ipCells, ipCells_length c n (k + 1)]
theorem all2_ipCells {c : Nat → IV} {X : Nat → Value} : ∀ n k, (∀ o, o < k + n → Rd w Z (X o) (c o)) → All2 (CRel w J Z) ((List.range' k n).map X) (ipCells c n k)
  | 0, _, _ => trivial
  | n + 1, k, h => by
    rw [List.range'_succ, List.map_cons]
    exact ⟨h k (by omega), all2_ipCells n (k + 1) fun o ho => h o (by omega)⟩
theorem run_load_cells {b o : Nat} {c : Array Value} {e : TypeId} {f : Nat × Nat} (hb : w.heap[b]? = some (.cells c e f)) (n : Nat) (hn : o + n ≤ c.size) : (loadCells ⟨b, o, none⟩ n).run P w = .ok ((c.toList.drop o).take n).toArray w := by
  have hl : ((c.toList.drop o).take n).length = n := by simp; omega
  have := run_loadCells_list (P := P) w ⟨b, o, none⟩ ((c.toList.drop o).take n) (fun j v hj => by
    rw [Addr.add_lit, cell_of_row w b (o + j) c e f hb]
    rw [List.getElem?_take] at hj
    split at hj
    · rw [List.getElem?_drop] at hj; simpa using hj
    · cases hj)
  rw [hl] at this
  exact this
theorem run_load (R : Rel w0 Z0 J Z s a w) {t : TypeId} {ag : Bool} {n : Nat} {v : Value} {x : TV} {nd : Prop} {y : AV} (ht : tyD P t = some (ag, n)) (hx : TRel w J Z v x) (h : loadF ag n (hget s.heap) x = some (nd, y)) (hn : nd) :
    ∃ u, (Instr.loadAt t v).run P w = .ok u w ∧ ARel w J Z u y := by
  obtain ⟨d, i, h1, h2, h3, h4⟩ := tyD_spec ht
  subst h3
  have hag := run_isAgg h1 w
  rw [h4] at hag
  unfold loadF at h
  split at h
  · rename_i m c
    obtain ⟨b, off, X, rfl, hz, hX⟩ := hx
    cases ag with
    | true =>
      simp only [cond_true, Option.some.injEq, Prod.mk.injEq] at h
      obtain ⟨rfl, rfl⟩ := h
      have hl := run_loadCells (P := P) w ⟨b, off, none⟩ i.size X (fun j hj => by rw [Addr.add_lit]; exact (hX j (by omega)).1)
      refine ⟨.agg ((List.range i.size).map X).toArray, ?_, ⟨_, rfl, ?_⟩⟩
      · simp [Instr.loadAt, Instr.sureAddr, loadVar, hag, run_size h2, hl]
      · have := all2_ipCells (J := J) (w := w) (Z := Z) (c := c) (X := X) i.size 0 fun o ho => (hX o (by omega)).2
        rw [← List.range_eq_range'] at this
        simpa using this
    | false =>
      simp only [cond_false, Option.some.injEq, Prod.mk.injEq] at h
      obtain ⟨rfl, rfl⟩ := h
      refine ⟨X 0, ?_, (hX 0 hn).2⟩
      have := (hX 0 hn).1
      rw [Nat.add_zero] at this
      simp [Instr.loadAt, Instr.sureAddr, loadVar, hag, this]
  · rename_i k o
    split at h
    · rename_i cs hcs
      obtain ⟨b, rfl, hj, ho⟩ := hx
      have hne : cs ≠ [] := by
        rintro rfl
        cases ag <;> simp only [cond_true, cond_false, Option.some.injEq, Prod.mk.injEq] at h <;> obtain ⟨rfl, _⟩ := h <;> simp at hn <;> omega
      obtain ⟨c, e, g2, g3⟩ := R.cells hcs hne hj ho
      have hlen := g3.length
      rw [List.length_take] at hlen
      cases ag with
      | true =>
        simp only [cond_true, Option.some.injEq, Prod.mk.injEq] at h
        obtain ⟨rfl, rfl⟩ := h
        have hl := run_load_cells (P := P) g2 (o := o) i.size (by simp at hlen; omega)
        refine ⟨.agg ((c.toList.drop o).take i.size).toArray, ?_, ⟨_, rfl, ?_⟩⟩
        · simp [Instr.loadAt, Instr.sureAddr, loadVar, hag, run_size h2, hl]
        · have := (g3.drop o).take i.size
          simp only [List.drop_take, List.take_take] at this
          rw [show min i.size (cs.length - o) = i.size by omega] at this
          exact this
      | false =>
        simp only [cond_false, Option.some.injEq, Prod.mk.injEq] at h
        obtain ⟨rfl, rfl⟩ := h
        obtain ⟨u, hu, hr⟩ := g3.get (k := o) (y := cs.getD o .any) (by simp [List.getD, List.getElem?_eq_getElem hn])
        refine ⟨u, ?_, hr⟩
        have hcu : w.cell? ⟨b, o, none⟩ = some u := by
          rw [cell_of_row w b o c e _ g2]
          rw [List.getElem?_take, if_pos hn] at hu
          simpa using hu
        simp [Instr.loadAt, Instr.sureAddr, loadVar, hag, hcu]
    · cases h
  · cases h
theorem seg_take {α : Type} (l v : List α) (o k : Nat) (h : o + v.length ≤ k) (hk : k ≤ l.length) : (l.take o ++ v ++ l.drop (o + v.length)).take k = (l.take k).take o ++ v ++ (l.take k).drop (o + v.length) := by
  have e3 : (l.take o ++ v).length = o + v.length := by simp; omega
  rw [List.take_append, e3, List.take_of_length_le (by omega), List.take_take, show min o k = o by omega, List.drop_take]
theorem run_store' (R : Rel w0 Z0 J Z s a w) {t : TypeId} {ag : Bool} {n nid : Nat} {p v : Value} {x y : TV} {nd : Prop} {r : AV} {ef : Eff} (ht : tyD P t = some (ag, n)) (hp : TRel w J Z p x) (hv : TRel w J Z v y) (h : storeF n (hget s.heap) y x = some (nd, r, ef)) (hn : nd) :
    r = .any ∧ ∃ w', (Instr.storeAt t p v).run P w = .ok () w' ∧ Rel w0 Z0 J Z (s.eff nid ef) a w' := by
  obtain ⟨d, i, h1, h2, h3, h4⟩ := tyD_spec ht
  subst h3
  unfold storeF at h
  split at h
  · rename_i k o
    split at h
    · rename_i cs hcs
      simp only [Option.some.injEq, Prod.mk.injEq] at h
      obtain ⟨rfl, rfl, rfl⟩ := h
      obtain ⟨b, rfl, hj, ho⟩ := hp
      obtain ⟨c, e, g2, g3⟩ := R.cells hcs (by rintro rfl; simp at hn; omega) hj ho
      have hvc := TRel.cells hv
      have hlv := hvc.length
      have hlen := g3.length
      rw [List.length_take] at hlen
      have hcsz : cs.length ≤ c.size := by simp at hlen; omega
      have h1c : ∀ u ∈ v.cells.toList, u.oneCell' = true := fun u hu => by
        obtain ⟨q, hq, e⟩ := List.getElem_of_mem hu
        have : q < y.cells.length := by omega
        obtain ⟨x, hx, hr⟩ := hvc.get (List.getElem?_eq_getElem this)
        rw [List.getElem?_eq_getElem hq, Option.some.injEq] at hx
        rw [← e, hx]; exact CRel.one hr
      have hst := run_storeCells_at P b o e v.cells.toList 0 c w g2 (by simp at hlv ⊢; omega) h1c
      simp only [Nat.add_zero] at hst
      refine ⟨rfl, w.setRow b (c.toList.take o ++ v.cells.toList ++ c.toList.drop (o + v.cells.toList.length)).toArray, ?_, ?_⟩
      · have hsz : ¬ v.cells.size ≠ i.size := by simp at hlv; omega
        simp only [Instr.storeAt, Instr.sureAddr, storeVar, Sem.run_bind, Sem.run_pure, Result.andThen_ok, run_size h2, if_neg hsz]
        exact hst
      · have hN : (c.toList.take o ++ v.cells.toList ++ c.toList.drop (o + v.cells.toList.length)).toArray.size = c.size := by simp at hlv ⊢; omega
        refine Rel.set (c' := (c.toList.take o ++ v.cells.toList ++ c.toList.drop (o + v.cells.toList.length)).toArray) R hcs hj g2 hN (hget_hset_same _ _ _) (fun q hq => hget_hset_ne _ _ _ _ hq) ?_
        have ht1 := g3.take o
        have ht2 := g3.drop (o + i.size)
        have ht3 := (ht1.append hvc).append ht2
        have e1 := seg_take c.toList v.cells.toList o cs.length (by omega) (by simpa using hcsz)
        rw [hlv, hn.1] at e1
        have e2 : (cs.take o ++ y.cells ++ cs.drop (o + i.size)).length = cs.length := by simp; omega
        show All2 _ (List.take _ (c.toList.take o ++ v.cells.toList ++ c.toList.drop (o + v.cells.toList.length))) _
        rw [e2, hlv, hn.1, e1]
        exact ht3
    · cases h
  · cases h
end
end Go.Sea
namespace Go.Sea
open Go.RowKit
theorem purgeH_hset (i : Nat) : ∀ (h : List (Option (List CV))) (k : Nat) (x : List CV), purgeH i (hset h k x) = hset (purgeH i h) k (purgeC i x)
  | [], 0, x => rfl
  | [], k + 1, x => by have := purgeH_hset i [] k x; simp only [hset, purgeH, List.map_cons, List.map_nil, Option.map_none, List.cons.injEq, true_and] at this ⊢; exact this
  | _ :: h, 0, x => rfl
  | y :: h, k + 1, x => by have := purgeH_hset i h k x; simp only [hset, purgeH, List.map_cons, List.cons.injEq, true_and] at this ⊢; exact this
theorem purgeC_ok (i : Nat) (cs : List CV) : ∀ y, y ∈ purgeC i cs → y.ok (· ≠ i) := by
  intro y hy
  obtain ⟨c, _, rfl⟩ := List.mem_map.1 hy
  exact CV.purge_ok i c
theorem all2_purge {w : World} {J : Nat → Option Nat} {Z : Nat → Prop} {l : List Value} {m : List CV} (i : Nat) (h : All2 (CRel w J Z) l m) : All2 (CRel w J Z) l (purgeC i m) :=
  All2.map_right.2 (h.mono fun _ _ => CRel.purge i)
theorem all2_drew {w : World} {J : Nat → Option Nat} {Z : Nat → Prop} {l : List Value} {m : List CV} (h : All2 (CRel w J Z) l m) : All2 (CRel w.drew J Z) l m :=
  have G : Grow (fun _ => True) w J Z w.drew J Z := ⟨fun _ _ _ h => h, fun _ h => h, fun _ _ _ => rfl, fun _ _ _ _ c _ _ h => ⟨c, h, rfl⟩, fun _ _ h _ => h⟩
  h.mono fun _ y hy => CRel.grow G y.ok_all hy
section
variable {w0 : World} {Z0 : Fr} {J J' : Nat → Option Nat} {Z Z' : Nat → Prop} {s s' : AS} {a : Act} {w w' : World} {P : Program}
theorem run_append_room' (t ty e e' : TypeId) (i : TypeInfo) (ht : P.underlying t = some (.slice e)) (hi : P.info? e = some i)
    (g sLen sCap : Nat) (cur : Array Value) (hg : w.heap[g]? = some (.cells cur e' (0, 0)))
    (a : Addr) (m c : Nat) (news : List Value) (hl : news.length = m * i.size) (hnews : ∀ (j : Nat) u, news[j]? = some u → w.cell? (a.add j) = some u) (h1 : ∀ u ∈ news, u.oneCell' = true)
    (hroom : sLen + m ≤ sCap) (hfit : sLen * i.size + news.length ≤ cur.size) :
    (Builtin.append_ #[t, t] ty #[.slice (some ⟨g, 0, none⟩) sLen sCap, .slice (some a) m c]).run P w =
      .ok (.slice (some ⟨g, 0, none⟩) (sLen + m) sCap) (w.setRow g (cur.toList.take (sLen * i.size) ++ news ++ cur.toList.drop (sLen * i.size + news.length)).toArray) := by
  have hf := run_firstCells_some (P := P) w i.size m a m c news hl hnews
  have hst := run_storeCells_at P g (sLen * i.size) e' news 0 cur w hg (by simpa using hfit) h1
  simp only [Nat.add_zero] at hst
  simp [Builtin.append_, run_underlying ht, sizeOf, typeInfo, hi, Builtin.lenOf, hroom, hf, Addr.add_lit, hst]
theorem slc_cells (R : Rel w0 Z0 J Z s a w) {v : Value} {j off m E : Nat} {ns : List CV} (hv : CRel w J Z v (.slc j off m E)) (hn : hget s.heap j = some ns) (hl : off + m * E ≤ ns.length) :
    (m = 0 ∧ v = .slice none 0 0) ∨ ∃ b cap news, v = .slice (some ⟨b, off, none⟩) m cap ∧ news.length = m * E ∧ (∀ (k : Nat) u, news[k]? = some u → w.cell? ((⟨b, off, none⟩ : Addr).add k) = some u) ∧ (∀ u ∈ news, u.oneCell' = true) ∧ All2 (CRel w J Z) news ((ns.drop off).take (m * E)) := by
  rcases hv with ⟨rfl, rfl⟩ | ⟨b, cap, c, e, rfl, hj, hc1, hc2, hb, hs⟩
  · exact Or.inl ⟨rfl, rfl⟩
  by_cases hne : ns = []
  · subst hne
    refine Or.inr ⟨b, cap, [], rfl, by simp at hl ⊢; omega, fun k u hk => by simp at hk, fun u hu => by simp at hu, by simp [All2]⟩
  obtain ⟨c', e', g2, g3⟩ := R.cells hn hne hj ⟨_, _, hb⟩
  rw [hb] at g2
  obtain ⟨rfl, rfl⟩ : c = c' ∧ e = e' := by simp at g2; exact g2
  have hlen := g3.length
  rw [List.length_take] at hlen
  have h3 := (g3.drop off).take (m * E)
  rw [List.drop_take, List.take_take, show min (m * E) (ns.length - off) = m * E by omega] at h3
  refine Or.inr ⟨b, cap, (c.toList.drop off).take (m * E), rfl, by simp at hlen ⊢; omega, fun k u hk => ?_, fun u hu => ?_, h3⟩
  · rw [Addr.add_lit, cell_of_row w b (off + k) c e (0, 0) hb]
    rw [List.getElem?_take] at hk
    split at hk
    · rw [List.getElem?_drop] at hk; simpa using hk
    · cases hk
  · obtain ⟨q, hq, e⟩ := List.getElem_of_mem hu
    have : q < ((ns.drop off).take (m * E)).length := by rw [← h3.length]; exact hq
    obtain ⟨x, hx, hr⟩ := h3.get (List.getElem?_eq_getElem this)
    rw [List.getElem?_eq_getElem hq, Option.some.injEq] at hx
    rw [← e, hx]; exact CRel.one hr
theorem lstC_len (f : Nat → Nat → IV) (E : Nat) : ∀ n k, (lstC f E n k).length = n * E
  | 0, k => by simp [lstC]
  | n + 1, k => by simp only [lstC, List.length_append, ipCells_length, lstC_len f E n (k + 1)]; rw [Nat.add_mul]; omega
theorem lst_cells {b off E : Nat} {f : Nat → Nat → IV} {X : Nat → Nat → Value} : ∀ (n k : Nat), (∀ i o, i < k + n → o < E → w.cell? ⟨b, off + i * E + o, none⟩ = some (X i o)) → (∀ i o, i < k + n → o < E → Rd w Z (X i o) (f i o)) →
    ∃ news : List Value, news.length = n * E ∧ (∀ (q : Nat) u, news[q]? = some u → w.cell? ⟨b, off + k * E + q, none⟩ = some u) ∧ All2 (CRel w J Z) news (lstC f E n k)
  | 0, k, _, _ => ⟨[], by simp, fun q u h => by simp at h, trivial⟩
  | n + 1, k, h1, h2 => by
    obtain ⟨news, g1, g2, g3⟩ := lst_cells n (k + 1) (fun i o hi ho => h1 i o (by omega) ho) (fun i o hi ho => h2 i o (by omega) ho)
    have hrow := all2_ipCells (J := J) (w := w) (Z := Z) (c := f k) (X := X k) E 0 fun o ho => h2 k o (by omega) (by omega)
    refine ⟨(List.range' 0 E).map (X k) ++ news, by rw [List.length_append, List.length_map, List.length_range', g1, Nat.add_mul]; omega, fun q u hq => ?_, hrow.append g3⟩
    by_cases hqE : q < E
    · rw [List.getElem?_append_left (by simpa using hqE)] at hq
      simp [List.getElem?_range', hqE] at hq
      rw [h1 k q (by omega) hqE, hq]
    · rw [List.getElem?_append_right (by simp; omega)] at hq
      simp only [List.length_map, List.length_range'] at hq
      have := g2 _ _ hq
      rw [Nat.add_mul, show off + (k * E + 1 * E) + (q - E) = off + k * E + q by omega] at this
      exact this
theorem src_cells (R : Rel w0 Z0 J Z s a w) {size m : Nat} {nd : Prop} {v : Value} {x : TV} {ns : List CV} (h : srcF size (hget s.heap) x = some (nd, m, ns)) (hn : nd) (hv : TRel w J Z v x) :
    (m = 0 ∧ ns = [] ∧ ∃ p c, v = .slice p 0 c) ∨ (0 < m ∧ ∃ b off cap news, v = .slice (some ⟨b, off, none⟩) m cap ∧ news.length = m * size ∧ (∀ (k : Nat) u, news[k]? = some u → w.cell? ((⟨b, off, none⟩ : Addr).add k) = some u) ∧ (∀ u ∈ news, u.oneCell' = true) ∧ All2 (CRel w J Z) news ns) := by
  have one : ∀ {news : List Value} {ns : List CV}, All2 (CRel w J Z) news ns → ∀ u ∈ news, u.oneCell' = true := fun {news ns} h3 u hu => by
    obtain ⟨q, hq, e⟩ := List.getElem_of_mem hu
    have : q < ns.length := by rw [← h3.length]; exact hq
    obtain ⟨x, hx, hr⟩ := h3.get (List.getElem?_eq_getElem this)
    rw [List.getElem?_eq_getElem hq, Option.some.injEq] at hx
    rw [← e, hx]; exact CRel.one hr
  unfold srcF at h
  split at h
  · simp only [Option.some.injEq, Prod.mk.injEq] at h
    obtain ⟨rfl, rfl, rfl⟩ := h
    cases hv
    exact Or.inl ⟨rfl, rfl, _, _, rfl⟩
  · rename_i E n f
    split at h
    · rename_i hE
      subst hE
      simp only [Option.some.injEq, Prod.mk.injEq] at h
      obtain ⟨rfl, rfl, rfl⟩ := h
      cases hv with
      | nil p cap => exact Or.inl ⟨rfl, by simp [lstC], _, _, rfl⟩
      | lst b off _ cap _ _ X hz hnc hm q1 q2 =>
        by_cases h0 : n = 0
        · subst h0; exact Or.inl ⟨rfl, by simp [lstC], _, _, rfl⟩
        · obtain ⟨news, g1, g2, g3⟩ := lst_cells (J := J) (w := w) (Z := Z) (f := f) (X := X) (b := b) (off := off) (E := E) n 0 (fun i o hi ho => q1 i o (by omega) ho) (fun i o hi ho => q2 i o (by omega) ho)
          refine Or.inr ⟨by omega, b, off, cap, news, rfl, g1, fun k u hk => ?_, one g3, g3⟩
          have := g2 k u hk
          rw [Addr.add_lit]
          simpa using this
    · cases h
  · rename_i j off m' E
    split at h
    · rename_i ns' hns
      split at h
      · rename_i hE
        subst hE
        simp only [Option.some.injEq, Prod.mk.injEq] at h
        obtain ⟨rfl, rfl, rfl⟩ := h
        rcases slc_cells R hv hns hn with ⟨rfl, rfl⟩ | ⟨b, cap, news, rfl, n1, n2, n3, n4⟩
        · exact Or.inl ⟨rfl, by simp, _, _, rfl⟩
        · by_cases h0 : m' = 0
          · subst h0; exact Or.inl ⟨rfl, by simp, _, _, rfl⟩
          · exact Or.inr ⟨by omega, b, off, cap, news, rfl, n1, n2, n3, n4⟩
      · cases h
    · cases h
  · cases h
theorem run_append_none {t ty e : TypeId} {i : TypeInfo} (ht : P.underlying t = some (.slice e)) (hi : P.info? e = some i) (base p : Option Addr) (sLen sCap c : Nat) (hc : sLen ≤ sCap) :
    (Builtin.append_ #[t, t] ty #[.slice base sLen sCap, .slice p 0 c]).run P w = .ok (.slice base sLen sCap) w := by
  have hf : (Builtin.firstCells i.size 0 (.slice p 0 c)).run P w = .ok #[] w := by
    cases p with
    | none => exact run_firstCells_none ..
    | some a => exact run_firstCells_some (P := P) w i.size 0 a 0 c [] (by simp) (fun j v h => by simp at h)
  have hst : ∀ a, (storeCells a []).run P w = .ok () w := fun a => by simp [storeCells]
  cases base <;> simp [Builtin.append_, run_underlying ht, sizeOf, typeInfo, hi, Builtin.lenOf, hc, hf, hst]
theorem run_app (R : Rel w0 Z0 J Z s a w) {t e ty : TypeId} {n b nid : Nat} {v1 v2 : Value} {x1 x2 : TV} {nd : Prop} {r : AV} {ef : Eff} (hh : hget s.heap nid = none) (ht : slD P t = some (n, b, e)) (h1 : TRel w J Z v1 x1) (h2 : TRel w J Z v2 x2) (h : appF nid n b (hget s.heap) x2 x1 = some (nd, r, ef)) (hn : nd) :
    ∃ u w' J', (Builtin.append_ #[t, t] ty #[v1, v2]).run P w = .ok u w' ∧ Rel w0 Z0 J' Z (s.eff nid ef) a w' ∧ ARel w' J' Z u r := by
  obtain ⟨i, z, t1, t2, t3, t4, t5, t6, t7⟩ := slD_spec ht
  subst t5 t6
  unfold appF at h
  split at h
  · -- nil
    split at h
    · rename_i nd' m ns hsrc
      simp only [Option.some.injEq, Prod.mk.injEq] at h
      obtain ⟨rfl, rfl, rfl⟩ := h
      obtain ⟨hm, hby, hmx⟩ := hn
      obtain rfl : v1 = .slice none 0 0 := by cases h1; rfl
      rcases src_cells R hsrc hm h2 with ⟨rfl, rfl, p, c, rfl⟩ | ⟨hpos, b2, off, cap2, news, rfl, n1, n2, n3, n4⟩
      · exact ⟨_, w, J, run_append_none t1 t2 none p 0 0 c (Nat.le_refl _), R.newEmpty hh (hget_hset_same _ _ _) (fun q hq => hget_hset_ne _ _ _ _ hq), Or.inl ⟨rfl, rfl⟩⟩
      · have hrun := run_append_nil (P := P) w t ty e i z t1 t2 t3 ⟨b2, off, none⟩ m cap2 news n1 n2 hpos (by unfold maxLen at hmx; omega) (by omega)
        refine ⟨_, _, jset J nid w.heap.size, hrun, ?_, ?_⟩
        · have hd := R.drew
          refine hd.new hh (hget_hset_same _ _ _) (fun q hq => hget_hset_ne _ _ _ _ hq) ?_
          have hl2 := n4.length
          refine all2_drew ?_
          rw [Array.toList_append, List.take_append_of_le_length (by simp; omega)]
          rw [List.take_of_length_le (by simp; omega)]
          exact n4
        · refine Or.inr ⟨w.heap.size, _, _, e, rfl, by simp [jset], grownCap_ge w m 0 e, grownCap_le_maxLen w m 0 e hmx, heap_alloc_new w.drew _, ?_⟩
          have := grownCap_ge w m 0 e
          simp only [Array.size_append, size_zeroCells, t4]
          simp only [List.size_toArray, n1]
          rw [← Nat.add_mul]
          exact Nat.le_trans (by simp) (Nat.mul_le_mul_right _ (by omega : grownCap w m 0 e ≤ m + (grownCap w m 0 e - m)))
    · cases h
  · -- own
    rename_i k n' E
    split at h
    · rename_i cs nd' m ns hcs hsrc
      split at h
      · rename_i hE
        subst hE
        simp only [Option.some.injEq, Prod.mk.injEq] at h
        obtain ⟨rfl, rfl, rfl⟩ := h
        obtain ⟨hm, hl1, hby, hmx⟩ := hn
        have mv : ∀ (news : List Value) (C : Array Value), hget s.heap k = some cs → All2 (CRel w J Z) (C.toList.take (cs ++ ns).length) (cs ++ ns) → Rel w0 Z0 (jset J k w.heap.size) Z (s.eff nid (.app k (purgeC k (cs ++ ns)))) a (w.drew.alloc (.cells C e)) := fun news C hcs hC => by
          have R1 := (R.purge k).drew
          refine Rel.move (s := s.purge k) (cs := purgeC k (cs ++ ns)) R1 ?_ (hget_hset_same _ _ _) (fun q hq => hget_hset_ne _ _ _ _ hq) (fun t => ?_) (fun f t => ?_) (fun q x hq y hy => ?_) ?_
          · simp [AS.purge, hget_purge, hcs]
          · simp only [AS.purge, AS.get, lk_purge]; exact AV.purge_ok k _
          · simp only [AS.purge, gk_purge]; exact AV.purge_ok k _
          · by_cases hqk : q = k
            · subst hqk
              rw [hget_hset_same, Option.some.injEq] at hq
              subst hq
              exact purgeC_ok q _ y hy
            · rw [hget_hset_ne _ _ _ _ hqk] at hq
              simp only [AS.purge, hget_purge, Option.map_eq_some_iff] at hq
              obtain ⟨cs0, _, rfl⟩ := hq
              exact purgeC_ok k _ y hy
          · refine all2_drew ?_
            rw [show (purgeC k (cs ++ ns)).length = (cs ++ ns).length by rw [purgeC, List.length_map]]
            exact all2_purge k hC
        rcases src_cells R hsrc hm h2 with ⟨rfl, rfl, p, c, rfl⟩ | ⟨hpos, b2, off, cap2, news, rfl, n1, n2, n3, n4⟩
        · obtain ⟨base, cap0, rfl, hc0⟩ : ∃ base cap0, v1 = .slice base n' cap0 ∧ n' ≤ cap0 := by
            rcases h1 with ⟨rfl, rfl⟩ | ⟨b1, cap1, c1, e1, rfl, hj, hc1, _⟩
            · exact ⟨none, 0, rfl, Nat.le_refl _⟩
            · exact ⟨_, _, rfl, hc1⟩
          refine ⟨_, w, J, run_append_none t1 t2 base p n' cap0 c hc0, ?_, ?_⟩
          · have R1 := R.purge k
            refine R1.same (H := hset (purgeH k s.heap) k (purgeC k (cs ++ []))) fun q => ?_
            by_cases hq : q = k
            · subst hq; rw [hget_hset_same]; simp [AS.purge, hget_purge, hcs]
            · rw [hget_hset_ne _ _ _ _ hq]; rfl
          · rw [Nat.add_zero]; exact h1
        · rcases h1 with ⟨rfl, rfl⟩ | ⟨b1, cap1, c, e1, rfl, hj, hc1, hc2, hb, hs⟩
          · rw [Nat.zero_mul] at hl1
            have hcs0 : cs = [] := List.eq_nil_of_length_eq_zero hl1
            subst hcs0
            simp only [Nat.zero_add, List.nil_append] at hby hmx mv ⊢
            have hrun := run_append_nil (P := P) w t ty e i z t1 t2 t3 ⟨b2, off, none⟩ m cap2 news n1 n2 hpos (by unfold maxLen at hmx; omega) (by omega)
            refine ⟨_, _, jset J k w.heap.size, hrun, mv news _ hcs ?_, ?_⟩
            · have hl2 := n4.length
              rw [Array.toList_append, List.take_append_of_le_length (by simp; omega)]
              rw [List.take_of_length_le (by simp; omega)]
              exact n4
            · refine Or.inr ⟨w.heap.size, _, _, e, rfl, by simp [jset], grownCap_ge w m 0 e, grownCap_le_maxLen w m 0 e hmx, heap_alloc_new w.drew _, ?_⟩
              have := grownCap_ge w m 0 e
              simp only [Array.size_append, size_zeroCells, t4]
              simp only [List.size_toArray, n1]
              rw [← Nat.add_mul]
              exact Nat.le_trans (by simp) (Nat.mul_le_mul_right _ (by omega : grownCap w m 0 e ≤ m + (grownCap w m 0 e - m)))
          · have old : ∃ c0, All2 (CRel w J Z) (c.toList.take (n' * i.size)) cs ∧ n' * i.size ≤ c0 ∧ c0 = c.size := by
              refine ⟨c.size, ?_, Nat.le_trans (Nat.mul_le_mul_right _ hc1) (by omega), rfl⟩
              by_cases hne : cs = []
              · subst hne
                simp only [List.length_nil] at hl1
                rw [← hl1, List.take_zero]; trivial
              · obtain ⟨c', e', g2, g3⟩ := R.cells hcs hne hj ⟨_, _, hb⟩
                rw [hb] at g2
                obtain ⟨rfl, rfl⟩ : c = c' ∧ e1 = e' := by simp at g2; exact g2
                rw [← hl1]; exact g3
            obtain ⟨_, g3, hnc, rfl⟩ := old
            have hlen : min (n' * i.size) c.size = n' * i.size := by omega
            have hl2 := n4.length
            have hcat : All2 (CRel w J Z) (c.toList.take (n' * i.size) ++ news) (cs ++ ns) := g3.append n4
            have hlc : (cs ++ ns).length = n' * i.size + m * i.size := by simp only [List.length_append]; omega
            by_cases hroom : n' + m ≤ cap1
            · have hfit : n' * i.size + news.length ≤ c.size := by
                rw [n1, ← Nat.add_mul]; exact Nat.le_trans (Nat.mul_le_mul_right _ hroom) (by omega)
              have hrun := run_append_room' (P := P) (w := w) t ty e e1 i t1 t2 b1 n' cap1 c hb ⟨b2, off, none⟩ m cap2 news n1 n2 n3 hroom hfit
              refine ⟨_, _, J, hrun, ?_, ?_⟩
              · have hN : (c.toList.take (n' * i.size) ++ news ++ c.toList.drop (n' * i.size + news.length)).toArray.size = c.size := by simp; omega
                have R1 := Rel.set (c' := (c.toList.take (n' * i.size) ++ news ++ c.toList.drop (n' * i.size + news.length)).toArray) R hcs hj hb hN (hget_hset_same s.heap k (cs ++ ns)) (fun q hq => hget_hset_ne _ _ _ _ hq) (by
                  rw [hlc]
                  show All2 _ (List.take _ (c.toList.take (n' * i.size) ++ news ++ c.toList.drop (n' * i.size + news.length))) _
                  rw [List.take_append_of_le_length (by simp; omega), List.take_of_length_le (by simp; omega)]
                  exact hcat)
                have R2 := R1.purge k
                simp only [AS.purge, purgeH_hset] at R2
                exact R2
              · refine Or.inr ⟨b1, cap1, _, e1, rfl, hj, hroom, hc2, setRow_heap w b1 c _ e1 (0, 0) hb, ?_⟩
                have : (c.toList.take (n' * i.size) ++ news ++ c.toList.drop (n' * i.size + news.length)).toArray.size = c.size := by simp; omega
                rw [this]; exact hs
            · have hg : cap1 < n' + m := by omega
              have holds : ∀ (q : Nat) u, (c.toList.take (n' * i.size))[q]? = some u → w.cell? ((⟨b1, 0, none⟩ : Addr).add q) = some u := fun q u hq => by
                rw [Addr.add_lit, cell_of_row w b1 (0 + q) c e1 (0, 0) hb]
                rw [List.getElem?_take] at hq
                split at hq
                · simpa using hq
                · cases hq
              have hrun := run_append_grow (P := P) w t ty e i z t1 t2 t3 ⟨b1, 0, none⟩ n' cap1 (c.toList.take (n' * i.size)) (by simp; omega) holds ⟨b2, off, none⟩ m cap2 news n1 n2 hg (by unfold maxLen at hmx; omega) (by
                exact growslice_fits hg hby)
              refine ⟨_, _, jset J k w.heap.size, hrun, mv news _ hcs ?_, ?_⟩
              · rw [hlc]
                rw [Array.toList_append, List.take_append_of_le_length (by simp; omega), List.take_of_length_le (by simp; omega), Array.toList_append]
                exact hcat
              · refine Or.inr ⟨w.heap.size, _, _, e, rfl, by simp [jset], grownCap_ge w _ _ e, grownCap_le_maxLen w _ _ e hmx, heap_alloc_new w.drew _, ?_⟩
                have := grownCap_ge w (n' + m) cap1 e
                simp only [Array.size_append, size_zeroCells, t4]
                simp only [List.size_toArray, n1, List.length_take, Array.length_toList]
                rw [show min (n' * i.size) c.size = n' * i.size by omega, ← Nat.add_mul, ← Nat.add_mul]
                exact Nat.le_trans (by simp) (Nat.mul_le_mul_right _ (by omega : grownCap w (n' + m) cap1 e ≤ n' + m + (grownCap w (n' + m) cap1 e - (n' + m))))
      · cases h
    · cases h
  · cases h
end
end Go.Sea
namespace Go.Sea
open Go.RowKit
inductive LK where
  | int (k : IntKind)
  | bool
  | str
def LK.ok : LK → Value → Prop
  | .int k, .int k' _ => k' = k
  | .bool, .bool _ => True
  | .str, .string _ => True
  | _, _ => False
def leafFs (g : TypeId → Option (List LK)) : List Field → Nat → Option (List LK)
  | [], _ => some []
  | f :: fs, off => match decide (f.name ≠ "_" ∧ f.offset = off), g f.type with
    | true, some l => match leafFs g fs (off + l.length) with
      | some r => some (l ++ r)
      | none => none
    | _, _ => none
def leafK (P : Program) : Nat → TypeId → Option (List LK)
  | 0, _ => none
  | d + 1, t => match P.underlying t with
    | some .bool => some [.bool]
    | some (.int k) => some [.int k]
    | some .string => some [.str]
    | some (.struct fs) => match P.stoodInHeld t, leafFs (leafK P d) fs.toList 0 with
      | false, some l => if P.cellsOf t = l.length then some l else none
      | _, _ => none
    | _ => none
def eqV : Value → Value → Bool
  | .int _ a, .int _ b => a == b
  | .bool a, .bool b => a == b
  | .string a, .string b => a.toList == b.toList
  | _, _ => false
def eqVs : List Value → List Value → Bool
  | [], [] => true
  | a :: x, b :: y => eqV a b && eqVs x y
  | _, _ => false
theorem eqVs_app : ∀ {a b c d : List Value}, a.length = b.length → eqVs (a ++ c) (b ++ d) = (eqVs a b && eqVs c d)
  | [], [], _, _, _ => by simp [eqVs]
  | a :: x, b :: y, _, _, h => by
    simp only [List.cons_append, eqVs]
    rw [eqVs_app (by simpa using h), Bool.and_assoc]
  | [], _ :: _, _, _, h => by simp at h
  | _ :: _, [], _, _, h => by simp at h
def packV (P : Program) (t : TypeId) (xs : List Value) : Value := match P.underlying t with
  | some (.struct _) => .agg xs.toArray
  | _ => xs.headD undef
theorem all2_split {α β : Type} {R : α → β → Prop} : ∀ {a : List α} {b : List α} {l : List β}, All2 R (a ++ b) l → ∃ x y, l = x ++ y ∧ All2 R a x ∧ All2 R b y
  | [], b, l, h => ⟨[], l, rfl, by simp [All2], h⟩
  | a :: r, b, [], h => h.elim
  | a :: r, b, v :: l, ⟨h1, h2⟩ => by
    obtain ⟨x, y, rfl, h3, h4⟩ := all2_split h2
    exact ⟨v :: x, y, rfl, ⟨h1, h3⟩, h4⟩
section
variable {P : Program}
theorem part_leaf {d : Nat} {t : TypeId} {l : List LK} (h : leafK P d t = some l) {px x1 x2 : List Value} (hx : All2 LK.ok l x1) (w : World) : (part t (px ++ (x1 ++ x2)).toArray px.length).run P w = .ok (packV P t x1) w := by
  cases d with
  | zero => simp [leafK] at h
  | succ d =>
    unfold leafK at h
    have one : ∀ v, x1 = [v] → (∀ fs, P.underlying t ≠ some (.struct fs)) → (∀ n e, P.underlying t ≠ some (.array n e)) → (∃ k, P.underlying t = some k) → (part t (px ++ (x1 ++ x2)).toArray px.length).run P w = .ok (packV P t x1) w := by
      rintro v rfl h1 h2 ⟨k, hk⟩
      have e : ((px ++ ([v] ++ x2)).toArray)[px.length]? = some v := by simp
      have e2 : packV P t [v] = v := by
        unfold packV
        split
        · rename_i fs hf; exact absurd hf (h1 fs)
        · rfl
      rw [e2]
      unfold part isAgg
      simp only [Sem.run_bind, run_underlying hk, Result.andThen_ok]
      split
      · rename_i fs; exact absurd hk (h1 _)
      · rename_i n e; exact absurd hk (h2 _ _)
      · simp [e, Sem.run_bind]
    split at h
    · rename_i hu
      cases h
      match x1, hx with
      | [v], _ => exact one v rfl (fun fs e => by rw [hu] at e; cases e) (fun n e h => by rw [hu] at h; cases h) ⟨_, hu⟩
    · rename_i k hu
      cases h
      match x1, hx with
      | [v], _ => exact one v rfl (fun fs e => by rw [hu] at e; cases e) (fun n e h => by rw [hu] at h; cases h) ⟨_, hu⟩
    · rename_i hu
      cases h
      match x1, hx with
      | [v], _ => exact one v rfl (fun fs e => by rw [hu] at e; cases e) (fun n e h => by rw [hu] at h; cases h) ⟨_, hu⟩
    · rename_i fs hu
      split at h
      · rename_i l' h1 h2
        split at h
        · rename_i hc
          cases h
          obtain ⟨i, hi⟩ := info_of_underlying hu
          have hl := hx.length
          have e2 : packV P t x1 = .agg x1.toArray := by unfold packV; rw [hu]
          rw [e2]
          have e : (px ++ (x1 ++ x2)).toArray.extract px.length (px.length + P.cellsOf t) = x1.toArray := by
            apply Array.toList_inj.1
            simp only [Array.toList_extract, List.extract_eq_take_drop, Nat.add_sub_cancel_left, List.drop_left]
            rw [hc, hl, List.take_left]
          unfold part isAgg
          simp only [Sem.run_bind, run_underlying hu, Result.andThen_ok, Sem.run_pure, if_true, run_sizeOf w hi, e]
        · cases h
      · cases h
    · cases h
theorem eqFields_leaf {d e : Nat} (IH : ∀ (t : TypeId) (ks : List LK), leafK P d t = some ks → ∀ xs ys, All2 LK.ok ks xs → All2 LK.ok ks ys → ∀ w, (Op.equalIn (e + d) t (packV P t xs) (packV P t ys)).run P w = .ok (eqVs xs ys) w) :
    ∀ (fs : List Field) (r : List LK) (px py xs ys : List Value), px.length = py.length → leafFs (leafK P d) fs px.length = some r → All2 LK.ok r xs → All2 LK.ok r ys → ∀ w, (Op.eqFields (e + d) (px ++ xs).toArray (py ++ ys).toArray fs).run P w = .ok (eqVs xs ys) w
  | [], r, px, py, xs, ys, _, h, hx, hy, w => by
    simp only [leafFs, Option.some.injEq] at h
    subst h
    match xs, ys, hx, hy with
    | [], [], _, _ => simp [Op.eqFields, eqVs]
  | f :: fs, r, px, py, xs, ys, hp, h, hx, hy, w => by
    unfold leafFs at h
    split at h
    · rename_i l hd hl
      split at h
      · rename_i r' hr
        cases h
        obtain ⟨x1, x2, rfl, a1, a2⟩ := all2_split hx
        obtain ⟨y1, y2, rfl, b1, b2⟩ := all2_split hy
        obtain ⟨hn, ho⟩ := of_decide_eq_true hd
        have p1 := part_leaf hl (px := px) (x2 := x2) a1 w
        have p2 := part_leaf hl (px := py) (x2 := y2) b1 w
        have q := IH f.type l hl x1 y1 a1 b1 w
        have len1 := a1.length
        have len2 := b1.length
        have ih := eqFields_leaf IH fs r' (px ++ x1) (py ++ y1) x2 y2 (by simp; omega) (by rw [List.length_append, ← len1]; exact hr) a2 b2 w
        rw [← hp] at p2
        rw [eqVs_app (by omega)]
        simp only [List.append_assoc] at ih
        simp only [Op.eqFields, hn, ne_eq, not_false_eq_true, if_true, Sem.run_bind, ho, p1, p2, q, Result.andThen_ok]
        cases eqVs x1 y1
        · simp
        · simpa using ih
      · cases h
    · cases h
theorem eq_leaf : ∀ (d e : Nat) (t : TypeId) (ks : List LK), leafK P d t = some ks → ∀ xs ys, All2 LK.ok ks xs → All2 LK.ok ks ys → ∀ w, (Op.equalIn (e + d) t (packV P t xs) (packV P t ys)).run P w = .ok (eqVs xs ys) w
  | 0, _, _, _, h => by simp [leafK] at h
  | d + 1, e, t, ks, h => by
    intro xs ys hx hy w
    unfold leafK at h
    split at h
    · rename_i hu
      cases h
      match xs, ys, hx, hy with
      | [.bool a], [.bool b], _, _ => simp [packV, hu, eqVs, eqV, ← Nat.add_assoc, run_equalIn_bool' w (e + d) t a b hu]
    · rename_i k hu
      cases h
      match xs, ys, hx, hy with
      | [.int k1 a], [.int k2 b], ⟨h1, _⟩, ⟨h2, _⟩ =>
        simp only [LK.ok] at h1 h2
        subst h1; subst h2
        simp [packV, hu, eqVs, eqV, ← Nat.add_assoc, run_equalIn_int w (e + d) t _ _ a b hu]
    · rename_i hu
      cases h
      match xs, ys, hx, hy with
      | [.string a], [.string b], _, _ => simp [packV, hu, eqVs, eqV, ← Nat.add_assoc, run_equalIn_string w (e + d) t a b hu]
    · rename_i fs hu
      split at h
      · rename_i l' h1 h2
        split at h
        · rename_i hc
          cases h
          have ef : P.fieldsOf t = fs := by unfold Program.fieldsOf; rw [hu]
          have e1 : packV P t xs = .agg xs.toArray := by unfold packV; rw [hu]
          have e2 : packV P t ys = .agg ys.toArray := by unfold packV; rw [hu]
          rw [e1, e2, ← Nat.add_assoc, run_equalIn_struct w (e + d) t _ _ (by rw [ef]; exact hu) h1, ef]
          exact eqFields_leaf (fun t ks h xs ys hx hy w => eq_leaf d e t ks h xs ys hx hy w) fs.toList ks [] [] xs ys rfl h2 hx hy w
        · cases h
      · cases h
    · cases h
end
def eqD (P : Program) (t : TypeId) : Option (Bool × List LK) := match P.underlying t with
  | some (.struct _) => if P.eqGuardType P.depth t = false then match leafK P 8 t with
    | some ks => some (true, ks)
    | none => none
    else none
  | some .string => some (false, [.str])
  | _ => none
def gvs : List LK → List CV → Option (List Value)
  | [], [] => some []
  | .int k :: ks, .iv (.g (.int k' n)) :: cs => match decide (k' = k), gvs ks cs with
    | true, some l => some (.int k' n :: l)
    | _, _ => none
  | .bool :: ks, .iv (.g (.bool b)) :: cs => match gvs ks cs with
    | some l => some (.bool b :: l)
    | none => none
  | .str :: ks, .iv (.g (.string b)) :: cs => match gvs ks cs with
    | some l => some (.string b :: l)
    | none => none
  | _, _ => none
theorem gvs_spec {w : World} {J : Nat → Option Nat} {Z : Nat → Prop} : ∀ {ks : List LK} {cs : List CV} {l : List Value}, gvs ks cs = some l → All2 LK.ok ks l ∧ ∀ vs : List Value, All2 (CRel w J Z) vs cs → vs = l
  | [], cs, l, h => by
    unfold gvs at h
    split at h <;> simp_all
    subst h
    exact ⟨by simp [All2], fun vs hv => by cases vs <;> simp_all [All2]⟩
  | k :: ks, cs, l, h => by
    unfold gvs at h
    split at h
    · cases ‹k :: ks = []›
    · rename_i k1 ks' k' n cs' e
      cases e
      split at h
      · rename_i l' hk hl
        cases h
        obtain ⟨a, b⟩ := gvs_spec hl
        have hk' : k' = k1 := of_decide_eq_true hk
        refine ⟨⟨hk', a⟩, fun vs hv => ?_⟩
        match vs, hv with
        | v :: vs, ⟨h1, h2⟩ => rw [b vs h2]; cases h1; rfl
      · cases h
    · rename_i ks' b' cs' e
      cases e
      split at h
      · rename_i l' hl
        cases h
        obtain ⟨a, b⟩ := gvs_spec hl
        refine ⟨⟨trivial, a⟩, fun vs hv => ?_⟩
        match vs, hv with
        | v :: vs, ⟨h1, h2⟩ => rw [b vs h2]; cases h1; rfl
      · cases h
    · rename_i ks' b' cs' e
      cases e
      split at h
      · rename_i l' hl
        cases h
        obtain ⟨a, b⟩ := gvs_spec hl
        refine ⟨⟨trivial, a⟩, fun vs hv => ?_⟩
        match vs, hv with
        | v :: vs, ⟨h1, h2⟩ => rw [b vs h2]; cases h1; rfl
      · cases h
    · cases h
end Go.Sea
