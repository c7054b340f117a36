/- Part 2 of 18: contracts of functions and plain laws for the root text. No condition. -/
import Derived.Test.YtmnejmpjmniiiaaGreatDoorV01
import Derived.Laws.StructEq
import Derived.ChangeKeysEq
set_option linter.unusedVariables false
set_option linter.unusedSimpArgs false
set_option linter.unusedSectionVars false
set_option linter.deprecated false
namespace Go.Sea
open Go.RowKit
def Fu : CV -> IV
  | .iv c => c
  | _ => .g undef
def kg : CV -> Prop
  | .iv _ => True
  | _ => False
def mJ (i : Nat) (cs : List CV) : CV -> CV
  | .slc j off n E => if j = i then (if off + n * E <= cs.length then .iv (.lst E n fun p o => Fu (cs.getD (off + p * E + o) .any)) else .any) else .slc j off n E
  | .ptr j o => if j = i then (if o < cs.length then .ip (cs.length - o) (fun k => Fu (cs.getD (o + k) .any)) else .any) else .ptr j o
  | .fn f a b => if (CV.fn f a b).has i = true then .any else .fn f a b
  | .mp j => if j = i then .any else .mp j
  | .it j => if j = i then .any else .it j
  | .ml l => if (CV.ml l).has i = true then .any else .ml l
  | .mt j c p q => if j = i then .any else .mt j c p q
  | c => c
def QT (i : Nat) (cs : List CV) : TV -> TV
  | .one c => .one (mJ i cs c)
  | .agg l => .agg (l.map (mJ i cs))
def Qo (i : Nat) (cs : List CV) : AV -> AV
  | .t x => .t (QT i cs x)
  | .tup l => .tup (l.map (QT i cs))
  | .mb b x => .mb b (QT i cs x)
  | .any => .any
def JG (i : Nat) (cs : List CV) (env : List (Nat × AV)) : List (Nat × AV) := env.map fun p => (p.1, Qo i cs p.2)
def P9 (i : Nat) (cs : List CV) (g : List (Nat × List (Nat × AV))) : List (Nat × List (Nat × AV)) := g.map fun p => (p.1, JG i cs p.2)
def XQ (i : Nat) (cs : List CV) (h : List (Option (List CV))) : List (Option (List CV)) := h.map fun o => o.map (List.map (mJ i cs))
def hdel : List (Option (List CV)) -> Nat -> List (Option (List CV))
  | [], _ => []
  | _ :: h, 0 => none :: h
  | x :: h, i + 1 => x :: hdel h i
theorem qW : ∀ (h : List (Option (List CV))) (i k : Nat), hget (hdel h i) k = if k = i then none else hget h k
  | [], i, k => by simp [hdel, hget]
  | x :: h, 0, 0 => by simp [hdel, hget]
  | x :: h, 0, k + 1 => by simp [hdel, hget]
  | x :: h, i + 1, 0 => by simp [hdel, hget]
  | x :: h, i + 1, k + 1 => by
    have := qW h i k
    simpa [hdel, hget] using this
def AS.Yk (i : Nat) (cs : List CV) (s : AS) : AS := ⟨JG i cs s.env, hdel (XQ i cs s.heap) i, s.N, P9 i cs s.gh, s.lp⟩
def Ho (i : Nat) (s : AS) : Option (List CV) -> Prop
  | some cs => ∀ c, c ∈ cs -> kg c
  | none => False
def AS.xC (i : Nat) (s : AS) : AS := match hget s.heap i with
  | some cs => s.Yk i cs
  | none => s
theorem Kz (i : Nat) (cs : List CV) (t : Nat) : ∀ env : List (Nat × AV), lk (JG i cs env) t = Qo i cs (lk env t)
  | [] => rfl
  | (k, v) :: r => by
    simp only [JG, List.map_cons, lk]
    split
    · rfl
    · exact Kz i cs t r
theorem Uv (i : Nat) (cs : List CV) (f : Nat) : ∀ g : List (Nat × List (Nat × AV)), gf (P9 i cs g) f = JG i cs (gf g f)
  | [] => rfl
  | (k, v) :: r => by
    simp only [P9, List.map_cons, gf]
    split
    · rfl
    · exact Uv i cs f r
theorem abg (i : Nat) (cs : List CV) (f t : Nat) (g : List (Nat × List (Nat × AV))) : gk (P9 i cs g) f t = Qo i cs (gk g f t) := by
  simp only [gk, Uv, Kz]
theorem HY (i : Nat) (cs : List CV) (k : Nat) (h : List (Option (List CV))) : hget (XQ i cs h) k = (hget h k).map (List.map (mJ i cs)) := by
  simp only [hget, XQ, List.getElem?_map]
  cases h[k]? <;> rfl
section
variable {w0 : World} {Z0 : Fr} {J : Nat -> Option Nat} {Z : Nat -> Prop} {s : AS} {a : Act} {w : World}
theorem jne {i : Nat} {l : LV} (h : l.has i = false) {v : Value} {Z' : Nat -> Prop} (hz : ∀ b, Z b -> Z' b) (hr : jR w J Z v l) : jR w (fun k => if k = i then none else J k) Z' v l := by
  cases l with
  | iv c => exact Rd.mono hr hz fun _ _ _ => rfl
  | ptr j o =>
    simp only [LV.has, beq_eq_false_iff_ne] at h
    obtain ⟨b, e, hj, ho⟩ := hr
    exact ⟨b, e, by simp only; rw [if_neg h]; exact hj, ho⟩
  | mp j =>
    simp only [LV.has, beq_eq_false_iff_ne] at h
    obtain ⟨b, e, hj⟩ := hr
    exact ⟨b, e, by simp only; rw [if_neg h]; exact hj⟩
theorem bQ.xC (R : Rel w0 Z0 J Z s a w) {i : Nat} {cs : List CV} (hcs : hget s.heap i = some cs) (hiv : ∀ c, c ∈ cs -> kg c) {v : Value} {c : CV} (h : bQ w J Z v c) :
    bQ w (fun k => if k = i then none else J k) (fun b => Z b \/ J i = some b) v (mJ i cs c) := by
  have hz : ∀ b, Z b -> Z b \/ J i = some b := fun b h => Or.inl h
  have one : ∀ bb, J i = some bb -> Cm w bb -> ∀ k, k < cs.length -> ∃ c1 e1, w.heap[bb]? = some (.cells c1 e1 (0, 0)) /\ w.cell? ⟨bb, k, none⟩ = some (c1.getD k undef) /\ Rd w (fun b => Z b \/ J i = some b) (c1.getD k undef) (Fu (cs.getD k .any)) := by
    intro bb hj ho k hk
    obtain ⟨c1, e1, g2, g3⟩ := R.cells hcs (by rintro rfl; simp at hk) hj ho
    obtain ⟨u, hu, hr⟩ := g3.get (k := k) (y := cs.getD k .any) (by simp [List.getD, List.getElem?_eq_getElem hk])
    rw [List.getElem?_take, if_pos hk, Array.getElem?_toList] at hu
    have hg : c1.getD k undef = u := by simp [hu]
    refine ⟨c1, e1, g2, ?_, ?_⟩
    · rw [hg, cell_of_row w bb _ c1 e1 _ g2]; exact hu
    · rw [hg]
      have hi := hiv (cs.getD k .any) (by simp [List.getD, List.getElem?_eq_getElem hk])
      generalize cs.getD k .any = cv at hi hr
      cases cv <;> simp only [kg] at hi
      exact Rd.mono hr hz fun _ _ _ => rfl
  cases c with
  | iv c => exact Rd.mono h hz fun _ _ _ => rfl
  | ip m c =>
    obtain ⟨b, off, X, e, z, hX⟩ := h
    exact ⟨b, off, X, e, Or.inl z, fun o ho => ⟨(hX o ho).1, Rd.mono (hX o ho).2 hz fun _ _ _ => rfl⟩⟩
  | slc j off n E =>
    simp only [mJ]
    split
    · rename_i hj
      subst hj
      split
      · rename_i hb
        rcases h with ⟨rfl, rfl⟩ | ⟨bb, cap, c', e, rfl, hj, hc1, hc2, hb', hs⟩
        · exact Rd.nil _ _ _ _
        have key : ∀ p o, p < n -> o < E -> off + p * E + o < cs.length := fun p o hp ho => by
          have : (p + 1) * E <= n * E := Nat.mul_le_mul_right _ hp
          rw [Nat.add_mul] at this
          omega
        refine Rd.lst bb off n cap E _ (fun p o => c'.getD (off + p * E + o) undef) (Or.inr hj) hc1 hc2 (fun p o hp ho => ?_) fun p o hp ho => ?_
        · obtain ⟨c1, e1, g2, g3, _⟩ := one bb hj ⟨_, _, hb'⟩ _ (key p o hp ho)
          rw [hb'] at g2; cases g2; exact g3
        · obtain ⟨c1, e1, g2, _, g4⟩ := one bb hj ⟨_, _, hb'⟩ _ (key p o hp ho)
          rw [hb'] at g2; cases g2; exact g4
      · exact bQ.one (c := .slc j off n E) (J := J) (Z := Z) (w := w) h
    · rename_i hj
      rcases h with h | ⟨bb, cap, c', e, e1, hj', r⟩
      · exact Or.inl h
      · exact Or.inr ⟨bb, cap, c', e, e1, by simp only; rw [if_neg hj]; exact hj', r⟩
  | ptr j o =>
    simp only [mJ]
    split
    · rename_i hj
      subst hj
      split
      · rename_i hb
        obtain ⟨bb, rfl, hj, ho⟩ := h
        obtain ⟨c0, e0, g0, _, _⟩ := one bb hj ho o hb
        refine ⟨bb, o, fun k => c0.getD (o + k) undef, rfl, Or.inr hj, fun k hk => ?_⟩
        obtain ⟨c1, e1, g2, g3, g4⟩ := one bb hj ho (o + k) (by omega)
        rw [g0] at g2; cases g2
        exact ⟨g3, g4⟩
      · exact bQ.one (c := .ptr j o) (J := J) (Z := Z) (w := w) h
    · rename_i hj
      obtain ⟨bb, e, hj', ho⟩ := h
      exact ⟨bb, e, by simp only; rw [if_neg hj]; exact hj', ho⟩
  | mp j =>
    simp only [mJ]
    split
    · exact bQ.one (c := .mp j) (J := J) (Z := Z) (w := w) h
    · rename_i hj
      obtain ⟨bb, e, hj'⟩ := h
      exact ⟨bb, e, by simp only; rw [if_neg hj]; exact hj'⟩
  | it j =>
    simp only [mJ]
    split
    · exact bQ.one (c := .it j) (J := J) (Z := Z) (w := w) h
    · rename_i hj
      obtain ⟨bb, e, hj'⟩ := h
      exact ⟨bb, e, by simp only; rw [if_neg hj]; exact hj'⟩
  | mi => exact h.elim
  | m2 => exact h.elim
  | ml => exact h.elim
  | mt => exact h.elim
  | fn f x y =>
    simp only [mJ]
    split
    · exact bQ.one (c := .fn f x y) (J := J) (Z := Z) (w := w) h
    · rename_i hh
      simp only [CV.has, Bool.or_eq_true, not_or, Bool.not_eq_true, List.any_eq_false] at hh
      obtain ⟨A, B, e, h1, h2⟩ := h
      exact ⟨A, B, e, h1.mono' fun u l hl hr => jne (by simpa using hh.1 l hl) hz hr, h2.mono' fun u l hl hr => jne (by simpa using hh.2 l hl) hz hr⟩
  | any => exact h
theorem iO.xC (R : Rel w0 Z0 J Z s a w) {i : Nat} {cs : List CV} (hcs : hget s.heap i = some cs) (hiv : ∀ c, c ∈ cs -> kg c) {b : Nat} {ds : List CV} (h : iO w J Z b ds) :
    iO w (fun k => if k = i then none else J k) (fun b => Z b \/ J i = some b) b (ds.map (mJ i cs)) := by
  have hz : ∀ b, Z b -> Z b \/ J i = some b := fun b h => Or.inl h
  unfold iO at h
  split at h
  · obtain ⟨rfl, es, clock, h1, h0, k1⟩ := h
    exact ⟨rfl, es, clock, h1, h0, k1.mono hz fun _ _ _ => rfl⟩
  · obtain ⟨rfl, es, clock, h1, k1⟩ := h
    exact ⟨rfl, es, clock, h1, k1.mono hz fun _ _ _ => rfl⟩
  · rename_i l r
    obtain ⟨rfl, es, clock, h1, h2, h3⟩ := h
    simp only [List.map_cons, List.map_nil, mJ]
    split
    · exact iO.dead h1 rfl (by simp)
    · rename_i hh
      refine ⟨rfl, es, clock, h1, h2, aU.mono' (fun x y hy hr => ⟨hr.1, ?_⟩) h3⟩
      have := bQ.xC R hcs hiv hr.2
      have hn : (CV.fn y.2.1 y.2.2.1 y.2.2.2).has i = false := by
        simp only [CV.has, Bool.not_eq_true, List.any_eq_false] at hh
        exact hh y hy
      simp only [mJ, hn, Bool.false_eq_true, if_false] at this
      exact this
  · rename_i j x p q l
    obtain ⟨rfl, m, seen, es, clock, h1, h2, h3⟩ := h
    simp only [List.map_cons, List.map_nil, mJ]
    split
    · exact iO.dead h1 rfl (by simp)
    · rename_i hj
      exact ⟨rfl, m, seen, es, clock, h1, by simp only; rw [if_neg hj]; exact h2, h3⟩
  · rcases h with ⟨c, e, h1, h2⟩ | ⟨⟨o, h1, h2⟩, h3⟩
    · refine iO.of h1 ?_
      rw [List.length_map]
      exact aU.cO.2 (h2.mono fun _ _ => bQ.xC R hcs hiv)
    · refine iO.dead h1 h2 fun c hc => ?_
      obtain ⟨c', hc', rfl⟩ := List.mem_map.1 hc
      rw [h3 c' hc']; rfl
theorem bS.xC (R : Rel w0 Z0 J Z s a w) {i : Nat} {cs : List CV} (hcs : hget s.heap i = some cs) (hiv : ∀ c, c ∈ cs -> kg c) {v : Value} {x : TV} (h : bS w J Z v x) :
    bS w (fun k => if k = i then none else J k) (fun b => Z b \/ J i = some b) v (QT i cs x) := by
  cases x with
  | one c => exact bQ.xC R hcs hiv h
  | agg l => obtain ⟨A, e, h⟩ := h; exact ⟨A, e, aU.cO.2 (h.mono fun _ _ => bQ.xC R hcs hiv)⟩
theorem bD.xC (R : Rel w0 Z0 J Z s a w) {i : Nat} {cs : List CV} (hcs : hget s.heap i = some cs) (hiv : ∀ c, c ∈ cs -> kg c) {v : Value} {x : AV} (h : bD w J Z v x) :
    bD w (fun k => if k = i then none else J k) (fun b => Z b \/ J i = some b) v (Qo i cs x) := by
  cases x with
  | t x => exact bS.xC R hcs hiv h
  | tup l => obtain ⟨A, e, h⟩ := h; exact ⟨A, e, aU.cO.2 (h.mono fun _ _ => bS.xC R hcs hiv)⟩
  | mb b x => exact ⟨fun hb => bS.xC R hcs hiv (h.1 hb), h.2⟩
  | any => trivial
theorem Rel.xC (R : Rel w0 Z0 J Z s a w) {i : Nat} (hok : Ho i s (hget s.heap i)) : Rel w0 Z0 (fun k => if k = i then none else J k) (fun b => Z b \/ J i = some b) (s.xC i) a w := by
  unfold Ho at hok
  unfold AS.xC
  split at hok
  · rename_i cs hcs
    have sub : ∀ k b, (if k = i then none else J k) = some b -> k ≠ i /\ J k = some b := fun k b h => by
      split at h
      · cases h
      · rename_i hk; exact ⟨hk, h⟩
    refine ⟨R.nodef, R.size, R.below, fun b h => ?_, fun b h => ?_, fun k b h => ?_, fun k j b hk hj => ?_, fun k h => ?_, fun k ds h hne => ?_, fun t => ?_, fun f t => ?_, R.loops, R.lnd, R.ro, R.tab⟩
    · rcases h with h | h
      · exact R.zfrom b h
      · exact Or.inr (R.jlt i b h).1
    · rcases h with h | h
      · exact R.zlt b h
      · exact (R.jlt i b h).2.1
    · obtain ⟨hk, h⟩ := sub k b h
      have := R.jlt k b h
      exact ⟨this.1, this.2.1, fun hz => by
        rcases hz with hz | hz
        · exact this.2.2 hz
        · exact hk (R.inj k i b h hz)⟩
    · exact R.inj k j b (sub k b hk).2 (sub j b hj).2
    · simp only [AS.Yk, qW] at h
      by_cases hk : k = i
      · simp [hk]
      · rw [if_neg hk] at h ⊢
        rw [HY, Option.map_eq_none_iff] at h
        exact R.hole k h
    · simp only [AS.Yk, qW] at h
      by_cases hk : k = i
      · simp [hk] at h
      · rw [if_neg hk, HY, Option.map_eq_some_iff] at h
        obtain ⟨ds0, h, rfl⟩ := h
        obtain ⟨b, g1, g2⟩ := R.blk k ds0 h (by rintro rfl; exact hne rfl)
        exact ⟨b, by rw [if_neg hk]; exact g1, g2.xC R hcs hok⟩
    · show bD _ _ _ _ (lk (JG i cs s.env) t)
      rw [Kz]; exact bD.xC R hcs hok (R.slots t)
    · show bD _ _ _ _ (gk (P9 i cs s.gh) f t)
      rw [abg]; exact bD.xC R hcs hok (R.ghost f t)
  · exact hok.elim
theorem l5.xC (h : l5 w0 Z0 s a w) {i : Nat} (hok : Ho i s (hget s.heap i)) : l5 w0 Z0 (s.xC i) a w := by
  obtain ⟨J, Z, R⟩ := h
  exact ⟨_, _, R.xC hok⟩
def tO : List Nat -> AS -> Prop
  | [], _ => True
  | i :: L, s => Ho i s (hget s.heap i) /\ tO L (s.xC i)
def xV : List Nat -> AS -> AS
  | [], s => s
  | i :: L, s => xV L (s.xC i)
theorem agY (i : Nat) (s : AS) : (s.xC i).N = s.N := by unfold AS.xC; split <;> rfl
theorem Rx : ∀ (L : List Nat) (s : AS), (xV L s).N = s.N
  | [], _ => rfl
  | i :: L, s => (Rx L _).trans (agY i s)
theorem l5.xV : ∀ (L : List Nat) {s : AS} {a : Act} {w : World}, l5 w0 Z0 s a w -> tO L s -> l5 w0 Z0 (xV L s) a w
  | [], _, _, _, h, _ => h
  | i :: L, _, _, _, h, ⟨h1, h2⟩ => l5.xV L (h.xC h1) h2
end
end Go.Sea
namespace Go.Sea
open Go.RowKit
abbrev Hp := Nat -> Option (List CV)
inductive Eff where
  | nop
  | new (cs : List CV)
  | set (i : Nat) (cs : List CV)
  | app (i : Nat) (cs : List CV)
def hset : List (Option (List CV)) -> Nat -> List CV -> List (Option (List CV))
  | [], 0, x => [some x]
  | [], n + 1, x => none :: hset [] n x
  | _ :: h, 0, x => some x :: h
  | y :: h, n + 1, x => y :: hset h n x
theorem lC (i : Nat) : hget [] i = none := by simp [hget]
theorem kZ (y : Option (List CV)) (h : List (Option (List CV))) : hget (y :: h) 0 = y := by simp [hget]
theorem dW (y : Option (List CV)) (h : List (Option (List CV))) (n : Nat) : hget (y :: h) (n + 1) = hget h n := by simp [hget]
theorem bn : ∀ (h : List (Option (List CV))) (n : Nat) (x : List CV), hget (hset h n x) n = some x
  | [], 0, x => by simp [hset, hget]
  | [], n + 1, x => by rw [hset, dW]; exact bn [] n x
  | _ :: h, 0, x => by simp [hset, hget]
  | y :: h, n + 1, x => by rw [hset, dW]; exact bn h n x
theorem bE : ∀ (h : List (Option (List CV))) (n k : Nat) (x : List CV), k ≠ n -> hget (hset h n x) k = hget h k
  | [], 0, 0, x, hk => absurd rfl hk
  | [], 0, k + 1, x, hk => by rw [hset, dW, lC, lC]
  | [], n + 1, 0, x, hk => by rw [hset, kZ, lC]
  | [], n + 1, k + 1, x, hk => by rw [hset, dW, bE [] n k x (by omega), lC, lC]
  | _ :: h, 0, 0, x, hk => absurd rfl hk
  | _ :: h, 0, k + 1, x, hk => by rw [hset, dW, dW]
  | y :: h, n + 1, 0, x, hk => by rw [hset, kZ, kZ]
  | y :: h, n + 1, k + 1, x, hk => by rw [hset, dW, dW]; exact bE h n k x (by omega)
def AS.Ce (s : AS) (nid : Nat) : Eff -> AS
  | .nop => s
  | .new cs => { s with heap := hset s.heap nid cs }
  | .set i cs => { s with heap := hset s.heap i cs }
  | .app i cs => { s with env := qC i s.env, gh := tq i s.gh, heap := hset (mQ i s.heap) i cs }
def sS : Value -> AV
  | .agg A => if A.all Value.oneCell' then .t (.agg (A.toList.map fun v => .iv (.g v))) else .any
  | .tuple _ => .any
  | v => .t (.one (.iv (.g v)))
def AS.ev (s : AS) : Operand -> AV
  | .tmp t => s.get t
  | .const v => sS v
  | .func f => .t (.one (.iv (.g (.func (.func f) #[] #[]))))
  | .global _ => .any
theorem sQ {w : World} {J : Nat -> Option Nat} {Z : Nat -> Prop} : ∀ (l : List Value), (∀ v ∈ l, v.oneCell' = true) -> aU (bQ w J Z) l (l.map fun v => .iv (.g v))
  | [], _ => trivial
  | v :: l, h => ⟨Rd.g v (h v (by simp)), sQ l fun x hx => h x (by simp [hx])⟩
theorem tK {w : World} {J : Nat -> Option Nat} {Z : Nat -> Prop} (v : Value) : bD w J Z v (sS v) := by
  unfold sS
  split
  · split
    · rename_i A h
      refine ⟨A, rfl, sQ _ fun x hx => ?_⟩
      rw [Array.all_eq_true'] at h
      exact h x (by simpa using hx)
    · trivial
  · trivial
  · rename_i h1 h2
    refine Rd.g v ?_
    cases v <;> first | rfl | exact absurd rfl (h1 _) | exact absurd rfl (h2 _)
section
variable {w0 : World} {Z0 : Fr} {J J' : Nat -> Option Nat} {Z Z' : Nat -> Prop} {s s' : AS} {a : Act} {w w' : World} {P : Program}
theorem Rel.ev (R : Rel w0 Z0 J Z s a w) (x : Operand) : bD w J Z (a.eval x) (s.ev x) := by
  cases x with
  | tmp t => exact R.slots t
  | const v => exact tK v
  | global g => trivial
  | func f => exact Rd.g _ rfl
end
def AV.tv : AV -> Option TV
  | .t x | .mb _ x => some x
  | _ => none
def AV.nd : AV -> Prop
  | .mb c _ => c = true
  | _ => True
theorem bD.tv {w : World} {J : Nat -> Option Nat} {Z : Nat -> Prop} {v : Value} {x : AV} {y : TV} (h : bD w J Z v x) (h1 : x.tv = some y) (h2 : x.nd) : bS w J Z v y := by
  cases x <;> simp [AV.tv, AV.nd] at h1 h2 <;> subst h1
  · exact h
  · exact h.1 h2
def TV.cells : TV -> List CV
  | .one c => [c]
  | .agg cs => cs
theorem bS.cells {w : World} {J : Nat -> Option Nat} {Z : Nat -> Prop} {v : Value} {x : TV} (h : bS w J Z v x) : aU (bQ w J Z) v.cells.toList x.cells := by
  cases x with
  | one c =>
    have h1 := bQ.one h
    have : v.cells = #[v] := by cases v <;> first | rfl | (simp [Value.oneCell'] at h1)
    rw [this]; exact ⟨h, trivial⟩
  | agg cs => obtain ⟨A, rfl, h⟩ := h; exact h
def TV.int? : TV -> Option (IntKind × Int)
  | .one (.iv (.g (.int k n))) => some (k, n)
  | _ => none
theorem bS.int {w : World} {J : Nat -> Option Nat} {Z : Nat -> Prop} {v : Value} {x : TV} {k : IntKind} {n : Int} (h : bS w J Z v x) (h1 : x.int? = some (k, n)) : v = .int k n := by
  unfold TV.int? at h1
  split at h1
  · cases h1
    cases h; rfl
  · cases h1
def TV.bool? : TV -> Option Bool
  | .one (.iv (.g (.bool b))) => some b
  | _ => none
theorem bS.bool {w : World} {J : Nat -> Option Nat} {Z : Nat -> Prop} {v : Value} {x : TV} {b : Bool} (h : bS w J Z v x) (h1 : x.bool? = some b) : v = .bool b := by
  unfold TV.bool? at h1
  split at h1
  · cases h1
    cases h; rfl
  · cases h1
abbrev iA (k : IntKind) (n : Int) : AV := .t (.one (.iv (.g (.int k n))))
abbrev bA (b : Bool) : AV := .t (.one (.iv (.g (.bool b))))
def KX : TypeDesc -> Bool
  | .struct _ | .array _ _ => true
  | _ => false
def mU (P : Program) (t : TypeId) : Option (Bool × Nat) := match P.underlying t, P.info? t with
  | some d, some i => some (KX d, i.size)
  | _, _ => none
def oU (P : Program) (t : TypeId) : Option (Nat × Nat × TypeId) := match P.underlying t with
  | some (.slice e) => match P.info? e with
    | some i => match i.zero with
      | some z => if z.cells.size = i.size /\ 0 < i.size then some (i.size, i.bytes, e) else none
      | none => none
    | none => none
  | _ => none
def BP (P : Program) (t : TypeId) : Option (Nat × Nat) := match P.underlying t with
  | some (.array n e) => match P.info? e with
    | some i => some (n, i.size)
    | none => none
  | _ => none
def inD (P : Program) (t : TypeId) : Option IntKind := match P.underlying t with
  | some (.int k) => some k
  | _ => none
def dB (P : Program) (t : TypeId) (f : Nat) : Option Nat := match P.underlying t with
  | some (.struct fields) => match fields[f]? with
    | some fd => match P.info? fd.type with
      | some i => if i.size = 0 then none else some fd.offset
      | none => none
    | none => none
  | _ => none
theorem pU {P : Program} {t : TypeId} {b : Bool} {n : Nat} (h : mU P t = some (b, n)) : ∃ d i, P.underlying t = some d /\ P.info? t = some i /\ i.size = n /\ KX d = b := by
  unfold mU at h
  split at h
  · rename_i d i h1 h2
    cases h
    exact ⟨d, i, h1, h2, rfl, rfl⟩
  · cases h
theorem iB {P : Program} {t e : TypeId} {n b : Nat} (h : oU P t = some (n, b, e)) : ∃ i z, P.underlying t = some (.slice e) /\ P.info? e = some i /\ i.zero = some z /\ z.cells.size = n /\ i.size = n /\ i.bytes = b /\ 0 < n := by
  unfold oU at h
  split at h
  · rename_i e' h1
    split at h
    · rename_i i h2
      split at h
      · rename_i z h3
        split at h
        · rename_i h4
          cases h
          exact ⟨i, z, h1, h2, h3, h4.1, rfl, rfl, h4.2⟩
        · cases h
      · cases h
    · cases h
  · cases h
theorem vH {P : Program} {t : TypeId} {n b : Nat} (h : BP P t = some (n, b)) : ∃ e i, P.underlying t = some (.array n e) /\ P.info? e = some i /\ i.size = b := by
  unfold BP at h
  split at h
  · rename_i k e' h1
    split at h
    · rename_i i h2
      cases h
      exact ⟨e', i, h1, h2, rfl⟩
    · cases h
  · cases h
theorem Vs {P : Program} {t : TypeId} {k : IntKind} (h : inD P t = some k) : P.underlying t = some (.int k) := by
  unfold inD at h
  split at h
  · cases h; assumption
  · cases h
theorem Lm {P : Program} {t : TypeId} {f o : Nat} (h : dB P t f = some o) : ∃ fs fd i, P.underlying t = some (.struct fs) /\ fs[f]? = some fd /\ P.info? fd.type = some i /\ i.size ≠ 0 /\ fd.offset = o := by
  unfold dB at h
  split at h
  · rename_i fs h1
    split at h
    · rename_i fd h2
      split at h
      · rename_i i h3
        split at h
        · cases h
        · cases h
          exact ⟨fs, fd, i, h1, h2, h3, by assumption, rfl⟩
      · cases h
    · cases h
  · cases h
def dI (c : Nat -> IV) : Nat -> Nat -> List CV
  | 0, _ => []
  | n + 1, k => .iv (c k) :: dI c n (k + 1)
def sH (agg : Bool) (size : Nat) (H : Hp) : TV -> Option (Prop × AV)
  | .one (.ip m c) => bif agg then some (size <= m, .t (.agg (dI c size 0))) else some (0 < m, .t (.one (.iv (c 0))))
  | .one (.ptr i o) => match H i with
    | some cs => bif agg then some (o + size <= cs.length /\ 0 < size, .t (.agg ((cs.drop o).take size))) else some (o < cs.length, .t (.one (cs.getD o .any)))
    | none => none
  | _ => none
def pI (size : Nat) (H : Hp) (v : TV) : TV -> Option (Prop × AV × Eff)
  | .one (.ptr i o) => match H i with
    | some cs => some (v.cells.length = size /\ o + size <= cs.length /\ 0 < size, .any, .set i (cs.take o ++ v.cells ++ cs.drop (o + size)))
    | none => none
  | _ => none
def DT (off : Nat) : TV -> Option (Prop × AV)
  | .one (.ip m c) => some (True, .t (.one (.ip (m - off) fun o => c (off + o))))
  | .one (.ptr i o) => some (True, .t (.one (.ptr i (o + off))))
  | _ => none
def Dv (sl : Option (Nat × Nat × TypeId)) (ar : Option (Nat × Nat)) (n : Int) : TV -> Option (Prop × AV)
  | .one (.iv (.lst E len f)) => match sl with
    | some (e, _, _) => if e = E then some (0 <= n /\ n < len, .t (.one (.ip E fun o => f n.toNat o))) else none
    | none => none
  | .one (.slc i off len E) => match sl with
    | some (e, _, _) => if e = E then some (0 <= n /\ n < len, .t (.one (.ptr i (off + n.toNat * E)))) else none
    | none => none
  | .one (.ptr i o) => match ar with
    | some (len, e) => some (0 <= n /\ n < len, .t (.one (.ptr i (o + n.toNat * e))))
    | none => none
  | .one (.ip m c) => match ar with
    | some (len, e) => some (0 <= n /\ n < len, .t (.one (.ip (m - n.toNat * e) fun o => c (n.toNat * e + o))))
    | none => none
  | _ => none
def Uj (sl : Bool) : TV -> Option AV
  | .one (.iv (.lst _ n _)) => bif sl then some (iA .i64 n) else none
  | .one (.slc _ _ n _) => bif sl then some (iA .i64 n) else none
  | .one (.iv (.g (.slice _ n _))) => bif sl then some (iA .i64 n) else none
  | .one (.iv (.g (.string b))) => bif sl then none else some (iA .i64 b.size)
  | _ => none
def YT (op : BinOp) (k : IntKind) (x y : Int) : Option (Prop × AV) :=
  match op with
  | .add => some (True, iA k (k.wrap (x + y)))
  | .sub => some (True, iA k (k.wrap (x - y)))
  | .mul => some (True, iA k (k.wrap (x * y)))
  | .quo => some (y ≠ 0, iA k (k.wrap (x.tdiv y)))
  | .rem => some (y ≠ 0, iA k (x.tmod y))
  | .and => some (True, iA k (bits .and k x y))
  | .or => some (True, iA k (bits .or k x y))
  | .xor => some (True, iA k (bits .xor k x y))
  | .andNot => some (True, iA k (bits .andNot k x y))
  | .eql => some (True, bA (x == y))
  | .neq => some (True, bA (x != y))
  | .lss => some (True, bA (x < y))
  | .leq => some (True, bA (x <= y))
  | .gtr => some (True, bA (x > y))
  | .geq => some (True, bA (x >= y))
  | .shl => some (0 <= y, iA k (k.wrap (x * 2 ^ (min y.toNat k.bits))))
  | .shr => some (0 <= y, iA k (x.fdiv (2 ^ (min y.toNat k.bits))))
def eX (P : Program) (t : TypeId) : Option (List CV) := match P.info? t with
  | some i => match i.zero with
    | some v => if v.cells.all Value.oneCell' then some (v.cells.toList.map fun v => .iv (.g v)) else none
    | none => none
  | none => none
def oN (place : Nat -> Option (Nat × Nat)) (cells : List CV) : List (Nat × TV) -> Option (List CV)
  | [] => some cells
  | (i, v) :: rest => match place i with
    | none => none
    | some (off, size) => if v.cells.length = size /\ off + size <= cells.length then oN place (cells.take off ++ v.cells ++ cells.drop (off + size)) rest else none
def nV (z : List CV) : Nat -> List CV
  | 0 => []
  | n + 1 => z ++ nV z n
def jA (ρ : Operand -> AV) : List (Nat × Operand) -> Option (Prop × List (Nat × TV))
  | [] => some (True, [])
  | (i, x) :: r => match (ρ x).tv, jA ρ r with
    | some v, some (nd, l) => some ((ρ x).nd /\ nd, (i, v) :: l)
    | _, _ => none
def TV.lv : TV -> Option LV
  | .one (.iv c) => some (.iv c)
  | .one (.ptr i o) => some (.ptr i o)
  | .one (.mp i) => some (.mp i)
  | _ => none
def xW (ρ : Operand -> AV) : List Operand -> Option (Prop × List LV)
  | [] => some (True, [])
  | x :: r => match (ρ x).tv.bind TV.lv, xW ρ r with
    | some v, some (nd, l) => some ((ρ x).nd /\ nd, v :: l)
    | _, _ => none
def ED (e : Nat) (lo hi : Option Int) : TV -> Option (Prop × AV)
  | .one (.iv (.lst E n f)) => if e = E then some (0 <= lo.getD 0 /\ lo.getD 0 <= hi.getD n /\ hi.getD n <= n, .t (.one (.iv (.lst E (hi.getD n - lo.getD 0).toNat fun i o => f ((lo.getD 0).toNat + i) o)))) else none
  | .one (.slc i off n E) => if e = E then (match lo, hi with
    | some l, none => if l = n then some (0 <= l, .t (.one (.iv (.lst E 0 fun _ _ => .g undef)))) else some (0 <= l /\ l <= n, .t (.one (.slc i (off + l.toNat * E) (n - l).toNat E)))
    | _, _ => some (0 <= lo.getD 0 /\ lo.getD 0 <= hi.getD n /\ hi.getD n <= n /\ (lo.getD 0 = 0 \/ lo.getD 0 < n), .t (.one (.slc i (off + (lo.getD 0).toNat * E) (hi.getD n - lo.getD 0).toNat E)))) else none
  | _ => none
def iD (f : Nat -> Nat -> IV) (E : Nat) : Nat -> Nat -> List CV
  | 0, _ => []
  | n + 1, k => dI (f k) E 0 ++ iD f E n (k + 1)
def Ch (size : Nat) (H : Hp) : TV -> Option (Prop × Nat × List CV)
  | .one (.iv (.g (.slice none 0 0))) => some (True, 0, [])
  | .one (.iv (.lst E n f)) => if E = size then some (True, n, iD f E n 0) else none
  | .one (.slc j off m E) => match H j with
    | some ns => if E = size then some (off + m * E <= ns.length, m, (ns.drop off).take (m * E)) else none
    | none => none
  | _ => none
def Gm (nid size : Nat) (bytes : Nat) (H : Hp) (x : TV) : TV -> Option (Prop × AV × Eff)
  | .one (.iv (.g (.slice none 0 0))) => match Ch size H x with
    | some (nd, m, ns) => some (nd /\ m * bytes <= 140737488355328 /\ m <= maxLen, .t (.one (.slc nid 0 m size)), .new ns)
    | none => none
  | .one (.slc i 0 n E) => match H i, Ch size H x with
    | some cs, some (nd, m, ns) => if E = size then some (nd /\ cs.length = n * E /\ (n + m) * bytes <= 140737488355328 /\ n + m <= maxLen,
          .t (.one (.slc i 0 (n + m) E)), .app i (gN i (cs ++ ns))) else none
    | _, _ => none
  | _ => none
section
variable {w0 : World} {Z0 : Fr} {J J' : Nat -> Option Nat} {Z Z' : Nat -> Prop} {s s' : AS} {a : Act} {w w' : World} {P : Program}
theorem wQ {t : TypeId} {d : TypeDesc} (h : P.underlying t = some d) (w : World) : (isAgg t).run P w = .ok (KX d) w := by
  unfold isAgg
  simp only [Sem.run_bind, run_underlying h, Result.andThen_ok]
  cases d <;> rfl
theorem dO {t : TypeId} {i : TypeInfo} (h : P.info? t = some i) (w : World) : (sizeOf t).run P w = .ok i.size w := by
  simp [sizeOf, typeInfo, h]
theorem qx (c : Nat -> IV) : ∀ n k, (dI c n k).length = n
  | 0, _ => rfl
  | n + 1, k => by simp [dI, qx c n (k + 1)]
theorem oz {c : Nat -> IV} {X : Nat -> Value} : ∀ n k, (∀ o, o < k + n -> Rd w Z (X o) (c o)) -> aU (bQ w J Z) ((List.range' k n).map X) (dI c n k)
  | 0, _, _ => trivial
  | n + 1, k, h => by
    rw [List.range'_succ, List.map_cons]
    exact ⟨h k (by omega), oz n (k + 1) fun o ho => h o (by omega)⟩
theorem BK {b o : Nat} {c : Array Value} {e : TypeId} {f : Nat × Nat} (hb : w.heap[b]? = some (.cells c e f)) (n : Nat) (hn : o + n <= c.size) : (loadCells ⟨b, o, none⟩ n).run P w = .ok ((c.toList.drop o).take n).toArray w := by
  have hl : ((c.toList.drop o).take n).length = n := by simp; omega
  have := run_loadCells_list (P := P) w ⟨b, o, none⟩ ((c.toList.drop o).take n) (fun j v hj => by
    rw [Addr.add_lit, cell_of_row w b (o + j) c e f hb]
    rw [List.getElem?_take] at hj
    split at hj
    · rw [List.getElem?_drop] at hj; simpa using hj
    · cases hj)
  rw [hl] at this
  exact this
theorem run_load (R : Rel w0 Z0 J Z s a w) {t : TypeId} {ag : Bool} {n : Nat} {v : Value} {x : TV} {nd : Prop} {y : AV} (ht : mU P t = some (ag, n)) (hx : bS w J Z v x) (h : sH ag n (hget s.heap) x = some (nd, y)) (hn : nd) :
    ∃ u, (Instr.loadAt t v).run P w = .ok u w /\ bD w J Z u y := by
  obtain ⟨d, i, h1, h2, h3, h4⟩ := pU ht
  subst h3
  have hag := wQ h1 w
  rw [h4] at hag
  unfold sH at h
  split at h
  · rename_i m c
    obtain ⟨b, off, X, rfl, hz, hX⟩ := hx
    cases ag with
    | true =>
      simp only [cond_true, Option.some.injEq, Prod.mk.injEq] at h
      obtain ⟨rfl, rfl⟩ := h
      have hl := run_loadCells (P := P) w ⟨b, off, none⟩ i.size X (fun j hj => by rw [Addr.add_lit]; exact (hX j (by omega)).1)
      refine ⟨.agg ((List.range i.size).map X).toArray, ?_, ⟨_, rfl, ?_⟩⟩
      · simp [Instr.loadAt, Instr.sureAddr, loadVar, hag, dO h2, hl]
      · have := oz (J := J) (w := w) (Z := Z) (c := c) (X := X) i.size 0 fun o ho => (hX o (by omega)).2
        rw [<- List.range_eq_range'] at this
        simpa using this
    | false =>
      simp only [cond_false, Option.some.injEq, Prod.mk.injEq] at h
      obtain ⟨rfl, rfl⟩ := h
      refine ⟨X 0, ?_, (hX 0 hn).2⟩
      have := (hX 0 hn).1
      rw [Nat.add_zero] at this
      simp [Instr.loadAt, Instr.sureAddr, loadVar, hag, this]
  · rename_i k o
    split at h
    · rename_i cs hcs
      obtain ⟨b, rfl, hj, ho⟩ := hx
      have hne : cs ≠ [] := by
        rintro rfl
        cases ag <;> simp only [cond_true, cond_false, Option.some.injEq, Prod.mk.injEq] at h <;> obtain ⟨rfl, _⟩ := h <;> simp at hn <;> omega
      obtain ⟨c, e, g2, g3⟩ := R.cells hcs hne hj ho
      have hlen := g3.length
      rw [List.length_take] at hlen
      cases ag with
      | true =>
        simp only [cond_true, Option.some.injEq, Prod.mk.injEq] at h
        obtain ⟨rfl, rfl⟩ := h
        have hl := BK (P := P) g2 (o := o) i.size (by simp at hlen; omega)
        refine ⟨.agg ((c.toList.drop o).take i.size).toArray, ?_, ⟨_, rfl, ?_⟩⟩
        · simp [Instr.loadAt, Instr.sureAddr, loadVar, hag, dO h2, hl]
        · have := (g3.drop o).take i.size
          simp only [List.drop_take, List.take_take] at this
          rw [show min i.size (cs.length - o) = i.size by omega] at this
          exact this
      | false =>
        simp only [cond_false, Option.some.injEq, Prod.mk.injEq] at h
        obtain ⟨rfl, rfl⟩ := h
        obtain ⟨u, hu, hr⟩ := g3.get (k := o) (y := cs.getD o .any) (by simp [List.getD, List.getElem?_eq_getElem hn])
        refine ⟨u, ?_, hr⟩
        have hcu : w.cell? ⟨b, o, none⟩ = some u := by
          rw [cell_of_row w b o c e _ g2]
          rw [List.getElem?_take, if_pos hn] at hu
          simpa using hu
        simp [Instr.loadAt, Instr.sureAddr, loadVar, hag, hcu]
    · cases h
  · cases h
theorem FW {α : Type} (l v : List α) (o k : Nat) (h : o + v.length <= k) (hk : k <= l.length) : (l.take o ++ v ++ l.drop (o + v.length)).take k = (l.take k).take o ++ v ++ (l.take k).drop (o + v.length) := by
  have e3 : (l.take o ++ v).length = o + v.length := by simp; omega
  rw [List.take_append, e3, List.take_of_length_le (by omega), List.take_take, show min o k = o by omega, List.drop_take]
theorem run_store' (R : Rel w0 Z0 J Z s a w) {t : TypeId} {ag : Bool} {n nid : Nat} {p v : Value} {x y : TV} {nd : Prop} {r : AV} {ef : Eff} (ht : mU P t = some (ag, n)) (hp : bS w J Z p x) (hv : bS w J Z v y) (h : pI n (hget s.heap) y x = some (nd, r, ef)) (hn : nd) :
    r = .any /\ ∃ w', (Instr.storeAt t p v).run P w = .ok () w' /\ Rel w0 Z0 J Z (s.Ce nid ef) a w' := by
  obtain ⟨d, i, h1, h2, h3, h4⟩ := pU ht
  subst h3
  unfold pI at h
  split at h
  · rename_i k o
    split at h
    · rename_i cs hcs
      simp only [Option.some.injEq, Prod.mk.injEq] at h
      obtain ⟨rfl, rfl, rfl⟩ := h
      obtain ⟨b, rfl, hj, ho⟩ := hp
      obtain ⟨c, e, g2, g3⟩ := R.cells hcs (by rintro rfl; simp at hn; omega) hj ho
      have hvc := bS.cells hv
      have hlv := hvc.length
      have hlen := g3.length
      rw [List.length_take] at hlen
      have hcsz : cs.length <= c.size := by simp at hlen; omega
      have h1c : ∀ u ∈ v.cells.toList, u.oneCell' = true := fun u hu => by
        obtain ⟨q, hq, e⟩ := List.getElem_of_mem hu
        have : q < y.cells.length := by omega
        obtain ⟨x, hx, hr⟩ := hvc.get (List.getElem?_eq_getElem this)
        rw [List.getElem?_eq_getElem hq, Option.some.injEq] at hx
        rw [<- e, hx]; exact bQ.one hr
      have hst := run_storeCells_at P b o e v.cells.toList 0 c w g2 (by simp at hlv ⊢; omega) h1c
      simp only [Nat.add_zero] at hst
      refine ⟨rfl, w.setRow b (c.toList.take o ++ v.cells.toList ++ c.toList.drop (o + v.cells.toList.length)).toArray, ?_, ?_⟩
      · have hsz : ¬ v.cells.size ≠ i.size := by simp at hlv; omega
        simp only [Instr.storeAt, Instr.sureAddr, storeVar, Sem.run_bind, Sem.run_pure, Result.andThen_ok, dO h2, if_neg hsz]
        exact hst
      · have hN : (c.toList.take o ++ v.cells.toList ++ c.toList.drop (o + v.cells.toList.length)).toArray.size = c.size := by simp at hlv ⊢; omega
        refine Rel.set (c' := (c.toList.take o ++ v.cells.toList ++ c.toList.drop (o + v.cells.toList.length)).toArray) R hcs hj g2 hN (bn _ _ _) (fun q hq => bE _ _ _ _ hq) ?_
        have ht1 := g3.take o
        have ht2 := g3.drop (o + i.size)
        have ht3 := (ht1.append hvc).append ht2
        have e1 := FW c.toList v.cells.toList o cs.length (by omega) (by simpa using hcsz)
        rw [hlv, hn.1] at e1
        have e2 : (cs.take o ++ y.cells ++ cs.drop (o + i.size)).length = cs.length := by simp; omega
        show aU _ (List.take _ (c.toList.take o ++ v.cells.toList ++ c.toList.drop (o + v.cells.toList.length))) _
        rw [e2, hlv, hn.1, e1]
        exact ht3
    · cases h
  · cases h
end
end Go.Sea
namespace Go.Sea
open Go.RowKit
theorem qp (i : Nat) : ∀ (h : List (Option (List CV))) (k : Nat) (x : List CV), mQ i (hset h k x) = hset (mQ i h) k (gN i x)
  | [], 0, x => rfl
  | [], k + 1, x => by have := qp i [] k x; simp only [hset, mQ, List.map_cons, List.map_nil, Option.map_none, List.cons.injEq, true_and] at this ⊢; exact this
  | _ :: h, 0, x => rfl
  | y :: h, k + 1, x => by have := qp i h k x; simp only [hset, mQ, List.map_cons, List.cons.injEq, true_and] at this ⊢; exact this
theorem Cr (i : Nat) (cs : List CV) : ∀ y, y ∈ gN i cs -> y.ok (· ≠ i) := by
  intro y hy
  obtain ⟨c, _, rfl⟩ := List.mem_map.1 hy
  exact CV.vM i c
theorem JR {w : World} {J : Nat -> Option Nat} {Z : Nat -> Prop} {l : List Value} {m : List CV} (i : Nat) (h : aU (bQ w J Z) l m) : aU (bQ w J Z) l (gN i m) :=
  aU.cO.2 (h.mono fun _ _ => bQ.bW i)
theorem wZ {w : World} {J : Nat -> Option Nat} {Z : Nat -> Prop} {l : List Value} {m : List CV} (h : aU (bQ w J Z) l m) : aU (bQ w.drew J Z) l m :=
  have G : Grow (fun _ => True) w J Z w.drew J Z := ⟨fun _ _ _ h => h, fun _ h => h, fun _ _ _ => rfl, fun _ _ _ _ c _ _ h => ⟨c, h, rfl⟩, fun _ _ h _ => h⟩
  h.mono fun _ y hy => bQ.grow G y.bM hy
section
variable {w0 : World} {Z0 : Fr} {J J' : Nat -> Option Nat} {Z Z' : Nat -> Prop} {s s' : AS} {a : Act} {w w' : World} {P : Program}
theorem run_append_room' (t ty e e' : TypeId) (i : TypeInfo) (ht : P.underlying t = some (.slice e)) (hi : P.info? e = some i)
    (g sLen sCap : Nat) (cur : Array Value) (hg : w.heap[g]? = some (.cells cur e' (0, 0)))
    (a : Addr) (m c : Nat) (news : List Value) (hl : news.length = m * i.size) (hnews : ∀ (j : Nat) u, news[j]? = some u -> w.cell? (a.add j) = some u) (h1 : ∀ u ∈ news, u.oneCell' = true)
    (hroom : sLen + m <= sCap) (hfit : sLen * i.size + news.length <= cur.size) :
    (Builtin.append_ #[t, t] ty #[.slice (some ⟨g, 0, none⟩) sLen sCap, .slice (some a) m c]).run P w =
      .ok (.slice (some ⟨g, 0, none⟩) (sLen + m) sCap) (w.setRow g (cur.toList.take (sLen * i.size) ++ news ++ cur.toList.drop (sLen * i.size + news.length)).toArray) := by
  have hf := run_firstCells_some (P := P) w i.size m a m c news hl hnews
  have hst := run_storeCells_at P g (sLen * i.size) e' news 0 cur w hg (by simpa using hfit) h1
  simp only [Nat.add_zero] at hst
  simp [Builtin.append_, run_underlying ht, sizeOf, typeInfo, hi, Builtin.lenOf, hroom, hf, Addr.add_lit, hst]
theorem Pk (R : Rel w0 Z0 J Z s a w) {v : Value} {j off m E : Nat} {ns : List CV} (hv : bQ w J Z v (.slc j off m E)) (hn : hget s.heap j = some ns) (hl : off + m * E <= ns.length) :
    (m = 0 /\ v = .slice none 0 0) \/ ∃ b cap news, v = .slice (some ⟨b, off, none⟩) m cap /\ news.length = m * E /\ (∀ (k : Nat) u, news[k]? = some u -> w.cell? ((⟨b, off, none⟩ : Addr).add k) = some u) /\ (∀ u ∈ news, u.oneCell' = true) /\ aU (bQ w J Z) news ((ns.drop off).take (m * E)) := by
  rcases hv with ⟨rfl, rfl⟩ | ⟨b, cap, c, e, rfl, hj, hc1, hc2, hb, hs⟩
  · exact Or.inl ⟨rfl, rfl⟩
  by_cases hne : ns = []
  · subst hne
    refine Or.inr ⟨b, cap, [], rfl, by simp at hl ⊢; omega, fun k u hk => by simp at hk, fun u hu => by simp at hu, by simp [aU]⟩
  obtain ⟨c', e', g2, g3⟩ := R.cells hn hne hj ⟨_, _, hb⟩
  rw [hb] at g2
  obtain ⟨rfl, rfl⟩ : c = c' /\ e = e' := by simp at g2; exact g2
  have hlen := g3.length
  rw [List.length_take] at hlen
  have h3 := (g3.drop off).take (m * E)
  rw [List.drop_take, List.take_take, show min (m * E) (ns.length - off) = m * E by omega] at h3
  refine Or.inr ⟨b, cap, (c.toList.drop off).take (m * E), rfl, by simp at hlen ⊢; omega, fun k u hk => ?_, fun u hu => ?_, h3⟩
  · rw [Addr.add_lit, cell_of_row w b (off + k) c e (0, 0) hb]
    rw [List.getElem?_take] at hk
    split at hk
    · rw [List.getElem?_drop] at hk; simpa using hk
    · cases hk
  · obtain ⟨q, hq, e⟩ := List.getElem_of_mem hu
    have : q < ((ns.drop off).take (m * E)).length := by rw [<- h3.length]; exact hq
    obtain ⟨x, hx, hr⟩ := h3.get (List.getElem?_eq_getElem this)
    rw [List.getElem?_eq_getElem hq, Option.some.injEq] at hx
    rw [<- e, hx]; exact bQ.one hr
theorem nN (f : Nat -> Nat -> IV) (E : Nat) : ∀ n k, (iD f E n k).length = n * E
  | 0, k => by simp [iD]
  | n + 1, k => by simp only [iD, List.length_append, qx, nN f E n (k + 1)]; rw [Nat.add_mul]; omega
theorem C8 {b off E : Nat} {f : Nat -> Nat -> IV} {X : Nat -> Nat -> Value} : ∀ (n k : Nat), (∀ i o, i < k + n -> o < E -> w.cell? ⟨b, off + i * E + o, none⟩ = some (X i o)) -> (∀ i o, i < k + n -> o < E -> Rd w Z (X i o) (f i o)) ->
    ∃ news : List Value, news.length = n * E /\ (∀ (q : Nat) u, news[q]? = some u -> w.cell? ⟨b, off + k * E + q, none⟩ = some u) /\ aU (bQ w J Z) news (iD f E n k)
  | 0, k, _, _ => ⟨[], by simp, fun q u h => by simp at h, trivial⟩
  | n + 1, k, h1, h2 => by
    obtain ⟨news, g1, g2, g3⟩ := C8 n (k + 1) (fun i o hi ho => h1 i o (by omega) ho) (fun i o hi ho => h2 i o (by omega) ho)
    have hrow := oz (J := J) (w := w) (Z := Z) (c := f k) (X := X k) E 0 fun o ho => h2 k o (by omega) (by omega)
    refine ⟨(List.range' 0 E).map (X k) ++ news, by rw [List.length_append, List.length_map, List.length_range', g1, Nat.add_mul]; omega, fun q u hq => ?_, hrow.append g3⟩
    by_cases hqE : q < E
    · rw [List.getElem?_append_left (by simpa using hqE)] at hq
      simp [List.getElem?_range', hqE] at hq
      rw [h1 k q (by omega) hqE, hq]
    · rw [List.getElem?_append_right (by simp; omega)] at hq
      simp only [List.length_map, List.length_range'] at hq
      have := g2 _ _ hq
      rw [Nat.add_mul, show off + (k * E + 1 * E) + (q - E) = off + k * E + q by omega] at this
      exact this
theorem ru (R : Rel w0 Z0 J Z s a w) {size m : Nat} {nd : Prop} {v : Value} {x : TV} {ns : List CV} (h : Ch size (hget s.heap) x = some (nd, m, ns)) (hn : nd) (hv : bS w J Z v x) :
    (m = 0 /\ ns = [] /\ ∃ p c, v = .slice p 0 c) \/ (0 < m /\ ∃ b off cap news, v = .slice (some ⟨b, off, none⟩) m cap /\ news.length = m * size /\ (∀ (k : Nat) u, news[k]? = some u -> w.cell? ((⟨b, off, none⟩ : Addr).add k) = some u) /\ (∀ u ∈ news, u.oneCell' = true) /\ aU (bQ w J Z) news ns) := by
  have one : ∀ {news : List Value} {ns : List CV}, aU (bQ w J Z) news ns -> ∀ u ∈ news, u.oneCell' = true := fun {news ns} h3 u hu => by
    obtain ⟨q, hq, e⟩ := List.getElem_of_mem hu
    have : q < ns.length := by rw [<- h3.length]; exact hq
    obtain ⟨x, hx, hr⟩ := h3.get (List.getElem?_eq_getElem this)
    rw [List.getElem?_eq_getElem hq, Option.some.injEq] at hx
    rw [<- e, hx]; exact bQ.one hr
  unfold Ch at h
  split at h
  · simp only [Option.some.injEq, Prod.mk.injEq] at h
    obtain ⟨rfl, rfl, rfl⟩ := h
    cases hv
    exact Or.inl ⟨rfl, rfl, _, _, rfl⟩
  · rename_i E n f
    split at h
    · rename_i hE
      subst hE
      simp only [Option.some.injEq, Prod.mk.injEq] at h
      obtain ⟨rfl, rfl, rfl⟩ := h
      cases hv with
      | nil p cap => exact Or.inl ⟨rfl, by simp [iD], _, _, rfl⟩
      | lst b off _ cap _ _ X hz hnc hm q1 q2 =>
        by_cases h0 : n = 0
        · subst h0; exact Or.inl ⟨rfl, by simp [iD], _, _, rfl⟩
        · obtain ⟨news, g1, g2, g3⟩ := C8 (J := J) (w := w) (Z := Z) (f := f) (X := X) (b := b) (off := off) (E := E) n 0 (fun i o hi ho => q1 i o (by omega) ho) (fun i o hi ho => q2 i o (by omega) ho)
          refine Or.inr ⟨by omega, b, off, cap, news, rfl, g1, fun k u hk => ?_, one g3, g3⟩
          have := g2 k u hk
          rw [Addr.add_lit]
          simpa using this
    · cases h
  · rename_i j off m' E
    split at h
    · rename_i ns' hns
      split at h
      · rename_i hE
        subst hE
        simp only [Option.some.injEq, Prod.mk.injEq] at h
        obtain ⟨rfl, rfl, rfl⟩ := h
        rcases Pk R hv hns hn with ⟨rfl, rfl⟩ | ⟨b, cap, news, rfl, n1, n2, n3, n4⟩
        · exact Or.inl ⟨rfl, by simp, _, _, rfl⟩
        · by_cases h0 : m' = 0
          · subst h0; exact Or.inl ⟨rfl, by simp, _, _, rfl⟩
          · exact Or.inr ⟨by omega, b, off, cap, news, rfl, n1, n2, n3, n4⟩
      · cases h
    · cases h
  · cases h
theorem kr {t ty e : TypeId} {i : TypeInfo} (ht : P.underlying t = some (.slice e)) (hi : P.info? e = some i) (base p : Option Addr) (sLen sCap c : Nat) (hc : sLen <= sCap) :
    (Builtin.append_ #[t, t] ty #[.slice base sLen sCap, .slice p 0 c]).run P w = .ok (.slice base sLen sCap) w := by
  have hf : (Builtin.firstCells i.size 0 (.slice p 0 c)).run P w = .ok #[] w := by
    cases p with
    | none => exact run_firstCells_none ..
    | some a => exact run_firstCells_some (P := P) w i.size 0 a 0 c [] (by simp) (fun j v h => by simp at h)
  have hst : ∀ a, (storeCells a []).run P w = .ok () w := fun a => by simp [storeCells]
  cases base <;> simp [Builtin.append_, run_underlying ht, sizeOf, typeInfo, hi, Builtin.lenOf, hc, hf, hst]
theorem X0 (R : Rel w0 Z0 J Z s a w) {t e ty : TypeId} {n b nid : Nat} {v1 v2 : Value} {x1 x2 : TV} {nd : Prop} {r : AV} {ef : Eff} (hh : hget s.heap nid = none) (ht : oU P t = some (n, b, e)) (h1 : bS w J Z v1 x1) (h2 : bS w J Z v2 x2) (h : Gm nid n b (hget s.heap) x2 x1 = some (nd, r, ef)) (hn : nd) :
    ∃ u w' J', (Builtin.append_ #[t, t] ty #[v1, v2]).run P w = .ok u w' /\ Rel w0 Z0 J' Z (s.Ce nid ef) a w' /\ bD w' J' Z u r := by
  obtain ⟨i, z, t1, t2, t3, t4, t5, t6, t7⟩ := iB ht
  subst t5 t6
  unfold Gm at h
  split at h
  · -- nil
    split at h
    · rename_i nd' m ns hsrc
      simp only [Option.some.injEq, Prod.mk.injEq] at h
      obtain ⟨rfl, rfl, rfl⟩ := h
      obtain ⟨hm, hby, hmx⟩ := hn
      obtain rfl : v1 = .slice none 0 0 := by cases h1; rfl
      rcases ru R hsrc hm h2 with ⟨rfl, rfl, p, c, rfl⟩ | ⟨hpos, b2, off, cap2, news, rfl, n1, n2, n3, n4⟩
      · exact ⟨_, w, J, kr t1 t2 none p 0 0 c (Nat.le_refl _), R.Hu hh (bn _ _ _) (fun q hq => bE _ _ _ _ hq), Or.inl ⟨rfl, rfl⟩⟩
      · have hrun := run_append_nil (P := P) w t ty e i z t1 t2 t3 ⟨b2, off, none⟩ m cap2 news n1 n2 hpos (by unfold maxLen at hmx; omega) (by omega)
        refine ⟨_, _, gI J nid w.heap.size, hrun, ?_, ?_⟩
        · have hd := R.drew
          refine hd.new hh (bn _ _ _) (fun q hq => bE _ _ _ _ hq) ?_
          have hl2 := n4.length
          refine wZ ?_
          rw [Array.toList_append, List.take_append_of_le_length (by simp; omega)]
          rw [List.take_of_length_le (by simp; omega)]
          exact n4
        · refine Or.inr ⟨w.heap.size, _, _, e, rfl, by simp [gI], grownCap_ge w m 0 e, grownCap_le_maxLen w m 0 e hmx, heap_alloc_new w.drew _, ?_⟩
          have := grownCap_ge w m 0 e
          simp only [Array.size_append, size_zeroCells, t4]
          simp only [List.size_toArray, n1]
          rw [<- Nat.add_mul]
          exact Nat.le_trans (by simp) (Nat.mul_le_mul_right _ (by omega : grownCap w m 0 e <= m + (grownCap w m 0 e - m)))
    · cases h
  · -- own
    rename_i k n' E
    split at h
    · rename_i cs nd' m ns hcs hsrc
      split at h
      · rename_i hE
        subst hE
        simp only [Option.some.injEq, Prod.mk.injEq] at h
        obtain ⟨rfl, rfl, rfl⟩ := h
        obtain ⟨hm, hl1, hby, hmx⟩ := hn
        have mv : ∀ (news : List Value) (C : Array Value), hget s.heap k = some cs -> aU (bQ w J Z) (C.toList.take (cs ++ ns).length) (cs ++ ns) -> Rel w0 Z0 (gI J k w.heap.size) Z (s.Ce nid (.app k (gN k (cs ++ ns)))) a (w.drew.alloc (.cells C e)) := fun news C hcs hC => by
          have R1 := (R.bW k).drew
          refine Rel.move (s := s.bW k) (cs := gN k (cs ++ ns)) R1 ?_ (bn _ _ _) (fun q hq => bE _ _ _ _ hq) (fun t => ?_) (fun f t => ?_) (fun q x hq y hy => ?_) ?_
          · simp [AS.bW, lQ, hcs]
          · simp only [AS.bW, AS.get, uJ]; exact AV.vM k _
          · simp only [AS.bW, Ip]; exact AV.vM k _
          · by_cases hqk : q = k
            · subst hqk
              rw [bn, Option.some.injEq] at hq
              subst hq
              exact Cr q _ y hy
            · rw [bE _ _ _ _ hqk] at hq
              simp only [AS.bW, lQ, Option.map_eq_some_iff] at hq
              obtain ⟨cs0, _, rfl⟩ := hq
              exact Cr k _ y hy
          · refine wZ ?_
            rw [show (gN k (cs ++ ns)).length = (cs ++ ns).length by rw [gN, List.length_map]]
            exact JR k hC
        rcases ru R hsrc hm h2 with ⟨rfl, rfl, p, c, rfl⟩ | ⟨hpos, b2, off, cap2, news, rfl, n1, n2, n3, n4⟩
        · obtain ⟨base, cap0, rfl, hc0⟩ : ∃ base cap0, v1 = .slice base n' cap0 /\ n' <= cap0 := by
            rcases h1 with ⟨rfl, rfl⟩ | ⟨b1, cap1, c1, e1, rfl, hj, hc1, _⟩
            · exact ⟨none, 0, rfl, Nat.le_refl _⟩
            · exact ⟨_, _, rfl, hc1⟩
          refine ⟨_, w, J, kr t1 t2 base p n' cap0 c hc0, ?_, ?_⟩
          · have R1 := R.bW k
            refine R1.same (H := hset (mQ k s.heap) k (gN k (cs ++ []))) fun q => ?_
            by_cases hq : q = k
            · subst hq; rw [bn]; simp [AS.bW, lQ, hcs]
            · rw [bE _ _ _ _ hq]; rfl
          · rw [Nat.add_zero]; exact h1
        · rcases h1 with ⟨rfl, rfl⟩ | ⟨b1, cap1, c, e1, rfl, hj, hc1, hc2, hb, hs⟩
          · rw [Nat.zero_mul] at hl1
            have hcs0 : cs = [] := List.eq_nil_of_length_eq_zero hl1
            subst hcs0
            simp only [Nat.zero_add, List.nil_append] at hby hmx mv ⊢
            have hrun := run_append_nil (P := P) w t ty e i z t1 t2 t3 ⟨b2, off, none⟩ m cap2 news n1 n2 hpos (by unfold maxLen at hmx; omega) (by omega)
            refine ⟨_, _, gI J k w.heap.size, hrun, mv news _ hcs ?_, ?_⟩
            · have hl2 := n4.length
              rw [Array.toList_append, List.take_append_of_le_length (by simp; omega)]
              rw [List.take_of_length_le (by simp; omega)]
              exact n4
            · refine Or.inr ⟨w.heap.size, _, _, e, rfl, by simp [gI], grownCap_ge w m 0 e, grownCap_le_maxLen w m 0 e hmx, heap_alloc_new w.drew _, ?_⟩
              have := grownCap_ge w m 0 e
              simp only [Array.size_append, size_zeroCells, t4]
              simp only [List.size_toArray, n1]
              rw [<- Nat.add_mul]
              exact Nat.le_trans (by simp) (Nat.mul_le_mul_right _ (by omega : grownCap w m 0 e <= m + (grownCap w m 0 e - m)))
          · have old : ∃ c0, aU (bQ w J Z) (c.toList.take (n' * i.size)) cs /\ n' * i.size <= c0 /\ c0 = c.size := by
              refine ⟨c.size, ?_, Nat.le_trans (Nat.mul_le_mul_right _ hc1) (by omega), rfl⟩
              by_cases hne : cs = []
              · subst hne
                simp only [List.length_nil] at hl1
                rw [<- hl1, List.take_zero]; trivial
              · obtain ⟨c', e', g2, g3⟩ := R.cells hcs hne hj ⟨_, _, hb⟩
                rw [hb] at g2
                obtain ⟨rfl, rfl⟩ : c = c' /\ e1 = e' := by simp at g2; exact g2
                rw [<- hl1]; exact g3
            obtain ⟨_, g3, hnc, rfl⟩ := old
            have hlen : min (n' * i.size) c.size = n' * i.size := by omega
            have hl2 := n4.length
            have hcat : aU (bQ w J Z) (c.toList.take (n' * i.size) ++ news) (cs ++ ns) := g3.append n4
            have hlc : (cs ++ ns).length = n' * i.size + m * i.size := by simp only [List.length_append]; omega
            by_cases hroom : n' + m <= cap1
            · have hfit : n' * i.size + news.length <= c.size := by
                rw [n1, <- Nat.add_mul]; exact Nat.le_trans (Nat.mul_le_mul_right _ hroom) (by omega)
              have hrun := run_append_room' (P := P) (w := w) t ty e e1 i t1 t2 b1 n' cap1 c hb ⟨b2, off, none⟩ m cap2 news n1 n2 n3 hroom hfit
              refine ⟨_, _, J, hrun, ?_, ?_⟩
              · have hN : (c.toList.take (n' * i.size) ++ news ++ c.toList.drop (n' * i.size + news.length)).toArray.size = c.size := by simp; omega
                have R1 := Rel.set (c' := (c.toList.take (n' * i.size) ++ news ++ c.toList.drop (n' * i.size + news.length)).toArray) R hcs hj hb hN (bn s.heap k (cs ++ ns)) (fun q hq => bE _ _ _ _ hq) (by
                  rw [hlc]
                  show aU _ (List.take _ (c.toList.take (n' * i.size) ++ news ++ c.toList.drop (n' * i.size + news.length))) _
                  rw [List.take_append_of_le_length (by simp; omega), List.take_of_length_le (by simp; omega)]
                  exact hcat)
                have R2 := R1.bW k
                simp only [AS.bW, qp] at R2
                exact R2
              · refine Or.inr ⟨b1, cap1, _, e1, rfl, hj, hroom, hc2, setRow_heap w b1 c _ e1 (0, 0) hb, ?_⟩
                have : (c.toList.take (n' * i.size) ++ news ++ c.toList.drop (n' * i.size + news.length)).toArray.size = c.size := by simp; omega
                rw [this]; exact hs
            · have hg : cap1 < n' + m := by omega
              have holds : ∀ (q : Nat) u, (c.toList.take (n' * i.size))[q]? = some u -> w.cell? ((⟨b1, 0, none⟩ : Addr).add q) = some u := fun q u hq => by
                rw [Addr.add_lit, cell_of_row w b1 (0 + q) c e1 (0, 0) hb]
                rw [List.getElem?_take] at hq
                split at hq
                · simpa using hq
                · cases hq
              have hrun := run_append_grow (P := P) w t ty e i z t1 t2 t3 ⟨b1, 0, none⟩ n' cap1 (c.toList.take (n' * i.size)) (by simp; omega) holds ⟨b2, off, none⟩ m cap2 news n1 n2 hg (by unfold maxLen at hmx; omega) (by
                exact growslice_fits hg hby)
              refine ⟨_, _, gI J k w.heap.size, hrun, mv news _ hcs ?_, ?_⟩
              · rw [hlc]
                rw [Array.toList_append, List.take_append_of_le_length (by simp; omega), List.take_of_length_le (by simp; omega), Array.toList_append]
                exact hcat
              · refine Or.inr ⟨w.heap.size, _, _, e, rfl, by simp [gI], grownCap_ge w _ _ e, grownCap_le_maxLen w _ _ e hmx, heap_alloc_new w.drew _, ?_⟩
                have := grownCap_ge w (n' + m) cap1 e
                simp only [Array.size_append, size_zeroCells, t4]
                simp only [List.size_toArray, n1, List.length_take, Array.length_toList]
                rw [show min (n' * i.size) c.size = n' * i.size by omega, <- Nat.add_mul, <- Nat.add_mul]
                exact Nat.le_trans (by simp) (Nat.mul_le_mul_right _ (by omega : grownCap w (n' + m) cap1 e <= n' + m + (grownCap w (n' + m) cap1 e - (n' + m))))
      · cases h
    · cases h
  · cases h
end
end Go.Sea
namespace Go.Sea
open Go.RowKit
inductive LK where
  | int (k : IntKind)
  | bool
  | str
def LK.ok : LK -> Value -> Prop
  | .int k, .int k' _ => k' = k
  | .bool, .bool _ => True
  | .str, .string _ => True
  | _, _ => False
def zk (g : TypeId -> Option (List LK)) : List Field -> Nat -> Option (List LK)
  | [], _ => some []
  | f :: fs, off => match decide (f.name ≠ "_" /\ f.offset = off), g f.type with
    | true, some l => match zk g fs (off + l.length) with
      | some r => some (l ++ r)
      | none => none
    | _, _ => none
def oC (P : Program) : Nat -> TypeId -> Option (List LK)
  | 0, _ => none
  | d + 1, t => match P.underlying t with
    | some .bool => some [.bool]
    | some (.int k) => some [.int k]
    | some .string => some [.str]
    | some (.struct fs) => match P.stoodInHeld t, zk (oC P d) fs.toList 0 with
      | false, some l => if P.cellsOf t = l.length then some l else none
      | _, _ => none
    | _ => none
def eqV : Value -> Value -> Bool
  | .int _ a, .int _ b => a == b
  | .bool a, .bool b => a == b
  | .string a, .string b => a.toList == b.toList
  | _, _ => false
def kU : List Value -> List Value -> Bool
  | [], [] => true
  | a :: x, b :: y => eqV a b && kU x y
  | _, _ => false
theorem I8 : ∀ {a b c d : List Value}, a.length = b.length -> kU (a ++ c) (b ++ d) = (kU a b && kU c d)
  | [], [], _, _, _ => by simp [kU]
  | a :: x, b :: y, _, _, h => by
    simp only [List.cons_append, kU]
    rw [I8 (by simpa using h), Bool.and_assoc]
  | [], _ :: _, _, _, h => by simp at h
  | _ :: _, [], _, _, h => by simp at h
def ig (P : Program) (t : TypeId) (xs : List Value) : Value := match P.underlying t with
  | some (.struct _) => .agg xs.toArray
  | _ => xs.headD undef
theorem sZ {α β : Type} {R : α -> β -> Prop} : ∀ {a : List α} {b : List α} {l : List β}, aU R (a ++ b) l -> ∃ x y, l = x ++ y /\ aU R a x /\ aU R b y
  | [], b, l, h => ⟨[], l, rfl, by simp [aU], h⟩
  | a :: r, b, [], h => h.elim
  | a :: r, b, v :: l, ⟨h1, h2⟩ => by
    obtain ⟨x, y, rfl, h3, h4⟩ := sZ h2
    exact ⟨v :: x, y, rfl, ⟨h1, h3⟩, h4⟩
section
variable {P : Program}
theorem qY {d : Nat} {t : TypeId} {l : List LK} (h : oC P d t = some l) {px x1 x2 : List Value} (hx : aU LK.ok l x1) (w : World) : (part t (px ++ (x1 ++ x2)).toArray px.length).run P w = .ok (ig P t x1) w := by
  cases d with
  | zero => simp [oC] at h
  | succ d =>
    unfold oC at h
    have one : ∀ v, x1 = [v] -> (∀ fs, P.underlying t ≠ some (.struct fs)) -> (∀ n e, P.underlying t ≠ some (.array n e)) -> (∃ k, P.underlying t = some k) -> (part t (px ++ (x1 ++ x2)).toArray px.length).run P w = .ok (ig P t x1) w := by
      rintro v rfl h1 h2 ⟨k, hk⟩
      have e : ((px ++ ([v] ++ x2)).toArray)[px.length]? = some v := by simp
      have e2 : ig P t [v] = v := by
        unfold ig
        split
        · rename_i fs hf; exact absurd hf (h1 fs)
        · rfl
      rw [e2]
      unfold part isAgg
      simp only [Sem.run_bind, run_underlying hk, Result.andThen_ok]
      split
      · rename_i fs; exact absurd hk (h1 _)
      · rename_i n e; exact absurd hk (h2 _ _)
      · simp [e, Sem.run_bind]
    split at h
    · rename_i hu
      cases h
      match x1, hx with
      | [v], _ => exact one v rfl (fun fs e => by rw [hu] at e; cases e) (fun n e h => by rw [hu] at h; cases h) ⟨_, hu⟩
    · rename_i k hu
      cases h
      match x1, hx with
      | [v], _ => exact one v rfl (fun fs e => by rw [hu] at e; cases e) (fun n e h => by rw [hu] at h; cases h) ⟨_, hu⟩
    · rename_i hu
      cases h
      match x1, hx with
      | [v], _ => exact one v rfl (fun fs e => by rw [hu] at e; cases e) (fun n e h => by rw [hu] at h; cases h) ⟨_, hu⟩
    · rename_i fs hu
      split at h
      · rename_i l' h1 h2
        split at h
        · rename_i hc
          cases h
          obtain ⟨i, hi⟩ := info_of_underlying hu
          have hl := hx.length
          have e2 : ig P t x1 = .agg x1.toArray := by unfold ig; rw [hu]
          rw [e2]
          have e : (px ++ (x1 ++ x2)).toArray.extract px.length (px.length + P.cellsOf t) = x1.toArray := by
            apply Array.toList_inj.1
            simp only [Array.toList_extract, List.extract_eq_take_drop, Nat.add_sub_cancel_left, List.drop_left]
            rw [hc, hl, List.take_left]
          unfold part isAgg
          simp only [Sem.run_bind, run_underlying hu, Result.andThen_ok, Sem.run_pure, if_true, run_sizeOf w hi, e]
        · cases h
      · cases h
    · cases h
theorem sG {d e : Nat} (IH : ∀ (t : TypeId) (ks : List LK), oC P d t = some ks -> ∀ xs ys, aU LK.ok ks xs -> aU LK.ok ks ys -> ∀ w, (Op.equalIn (e + d) t (ig P t xs) (ig P t ys)).run P w = .ok (kU xs ys) w) :
    ∀ (fs : List Field) (r : List LK) (px py xs ys : List Value), px.length = py.length -> zk (oC P d) fs px.length = some r -> aU LK.ok r xs -> aU LK.ok r ys -> ∀ w, (Op.eqFields (e + d) (px ++ xs).toArray (py ++ ys).toArray fs).run P w = .ok (kU xs ys) w
  | [], r, px, py, xs, ys, _, h, hx, hy, w => by
    simp only [zk, Option.some.injEq] at h
    subst h
    match xs, ys, hx, hy with
    | [], [], _, _ => simp [Op.eqFields, kU]
  | f :: fs, r, px, py, xs, ys, hp, h, hx, hy, w => by
    unfold zk at h
    split at h
    · rename_i l hd hl
      split at h
      · rename_i r' hr
        cases h
        obtain ⟨x1, x2, rfl, a1, a2⟩ := sZ hx
        obtain ⟨y1, y2, rfl, b1, b2⟩ := sZ hy
        obtain ⟨hn, ho⟩ := of_decide_eq_true hd
        have p1 := qY hl (px := px) (x2 := x2) a1 w
        have p2 := qY hl (px := py) (x2 := y2) b1 w
        have q := IH f.type l hl x1 y1 a1 b1 w
        have len1 := a1.length
        have len2 := b1.length
        have ih := sG IH fs r' (px ++ x1) (py ++ y1) x2 y2 (by simp; omega) (by rw [List.length_append, <- len1]; exact hr) a2 b2 w
        rw [<- hp] at p2
        rw [I8 (by omega)]
        simp only [List.append_assoc] at ih
        simp only [Op.eqFields, hn, ne_eq, not_false_eq_true, if_true, Sem.run_bind, ho, p1, p2, q, Result.andThen_ok]
        cases kU x1 y1
        · simp
        · simpa using ih
      · cases h
    · cases h
theorem MF : ∀ (d e : Nat) (t : TypeId) (ks : List LK), oC P d t = some ks -> ∀ xs ys, aU LK.ok ks xs -> aU LK.ok ks ys -> ∀ w, (Op.equalIn (e + d) t (ig P t xs) (ig P t ys)).run P w = .ok (kU xs ys) w
  | 0, _, _, _, h => by simp [oC] at h
  | d + 1, e, t, ks, h => by
    intro xs ys hx hy w
    unfold oC at h
    split at h
    · rename_i hu
      cases h
      match xs, ys, hx, hy with
      | [.bool a], [.bool b], _, _ => simp [ig, hu, kU, eqV, <- Nat.add_assoc, run_equalIn_bool' w (e + d) t a b hu]
    · rename_i k hu
      cases h
      match xs, ys, hx, hy with
      | [.int k1 a], [.int k2 b], ⟨h1, _⟩, ⟨h2, _⟩ =>
        simp only [LK.ok] at h1 h2
        subst h1; subst h2
        simp [ig, hu, kU, eqV, <- Nat.add_assoc, run_equalIn_int w (e + d) t _ _ a b hu]
    · rename_i hu
      cases h
      match xs, ys, hx, hy with
      | [.string a], [.string b], _, _ => simp [ig, hu, kU, eqV, <- Nat.add_assoc, run_equalIn_string w (e + d) t a b hu]
    · rename_i fs hu
      split at h
      · rename_i l' h1 h2
        split at h
        · rename_i hc
          cases h
          have ef : P.fieldsOf t = fs := by unfold Program.fieldsOf; rw [hu]
          have e1 : ig P t xs = .agg xs.toArray := by unfold ig; rw [hu]
          have e2 : ig P t ys = .agg ys.toArray := by unfold ig; rw [hu]
          rw [e1, e2, <- Nat.add_assoc, run_equalIn_struct w (e + d) t _ _ (by rw [ef]; exact hu) h1, ef]
          exact sG (fun t ks h xs ys hx hy w => MF d e t ks h xs ys hx hy w) fs.toList ks [] [] xs ys rfl h2 hx hy w
        · cases h
      · cases h
    · cases h
end
def ZN (P : Program) (t : TypeId) : Option (Bool × List LK) := match P.underlying t with
  | some (.struct _) => if P.eqGuardType P.depth t = false then match oC P 8 t with
    | some ks => some (true, ks)
    | none => none
    else none
  | some .string => some (false, [.str])
  | _ => none
def Qd : List LK -> List CV -> Option (List Value)
  | [], [] => some []
  | .int k :: ks, .iv (.g (.int k' n)) :: cs => match decide (k' = k), Qd ks cs with
    | true, some l => some (.int k' n :: l)
    | _, _ => none
  | .bool :: ks, .iv (.g (.bool b)) :: cs => match Qd ks cs with
    | some l => some (.bool b :: l)
    | none => none
  | .str :: ks, .iv (.g (.string b)) :: cs => match Qd ks cs with
    | some l => some (.string b :: l)
    | none => none
  | _, _ => none
theorem mZ {w : World} {J : Nat -> Option Nat} {Z : Nat -> Prop} : ∀ {ks : List LK} {cs : List CV} {l : List Value}, Qd ks cs = some l -> aU LK.ok ks l /\ ∀ vs : List Value, aU (bQ w J Z) vs cs -> vs = l
  | [], cs, l, h => by
    unfold Qd at h
    split at h <;> simp_all
    subst h
    exact ⟨by simp [aU], fun vs hv => by cases vs <;> simp_all [aU]⟩
  | k :: ks, cs, l, h => by
    unfold Qd at h
    split at h
    · cases ‹k :: ks = []›
    · rename_i k1 ks' k' n cs' e
      cases e
      split at h
      · rename_i l' hk hl
        cases h
        obtain ⟨a, b⟩ := mZ hl
        have hk' : k' = k1 := of_decide_eq_true hk
        refine ⟨⟨hk', a⟩, fun vs hv => ?_⟩
        match vs, hv with
        | v :: vs, ⟨h1, h2⟩ => rw [b vs h2]; cases h1; rfl
      · cases h
    · rename_i ks' b' cs' e
      cases e
      split at h
      · rename_i l' hl
        cases h
        obtain ⟨a, b⟩ := mZ hl
        refine ⟨⟨trivial, a⟩, fun vs hv => ?_⟩
        match vs, hv with
        | v :: vs, ⟨h1, h2⟩ => rw [b vs h2]; cases h1; rfl
      · cases h
    · rename_i ks' b' cs' e
      cases e
      split at h
      · rename_i l' hl
        cases h
        obtain ⟨a, b⟩ := mZ hl
        refine ⟨⟨trivial, a⟩, fun vs hv => ?_⟩
        match vs, hv with
        | v :: vs, ⟨h1, h2⟩ => rw [b vs h2]; cases h1; rfl
      · cases h
    · cases h
end Go.Sea
