/- A region that draws its order, on abstract states: the text's order tells all orders, if operations that stand in no order do not touch each other's slots and blocks. -/
import Derived.Test.YtifoncmlelinjaaSeaI
import Derived.Test.YtifoncmlelinjaaSeaL
set_option linter.unusedVariables false
set_option linter.unusedSimpArgs false
namespace Go.Sea
open Go.RowKit

def LV.refs : LV → List Nat
  | .ptr j _ => [j]
  | _ => []
def CV.refs : CV → List Nat
  | .slc j _ _ _ | .ptr j _ => [j]
  | .fn _ a b => a.flatMap LV.refs ++ b.flatMap LV.refs
  | _ => []
def TV.refs : TV → List Nat
  | .one c => c.refs
  | .agg cs => cs.flatMap CV.refs
def AV.refs : AV → List Nat
  | .t x | .mb _ x => x.refs
  | .tup xs => xs.flatMap TV.refs
  | .any => []
/-- What an operation has done: its value, its effect, and the blocks that its operands name. -/
structure Ent where
  v : AV
  ef : Eff
  ft : List Nat
def Eff.noApp : Eff → Prop
  | .app _ _ => False
  | _ => True
def Eff.tgt (nid : Nat) : Eff → Option Nat
  | .new _ => some nid
  | .set i _ => some i
  | _ => none
def ftF (s : AS) (o : Oper) : List Nat := o.op.operands.toList.flatMap fun x => (s.ev x).refs
def AS.ent (s : AS) (d : Option Nat) (nid : Nat) (v : AV) (ef : Eff) : AS := (s.eff nid ef).put d v

/-- Two states that read alike. -/
structure Like (s s' : AS) : Prop where
  N : s'.N = s.N
  gh : s'.gh = s.gh
  lp : s'.lp = s.lp
  get : ∀ t, s'.get t = s.get t
  blk : ∀ i, hget s'.heap i = hget s.heap i
theorem Like.refl (s : AS) : Like s s := ⟨rfl, rfl, rfl, fun _ => rfl, fun _ => rfl⟩
theorem Like.symm {s s' : AS} (h : Like s s') : Like s' s := ⟨h.N.symm, h.gh.symm, h.lp.symm, fun t => (h.get t).symm, fun t => (h.blk t).symm⟩
theorem Like.trans {s s' s'' : AS} (h : Like s s') (k : Like s' s'') : Like s s'' := ⟨k.N.trans h.N, k.gh.trans h.gh, k.lp.trans h.lp, fun t => (k.get t).trans (h.get t), fun t => (k.blk t).trans (h.blk t)⟩
theorem Rel.like {w0 : World} {Z0 : Fr} {J : Nat → Option Nat} {Z : Nat → Prop} {s s' : AS} {a : Act} {w : World} (R : Rel w0 Z0 J Z s a w) (h : Like s s') : Rel w0 Z0 J Z s' a w :=
  ⟨R.nodef, by rw [h.N]; exact R.size, R.below, R.zfrom, R.zlt, R.jlt, R.inj, fun i hi => R.hole i (by rw [← h.blk]; exact hi), fun i cs hi => R.cells i cs (by rw [← h.blk]; exact hi), fun t => by rw [h.get]; exact R.slots t, fun f t => by rw [h.gh]; exact R.ghost f t, by rw [h.lp]; exact R.loops, by rw [h.lp]; exact R.lnd, by rw [h.lp]; exact R.ro⟩
theorem put_get (s : AS) (d : Option Nat) (v : AV) (t : Nat) : (s.put d v).get t = if d = some t then v else s.get t := by
  cases d with
  | none => simp [AS.put]
  | some d =>
    simp only [AS.put, AS.get, lk, Option.some.injEq]
    by_cases h : t = d
    · rw [if_pos h, if_pos h.symm]
    · rw [if_neg h, if_neg (Ne.symm h)]
theorem eff_get {s : AS} {nid : Nat} {ef : Eff} (h : ef.noApp) (t : Nat) : (s.eff nid ef).get t = s.get t := by cases ef <;> first | rfl | exact h.elim
theorem eff_gh {s : AS} {nid : Nat} {ef : Eff} (h : ef.noApp) : (s.eff nid ef).gh = s.gh := by cases ef <;> first | rfl | exact h.elim
theorem eff_lp {s : AS} {nid : Nat} {ef : Eff} : (s.eff nid ef).lp = s.lp := by cases ef <;> rfl
def Eff.cells : Eff → List CV
  | .new cs | .set _ cs | .app _ cs => cs
  | .nop => []
theorem eff_blk {s : AS} {nid : Nat} {ef : Eff} (h : ef.noApp) (i : Nat) : hget (s.eff nid ef).heap i = if ef.tgt nid = some i then some ef.cells else hget s.heap i := by
  cases ef with
  | nop => simp [AS.eff, Eff.tgt]
  | new cs =>
    simp only [AS.eff, Eff.tgt, Option.some.injEq, Eff.cells]
    split
    · rename_i h; subst h; exact hget_hset_same _ _ _
    · rename_i h; exact hget_hset_ne _ _ _ _ (Ne.symm h)
  | set j cs =>
    simp only [AS.eff, Eff.tgt, Option.some.injEq, Eff.cells]
    split
    · rename_i h; subst h; exact hget_hset_same _ _ _
    · rename_i h; exact hget_hset_ne _ _ _ _ (Ne.symm h)
  | app => exact h.elim
theorem ent_get {s : AS} {d : Option Nat} {nid : Nat} {v : AV} {ef : Eff} (h : ef.noApp) (t : Nat) : (s.ent d nid v ef).get t = if d = some t then v else s.get t := by rw [AS.ent, put_get, eff_get h]
theorem ent_blk {s : AS} {d : Option Nat} {nid : Nat} {v : AV} {ef : Eff} (h : ef.noApp) (i : Nat) : hget (s.ent d nid v ef).heap i = if ef.tgt nid = some i then some ef.cells else hget s.heap i := by rw [AS.ent, put_heap, eff_blk h]
theorem ent_N {s : AS} {d : Option Nat} {nid : Nat} {v : AV} {ef : Eff} : (s.ent d nid v ef).N = s.N := by rw [AS.ent, put_N, eff_N]
theorem ent_lp {s : AS} {d : Option Nat} {nid : Nat} {v : AV} {ef : Eff} : (s.ent d nid v ef).lp = s.lp := by
  have : ∀ (s : AS) d v, (s.put d v).lp = s.lp := fun s d v => by cases d <;> rfl
  rw [AS.ent, this, eff_lp]
theorem ent_gh {s : AS} {d : Option Nat} {nid : Nat} {v : AV} {ef : Eff} (h : ef.noApp) : (s.ent d nid v ef).gh = s.gh := by
  rw [AS.ent]
  have : ∀ (s : AS) d v, (s.put d v).gh = s.gh := fun s d v => by cases d <;> rfl
  rw [this, eff_gh h]
theorem Like.ent {s s' : AS} (h : Like s s') {d : Option Nat} {nid : Nat} {v : AV} {ef : Eff} (he : ef.noApp) : Like (s.ent d nid v ef) (s'.ent d nid v ef) :=
  ⟨by rw [ent_N, ent_N]; exact h.N, by rw [ent_gh he, ent_gh he]; exact h.gh, by rw [ent_lp, ent_lp]; exact h.lp, fun t => by rw [ent_get he, ent_get he, h.get], fun i => by rw [ent_blk he, ent_blk he, h.blk]⟩
theorem ent_comm {s : AS} {d d' : Option Nat} {n n' : Nat} {v v' : AV} {e e' : Eff} (he : e.noApp) (he' : e'.noApp) (hd : ∀ t, d = some t → d' ≠ some t) (ht : ∀ i, e.tgt n = some i → e'.tgt n' ≠ some i) : Like ((s.ent d n v e).ent d' n' v' e') ((s.ent d' n' v' e').ent d n v e) := by
  refine ⟨by simp only [ent_N], by simp only [ent_gh he, ent_gh he'], by simp only [ent_lp], fun t => ?_, fun i => ?_⟩
  · rw [ent_get he, ent_get he', ent_get he', ent_get he]
    by_cases h1 : d = some t
    · rw [if_pos h1, if_neg (hd t h1), if_pos h1]
    · rw [if_neg h1, if_neg h1]
  · rw [ent_blk he, ent_blk he', ent_blk he', ent_blk he]
    by_cases h1 : e.tgt n = some i
    · rw [if_pos h1, if_neg (ht i h1), if_pos h1]
    · rw [if_neg h1, if_neg h1]

/-- The state when those operations of the log have come up for which D says so; ds: the slots that the operations write. -/
def foldP (n0 : Nat) (D : Nat → Bool) : Nat → List (Option Nat × Ent) → AS → AS
  | _, [], s => s
  | i, e :: es, s => foldP n0 D (i + 1) es (bif D i then s.ent e.1 (n0 + i) e.2.v e.2.ef else s)
section
variable {n0 : Nat}
theorem foldP_like {D : Nat → Bool} : ∀ (es : List (Option Nat × Ent)) (i : Nat) {s s' : AS}, (∀ e, e ∈ es → e.2.ef.noApp) → Like s s' → Like (foldP n0 D i es s) (foldP n0 D i es s')
  | [], _, _, _, _, h => h
  | e :: es, i, s, s', hn, h => by
    refine foldP_like es (i + 1) (fun x hx => hn x (by simp [hx])) ?_
    cases D i with
    | true => exact h.ent (hn e (by simp))
    | false => exact h
theorem foldP_congr {D D' : Nat → Bool} : ∀ (es : List (Option Nat × Ent)) (i : Nat) (s : AS), (∀ k, i ≤ k → D k = D' k) → foldP n0 D i es s = foldP n0 D' i es s
  | [], _, _, _ => rfl
  | e :: es, i, s, h => by
    simp only [foldP]
    rw [h i (Nat.le_refl _)]
    exact foldP_congr es (i + 1) _ fun k hk => h k (by omega)
/-- An operation that touches none of those behind it may come up last. -/
theorem foldP_out {D : Nat → Bool} {d : Option Nat} {n : Nat} {v : AV} {ef : Eff} (he : ef.noApp) : ∀ (es : List (Option Nat × Ent)) (i : Nat) (s : AS), (∀ e, e ∈ es → e.2.ef.noApp) →
    (∀ (k : Nat) e, es[k]? = some e → D (i + k) = true → (∀ t, d = some t → e.1 ≠ some t) ∧ ∀ j, ef.tgt n = some j → e.2.ef.tgt (n0 + (i + k)) ≠ some j) →
    Like (foldP n0 D i es (s.ent d n v ef)) ((foldP n0 D i es s).ent d n v ef)
  | [], _, _, _, _ => Like.refl _
  | e :: es, i, s, hn, hk => by
    simp only [foldP]
    have hne := hn e (by simp)
    have hn' : ∀ x, x ∈ es → x.2.ef.noApp := fun x hx => hn x (by simp [hx])
    have hk' : ∀ (k : Nat) x, es[k]? = some x → D (i + 1 + k) = true → (∀ t, d = some t → x.1 ≠ some t) ∧ ∀ j, ef.tgt n = some j → x.2.ef.tgt (n0 + (i + 1 + k)) ≠ some j := fun k x hx hD => by
      have := hk (k + 1) x (by simpa using hx) (by rw [show i + (k + 1) = i + 1 + k by omega]; exact hD)
      rw [show i + (k + 1) = i + 1 + k by omega] at this
      exact this
    cases hD : D i with
    | true =>
      have h0 := hk 0 e rfl hD
      have hc := ent_comm (s := s) (v := v) (v' := e.2.v) he hne h0.1 h0.2
      exact (foldP_like es (i + 1) hn' hc.symm).symm.trans (foldP_out he es (i + 1) _ hn' hk')
    | false => exact foldP_out he es (i + 1) s hn' hk'
theorem foldP_add {D : Nat → Bool} {i : Nat} : ∀ (es : List (Option Nat × Ent)) (j : Nat) (s : AS) (e : Option Nat × Ent), es[i - j]? = some e → j ≤ i → D i = false → (∀ e, e ∈ es → e.2.ef.noApp) →
    (∀ (k : Nat) x, i < k → es[k - j]? = some x → D k = true → (∀ t, e.1 = some t → x.1 ≠ some t) ∧ ∀ q, e.2.ef.tgt (n0 + i) = some q → x.2.ef.tgt (n0 + k) ≠ some q) →
    Like (foldP n0 (upd D i) j es s) ((foldP n0 D j es s).ent e.1 (n0 + i) e.2.v e.2.ef)
  | [], j, s, e, h, _, _, _, _ => by simp at h
  | x :: es, j, s, e, h, hj, hD, hn, hk => by
    simp only [foldP]
    by_cases hji : j = i
    · subst hji
      simp at h
      subst h
      rw [upd_same, hD]
      simp only [cond_true, cond_false]
      rw [foldP_congr (D := upd D j) (D' := D) es (j + 1) _ fun k hk => upd_ne D (by omega)]
      refine foldP_out (hn x (by simp)) es (j + 1) s (fun y hy => hn y (by simp [hy])) fun k y hy hDk => ?_
      have := hk (j + 1 + k) y (by omega) (by rw [show j + 1 + k - j = k + 1 by omega]; simpa using hy) hDk
      exact this
    · rw [upd_ne D hji]
      refine foldP_add es (j + 1) _ e (by rw [show i - j = (i - (j + 1)) + 1 by omega] at h; simpa using h) (by omega) hD (fun y hy => hn y (by simp [hy])) fun k y hik hy hDk => ?_
      exact hk k y hik (by rw [show k - j = (k - (j + 1)) + 1 by omega]; simpa using hy) hDk
theorem foldP_get {D D' : Nat → Bool} {t : Nat} : ∀ (es : List (Option Nat × Ent)) (j : Nat) (s s' : AS), (∀ e, e ∈ es → e.2.ef.noApp) → s'.get t = s.get t → (∀ (k : Nat) e, es[k]? = some e → e.1 = some t → D (j + k) = D' (j + k)) → (foldP n0 D' j es s').get t = (foldP n0 D j es s).get t
  | [], _, _, _, _, h, _ => h
  | e :: es, j, s, s', hn, h, hk => by
    simp only [foldP]
    refine foldP_get es (j + 1) _ _ (fun y hy => hn y (by simp [hy])) ?_ fun k x hx hd => by
      have := hk (k + 1) x (by simpa using hx) hd
      rw [show j + (k + 1) = j + 1 + k by omega] at this
      exact this
    have hne := hn e (by simp)
    by_cases hd : e.1 = some t
    · have := hk 0 e rfl hd
      rw [Nat.add_zero] at this
      rw [← this]
      cases D j with
      | true => simp only [cond_true]; rw [ent_get hne, ent_get hne, if_pos hd, if_pos hd]
      | false => exact h
    · have h1 : ∀ (b : Bool) (u : AS), (bif b then u.ent e.1 (n0 + j) e.2.v e.2.ef else u).get t = u.get t := fun b u => by
        cases b with
        | true => simp only [cond_true]; rw [ent_get hne, if_neg hd]
        | false => rfl
      rw [h1, h1]; exact h
theorem foldP_blk {D D' : Nat → Bool} {t : Nat} : ∀ (es : List (Option Nat × Ent)) (j : Nat) (s s' : AS), (∀ e, e ∈ es → e.2.ef.noApp) → hget s'.heap t = hget s.heap t → (∀ (k : Nat) e, es[k]? = some e → e.2.ef.tgt (n0 + (j + k)) = some t → D (j + k) = D' (j + k)) → hget (foldP n0 D' j es s').heap t = hget (foldP n0 D j es s).heap t
  | [], _, _, _, _, h, _ => h
  | e :: es, j, s, s', hn, h, hk => by
    simp only [foldP]
    refine foldP_blk es (j + 1) _ _ (fun y hy => hn y (by simp [hy])) ?_ fun k x hx hd => by
      have := hk (k + 1) x (by simpa using hx) (by rw [show j + (k + 1) = j + 1 + k by omega]; exact hd)
      rw [show j + (k + 1) = j + 1 + k by omega] at this
      exact this
    have hne := hn e (by simp)
    by_cases hd : e.2.ef.tgt (n0 + j) = some t
    · have := hk 0 e rfl hd
      rw [Nat.add_zero] at this
      rw [← this]
      cases D j with
      | true => simp only [cond_true]; rw [ent_blk hne, ent_blk hne, if_pos hd, if_pos hd]
      | false => exact h
    · have h1 : ∀ (b : Bool) (u : AS), hget (bif b then u.ent e.1 (n0 + j) e.2.v e.2.ef else u).heap t = hget u.heap t := fun b u => by
        cases b with
        | true => simp only [cond_true]; rw [ent_blk hne, if_neg hd]
        | false => rfl
      rw [h1, h1]; exact h
end
end Go.Sea
