/- Part 14 of 16: contracts of functions and plain laws for the root text. No condition. -/
import Derived.Test.YtmnejmpjmniiiaaGreatDoorW01
import Derived.Test.YtmnejmpjmniiiaaGreatDoorW02
import Derived.Test.YtmnejmpjmniiiaaGreatDoorW03
import Derived.Test.YtmnejmpjmniiiaaGreatDoorW04
import Derived.Test.YtmnejmpjmniiiaaGreatDoorW05
import Derived.Test.YtmnejmpjmniiiaaGreatDoorW06
import Derived.Test.YtmnejmpjmniiiaaGreatDoorW07
import Derived.Test.YtmnejmpjmniiiaaGreatDoorW08
import Derived.Test.YtmnejmpjmniiiaaGreatDoorW09
import Derived.Test.YtmnejmpjmniiiaaGreatDoorW10
import Derived.Test.YtmnejmpjmniiiaaGreatDoorW11
import Derived.Test.YtmnejmpjmniiiaaGreatDoorW12
import Derived.Test.YtmnejmpjmniiiaaGreatDoorW13
import Derived.Test.YtmnejmpjmniiiaaGreatDoorRows
set_option linter.unusedVariables false
set_option linter.unusedSimpArgs false
namespace Go.Proofs.YtmnejmpjmniiiaaGreatDoor
open Go.RowKit Go.Sea
def runP {σ : Type} : List (σ → Option σ) → σ → Option σ
  | [], s => some s
  | f :: l, s => (f s).bind (runP l)
theorem runP_app {σ : Type} : ∀ (l m : List (σ → Option σ)) (s : σ), runP (l ++ m) s = (runP l s).bind (runP m)
  | [], _, _ => rfl
  | f :: l, m, s => by
    show (f s).bind (runP (l ++ m)) = ((f s).bind (runP l)).bind (runP m)
    cases f s with
    | none => rfl
    | some t => exact runP_app l m t
theorem bindSm {σ : Type} (x : Option σ) : x.bind some = x := by cases x <;> rfl
structure FreeP {σ : Type} (f g : σ → Option σ) : Prop where
  com : ∀ s, (f s).bind g = (g s).bind f
  dia : ∀ s, (f s).isSome = true → (g s).isSome = true → ((f s).bind g).isSome = true
theorem FreeP.symm {σ : Type} {f g : σ → Option σ} (h : FreeP f g) : FreeP g f :=
  ⟨fun s => (h.com s).symm, fun s a b => by rw [← h.com]; exact h.dia s b a⟩
theorem FreeP.run {σ : Type} {f : σ → Option σ} : ∀ {l : List (σ → Option σ)}, (∀ g, g ∈ l → FreeP f g) → FreeP f (runP l)
  | [], _ => ⟨fun s => bindSm (f s), fun s a _ => by show ((f s).bind some).isSome = true; rw [bindSm]; exact a⟩
  | g :: l, h => by
    have hg := h g (List.mem_cons_self ..)
    have ih := FreeP.run (fun k hk => h k (List.mem_cons_of_mem _ hk))
    have com : ∀ s, (f s).bind (runP (g :: l)) = (runP (g :: l) s).bind f := fun s => by
      show (f s).bind (fun t => (g t).bind (runP l)) = ((g s).bind (runP l)).bind f
      have e1 : (f s).bind (fun t => (g t).bind (runP l)) = ((f s).bind g).bind (runP l) := by cases f s <;> rfl
      have e2 : ((g s).bind (runP l)).bind f = (g s).bind (fun t => (runP l t).bind f) := by cases g s <;> rfl
      rw [e1, e2, hg.com]
      cases g s with
      | none => rfl
      | some t => exact ih.com t
    refine ⟨com, fun s a b => ?_⟩
    have b' : ((g s).bind (runP l)).isSome = true := b
    cases hgs : g s with
    | none => rw [hgs] at b'; cases b'
    | some t =>
      rw [hgs] at b'
      have d := hg.dia s a (by rw [hgs]; rfl)
      rw [hg.com, hgs] at d
      have := ih.dia t d b'
      rw [com]
      show (((g s).bind (runP l)).bind f).isSome = true
      rw [hgs]
      show ((runP l t).bind f).isSome = true
      rw [← ih.com]; exact this
theorem run_front {σ : Type} {f : σ → Option σ} {a : List (σ → Option σ)} (b : List (σ → Option σ)) (h : ∀ g, g ∈ a → FreeP f g) (s : σ) : runP (a ++ f :: b) s = runP (f :: (a ++ b)) s := by
  rw [runP_app]
  show (runP a s).bind (fun t => (f t).bind (runP b)) = (f s).bind (runP (a ++ b))
  have e1 : (runP a s).bind (fun t => (f t).bind (runP b)) = ((runP a s).bind f).bind (runP b) := by cases runP a s <;> rfl
  rw [e1, ← (FreeP.run h).com]
  cases f s with
  | none => rfl
  | some t => exact (runP_app a b t).symm
theorem run_part {σ α : Type} (F : α → σ → Option σ) (t : α → Bool) : ∀ {S : List α}, S.Pairwise (fun a b => t b = true → t a = false → FreeP (F a) (F b)) → ∀ s, runP (S.map F) s = (runP ((S.filter t).map F) s).bind (runP ((S.filter fun a => !t a).map F))
  | [], _, _ => rfl
  | a :: S, h, s => by
    have hp := List.pairwise_cons.1 h
    by_cases ha : t a = true
    · rw [List.filter_cons_of_pos ha, List.filter_cons_of_neg (by simp [ha])]
      show (F a s).bind (runP (S.map F)) = ((F a s).bind (runP ((S.filter t).map F))).bind _
      cases F a s with
      | none => rfl
      | some u => exact run_part F t hp.2 u
    · rw [List.filter_cons_of_neg ha, List.filter_cons_of_pos (by simp [ha])]
      show (F a s).bind (runP (S.map F)) = (runP ((S.filter t).map F) s).bind (fun u => (F a u).bind (runP ((S.filter fun a => !t a).map F)))
      have hf : FreeP (F a) (runP ((S.filter t).map F)) := FreeP.run fun g hg => by
        obtain ⟨b, hb, rfl⟩ := List.mem_map.1 hg
        have := List.mem_filter.1 hb
        exact hp.1 b this.1 this.2 (by simpa using ha)
      have e1 : ∀ (x : Option σ), x.bind (fun u => (F a u).bind (runP ((S.filter fun a => !t a).map F))) = (x.bind (F a)).bind (runP ((S.filter fun a => !t a).map F)) := fun x => by cases x <;> rfl
      rw [e1, ← hf.com]
      cases F a s with
      | none => rfl
      | some u => exact run_part F t hp.2 u
theorem run_last {σ α : Type} (F : α → σ → Option σ) (t : α → Bool) {S : List α} {j : α} (h : S.Pairwise (fun a b => t b = true → t a = false → FreeP (F a) (F b))) (hj : ∀ a, a ∈ S → t a = false → FreeP (F a) (F j)) {s : σ} (h1 : (runP (S.map F) s).isSome = true) (h2 : (runP ((S.filter t ++ [j]).map F) s).isSome = true) : (runP ((S ++ [j]).map F) s).isSome = true := by
  rw [List.map_append, runP_app] at h2 ⊢
  rw [run_part F t h] at h1 ⊢
  cases hq : runP ((S.filter t).map F) s with
  | none => rw [hq] at h1; cases h1
  | some u =>
    rw [hq] at h1 h2
    have hf : FreeP (F j) (runP ((S.filter fun a => !t a).map F)) := FreeP.run fun g hg => by
      obtain ⟨b, hb, rfl⟩ := List.mem_map.1 hg
      have := List.mem_filter.1 hb
      exact (hj b this.1 (by simpa using this.2)).symm
    have h2' : (F j u).isSome = true := by
      have e : ((some u).bind (runP ([j].map F))) = (F j u).bind some := rfl
      rw [e, bindSm] at h2; exact h2
    have d := hf.dia u h2' h1
    rw [hf.com] at d
    show ((runP _ u).bind (runP ([j].map F))).isSome = true
    have e : ∀ x : Option σ, x.bind (runP ([j].map F)) = x.bind (F j) := fun x => by
      cases x with
      | none => rfl
      | some v => exact bindSm (F j v)
    rw [e]; exact d
theorem run_perm {σ α : Type} [BEq α] [LawfulBEq α] (F : α → σ → Option σ) : ∀ (m : List α) {l : List α}, l.Nodup → l.Perm m → l.Pairwise (fun a b => (∃ x y z, m = x ++ b :: y ++ a :: z) → FreeP (F a) (F b)) → ∀ s, runP (l.map F) s = runP (m.map F) s
  | [], l, _, hp, _, s => by rw [List.perm_nil.1 hp]
  | o :: m, l, hn, hp, h, s => by
    have ho : o ∈ l := hp.mem_iff.2 (List.mem_cons_self ..)
    obtain ⟨a, b, rfl⟩ := List.append_of_mem ho
    have hp2 : (a ++ b).Perm m := by
      have : (o :: (a ++ b)).Perm (o :: m) := List.perm_middle.symm.trans hp
      exact List.Perm.cons_inv this
    have hnm : (o :: m).Nodup := hp.nodup_iff.1 hn
    have hn2 : (a ++ b).Nodup := hp2.nodup_iff.2 (List.nodup_cons.1 hnm).2
    have hq := List.pairwise_append.1 h
    have hfr : ∀ g, g ∈ a.map F → FreeP (F o) g := fun g hg => by
      obtain ⟨x, hx, rfl⟩ := List.mem_map.1 hg
      have hm : x ∈ m := hp2.mem_iff.1 (List.mem_append_left _ hx)
      obtain ⟨y, z, rfl⟩ := List.append_of_mem hm
      exact (hq.2.2 x hx o (List.mem_cons_self ..) ⟨[], y, z, rfl⟩).symm
    have e : (a ++ o :: b).map F = a.map F ++ F o :: b.map F := by simp
    rw [e, run_front _ hfr]
    show (F o s).bind (runP (a.map F ++ b.map F)) = (F o s).bind (runP (m.map F))
    cases F o s with
    | none => rfl
    | some u =>
      have hh : (a ++ b).Pairwise (fun a b => (∃ x y z, m = x ++ b :: y ++ a :: z) → FreeP (F a) (F b)) := by
        have h3 : (a ++ b).Pairwise (fun a b => (∃ x y z, o :: m = x ++ b :: y ++ a :: z) → FreeP (F a) (F b)) :=
          List.Pairwise.sublist (List.Sublist.append (List.Sublist.refl a) (List.sublist_cons_self o b)) h
        refine h3.imp fun {x y} k ⟨p, q, r, e⟩ => k ⟨o :: p, q, r, by rw [e]; rfl⟩
      have := run_perm F m hn2 hp2 hh u
      rw [List.map_append] at this
      exact this
def updM (m : Int → Option Feat) (k : Int) (x : Option Feat) : Int → Option Feat := fun j => if j = k then x else m j
theorem updM_at (m : Int → Option Feat) (k : Int) (x : Option Feat) : updM m k x k = x := by unfold updM; rw [if_pos rfl]
theorem updM_ne (m : Int → Option Feat) {k j : Int} (x : Option Feat) (h : j ≠ k) : updM m k x j = m j := by unfold updM; rw [if_neg h]
theorem updM_comm (m : Int → Option Feat) {a b : Int} (x y : Option Feat) (h : a ≠ b) : updM (updM m a x) b y = updM (updM m b y) a x := by
  funext j
  unfold updM
  by_cases h1 : j = b
  · rw [if_pos h1, if_neg (fun e => h (by rw [← e, h1])), if_pos h1]
  · rw [if_neg h1]
    by_cases h2 : j = a
    · rw [if_pos h2, if_pos h2]
    · rw [if_neg h2, if_neg h2, if_neg h1]
theorem updM_twice (m : Int → Option Feat) (k : Int) (x y : Option Feat) : updM (updM m k x) k y = updM m k y := by
  funext j; unfold updM; by_cases h : j = k
  · rw [if_pos h, if_pos h]
  · rw [if_neg h, if_neg h, if_neg h]
def doX (o : OpS) (x : Option Feat) : Option (Option Feat) :=
  if o.kd = 1 then (match x with
    | none => some (some o.f)
    | some _ => none)
  else match x with
    | none => none
    | some f => if o.kd = 2 then some none else if chgE f o = 0 then some (some (chgF f o)) else none
def doM (o : OpS) (m : Int → Option Feat) : Option (Int → Option Feat) := (doX o (m o.id)).map (updM m o.id)
def frO (a b : OpS) : Prop := a.id ≠ b.id ∨ (3 ≤ a.kd ∧ a.kd ≤ 5) ∧ (3 ≤ b.kd ∧ b.kd ≤ 5) ∧ a.kd ≠ b.kd
theorem chgF_kd (f : Feat) (o : OpS) : (chgF f o).kd = f.kd := by
  unfold chgF; repeat' split
  all_goals rfl
theorem chgE_of {f g : Feat} (h : f.kd = g.kd) (o : OpS) : chgE f o = chgE g o := by unfold chgE; rw [h]
theorem chgF_comm {a b : OpS} (h : a.kd ≠ b.kd) (f : Feat) : chgF (chgF f a) b = chgF (chgF f b) a := by
  unfold chgF
  repeat' split
  all_goals first | rfl | omega
theorem doX_f {o : OpS} (h : 3 ≤ o.kd ∧ o.kd ≤ 5) (x : Option Feat) : doX o x = x.bind fun f => if chgE f o = 0 then some (some (chgF f o)) else none := by
  unfold doX
  rw [if_neg (by omega)]
  cases x with
  | none => rfl
  | some f => show (if o.kd = 2 then _ else _) = _; rw [if_neg (by omega)]; rfl
theorem free_do {a b : OpS} (h : frO a b) : FreeP (doM a) (doM b) := by
  by_cases hi : a.id = b.id
  · obtain ⟨ha, hb, hk⟩ := h.resolve_left (fun k => k hi)
    have ea : ∀ m, doM a m = (m a.id).bind fun f => if chgE f a = 0 then some (updM m a.id (some (chgF f a))) else none := fun m => by
      unfold doM; rw [doX_f ha]
      cases m a.id with
      | none => rfl
      | some f => show Option.map _ (if _ then _ else _) = (if _ then _ else _); split <;> rfl
    have eb : ∀ m, doM b m = (m a.id).bind fun f => if chgE f b = 0 then some (updM m a.id (some (chgF f b))) else none := fun m => by
      unfold doM; rw [doX_f hb, hi]
      cases m b.id with
      | none => rfl
      | some f => show Option.map _ (if _ then _ else _) = (if _ then _ else _); split <;> rfl
    have key : ∀ (o : OpS) (f : Feat) (m : Int → Option Feat) (o2 : OpS), (∀ m, doM o2 m = (m a.id).bind fun f => if chgE f o2 = 0 then some (updM m a.id (some (chgF f o2))) else none) → doM o2 (updM m a.id (some (chgF f o))) = if chgE f o2 = 0 then some (updM m a.id (some (chgF (chgF f o) o2))) else none := fun o f m o2 e => by
      rw [e, updM_at]
      show (if chgE (chgF f o) o2 = 0 then _ else _) = _
      rw [chgE_of (chgF_kd f o) o2, updM_twice]
    refine ⟨fun m => ?_, fun m h1 h2 => ?_⟩
    · rw [ea m, eb m]
      cases hm : m a.id with
      | none => rfl
      | some f =>
        show ((if chgE f a = 0 then some (updM m a.id (some (chgF f a))) else none).bind (doM b)) = ((if chgE f b = 0 then some (updM m a.id (some (chgF f b))) else none).bind (doM a))
        by_cases h1 : chgE f a = 0 <;> by_cases h2 : chgE f b = 0
        · rw [if_pos h1, if_pos h2]
          show doM b _ = doM a _
          rw [key a f m b eb, key b f m a ea, if_pos h1, if_pos h2, chgF_comm hk]
        · rw [if_pos h1, if_neg h2]
          show doM b _ = none
          rw [key a f m b eb, if_neg h2]
        · rw [if_neg h1, if_pos h2]
          show none = doM a _
          rw [key b f m a ea, if_neg h1]
        · rw [if_neg h1, if_neg h2]; rfl
    · rw [ea m] at h1 ⊢
      rw [eb m] at h2
      cases hm : m a.id with
      | none => rw [hm] at h1; cases h1
      | some f =>
        rw [hm] at h1 h2
        have h1' : (if chgE f a = 0 then some (updM m a.id (some (chgF f a))) else none).isSome = true := h1
        have h2' : (if chgE f b = 0 then some (updM m a.id (some (chgF f b))) else none).isSome = true := h2
        have g1 : chgE f a = 0 := by
          by_cases g : chgE f a = 0
          · exact g
          · rw [if_neg g] at h1'; cases h1'
        have g2 : chgE f b = 0 := by
          by_cases g : chgE f b = 0
          · exact g
          · rw [if_neg g] at h2'; cases h2'
        show ((if chgE f a = 0 then some (updM m a.id (some (chgF f a))) else none).bind (doM b)).isSome = true
        rw [if_pos g1]
        show (doM b _).isSome = true
        rw [key a f m b eb, if_pos g2]; rfl
  · have e : ∀ (m : Int → Option Feat) (p q : OpS) (x : Option Feat), p.id ≠ q.id → doM q (updM m p.id x) = (doX q (m q.id)).map fun y => updM (updM m p.id x) q.id y := fun m p q x hpq => by
      unfold doM; rw [updM_ne _ _ (Ne.symm hpq)]
    refine ⟨fun m => ?_, fun m h1 h2 => ?_⟩
    · show ((doX a (m a.id)).map (updM m a.id)).bind (doM b) = ((doX b (m b.id)).map (updM m b.id)).bind (doM a)
      cases ha : doX a (m a.id) with
      | none =>
        cases hb : doX b (m b.id) with
        | none => rfl
        | some y => show none = doM a (updM m b.id y); rw [e m b a y (Ne.symm hi), ha]; rfl
      | some x =>
        cases hb : doX b (m b.id) with
        | none => show doM b (updM m a.id x) = none; rw [e m a b x hi, hb]; rfl
        | some y =>
          show doM b (updM m a.id x) = doM a (updM m b.id y)
          rw [e m a b x hi, e m b a y (Ne.symm hi), ha, hb]
          show some (updM (updM m a.id x) b.id y) = some (updM (updM m b.id y) a.id x)
          rw [updM_comm m x y hi]
    · have h1' : ((doX a (m a.id)).map (updM m a.id)).isSome = true := h1
      have h2' : ((doX b (m b.id)).map (updM m b.id)).isSome = true := h2
      show (((doX a (m a.id)).map (updM m a.id)).bind (doM b)).isSome = true
      cases ha : doX a (m a.id) with
      | none => rw [ha] at h1'; cases h1'
      | some x =>
        cases hb : doX b (m b.id) with
        | none => rw [hb] at h2'; cases h2'
        | some y =>
          show (doM b (updM m a.id x)).isSome = true
          rw [e m a b x hi, hb]; rfl
def opsM (k : Nat) (o : Nat → OpS) : (Int → Option Feat) → Option (Int → Option Feat) := runP ((List.range k).map fun i => doM (o i))
theorem free_ops {k l : Nat} {o p : Nat → OpS} (h : ∀ i j, i < k → j < l → frO (o i) (p j)) : FreeP (opsM k o) (opsM l p) := by
  unfold opsM
  refine FreeP.run fun g hg => ?_
  obtain ⟨j, hj, rfl⟩ := List.mem_map.1 hg
  refine (FreeP.run fun g hg => ?_).symm
  obtain ⟨i, hi, rfl⟩ := List.mem_map.1 hg
  exact (free_do (h i j (List.mem_range.1 hi) (List.mem_range.1 hj))).symm
theorem do_M {L : List Feat} (hL : asc L) {o : OpS} (ho : opB o = true) (hn : L.length < 300) : doM o (idx L) = if (doL L o).1 = 0 then some (idx (doL L o).2) else none := by
  unfold doM doX doL
  by_cases h1 : o.kd = 1
  · rw [if_pos h1, if_pos h1]
    have hid := op_fid ho h1
    cases hi : idx L o.id with
    | some f => show none = (if (5 : Int) = 0 then _ else _); rw [if_neg (by decide)]
    | none =>
      show some _ = _
      have e : ¬ 300 ≤ L.length := by omega
      simp only [if_neg e, if_true]
      congr 1
      funext k
      rw [idx_put hL, hid]; rfl
  · rw [if_neg h1, if_neg h1]
    cases hi : idx L o.id with
    | none => show none = (if (4 : Int) = 0 then _ else _); rw [if_neg (by decide)]
    | some f =>
      by_cases h2 : o.kd = 2
      · simp only [if_pos h2, if_true]
        show some _ = some _
        congr 1
        funext k
        rw [idx_cut hL]; rfl
      · simp only [if_neg h2]
        by_cases h3 : chgE f o = 0
        · simp only [if_pos h3, if_true]
          show some _ = some _
          congr 1
          funext k
          rw [idx_put (asc_cut hL _), idx_cut hL, chgF_id, (idx_some hi).2]
          unfold updM
          by_cases g : k = o.id
          · rw [if_pos g, if_pos g]
          · rw [if_neg g, if_neg g, if_neg g]
        · simp only [if_neg h3]; rfl
theorem asc_ext {L M : List Feat} (hL : asc L) (hM : asc M) (h : idx L = idx M) : L = M := by
  have hm : ∀ {K : List Feat}, asc K → ∀ x, x ∈ K.map (·.id) ↔ idx K x ≠ none := fun {K} hK x => by
    constructor
    · intro hx
      obtain ⟨f, hf, rfl⟩ := List.mem_map.1 hx
      rw [idx_mem hK hf]; exact Option.some_ne_none _
    · intro hx
      cases hi : idx K x with
      | none => exact absurd hi hx
      | some f => exact List.mem_map.2 ⟨f, (idx_some hi).1, (idx_some hi).2⟩
  have e : L.map (·.id) = M.map (·.id) := rise_eq (asc_ids hL) (asc_ids hM) fun x => by rw [hm hL, hm hM, h]
  have hl : L.length = M.length := by have := congrArg List.length e; simpa using this
  refine List.ext_getElem hl fun i h1 h2 => ?_
  have e2 : (L.map (·.id))[i]'(by simpa using h1) = (M.map (·.id))[i]'(by simpa using h2) := by congr 1
  simp only [List.getElem_map] at e2
  have a1 := idx_mem hL (List.getElem_mem h1)
  have a2 := idx_mem hM (List.getElem_mem h2)
  rw [e2, h, a2] at a1
  exact (Option.some.inj a1).symm
theorem doL_grow {L : List Feat} (hL : asc L) (o : OpS) : (doL L o).2.length ≤ L.length + 1 := by
  have hp : ∀ (K : List Feat) (f : Feat), asc K → (putL K f).length ≤ K.length + 1 := fun K f hK => by
    unfold putL
    rw [List.length_append, List.length_cons]
    have : (K.filter fun g => g.id < f.id).length + (K.filter fun g => f.id < g.id).length ≤ K.length := by
      clear hK hL
      induction K with
      | nil => simp
      | cons g K ih =>
        simp only [List.filter_cons, List.length_cons]
        by_cases h1 : g.id < f.id
        · have h2 : ¬ f.id < g.id := by omega
          simp only [decide_eq_true h1, decide_eq_false h2, if_true, List.length_cons]; simp; omega
        · by_cases h2 : f.id < g.id
          · simp only [decide_eq_false h1, decide_eq_true h2, if_true, List.length_cons]; simp; omega
          · simp only [decide_eq_false h1, decide_eq_false h2]; simp; omega
    omega
  have hc : ∀ (K : List Feat) (k : Int), (cutL K k).length ≤ K.length := fun K k => List.length_filter_le _ _
  unfold doL
  repeat' split
  all_goals first
    | exact Nat.le_succ _
    | exact hp _ _ hL
    | exact Nat.le_trans (hc _ _) (Nat.le_succ _)
    | exact Nat.le_trans (hp _ _ (asc_cut hL _)) (Nat.succ_le_succ (hc _ _))
theorem run_grow {L : List Feat} (hL : asc L) (o : Nat → OpS) : ∀ i, asc (runL L o i) ∧ (runL L o i).length ≤ L.length + i
  | 0 => ⟨hL, Nat.le_refl _⟩
  | i + 1 => by
    have h := run_grow hL o i
    have h2 := doL_grow h.1 (o i)
    exact ⟨doL_asc h.1 (o i), by show (doL (runL L o i) (o i)).2.length ≤ _; omega⟩
theorem ops_M {L : List Feat} (hL : asc L) {o : Nat → OpS} : ∀ (k : Nat), (∀ i, i < k → opB (o i) = true) → L.length + k ≤ 300 → ((∀ i, i < k → (doL (runL L o i) (o i)).1 = 0) → opsM k o (idx L) = some (idx (runL L o k))) ∧ ((∃ i, i < k ∧ (doL (runL L o i) (o i)).1 ≠ 0) → opsM k o (idx L) = none)
  | 0, _, _ => ⟨fun _ => rfl, fun ⟨i, hi, _⟩ => absurd hi (Nat.not_lt_zero i)⟩
  | k + 1, ho, hn => by
    have ih := ops_M hL k (fun i hi => ho i (by omega)) (by omega)
    have hg := run_grow hL o k
    have e : opsM (k + 1) o (idx L) = (opsM k o (idx L)).bind (doM (o k)) := by
      unfold opsM
      rw [List.range_succ, List.map_append, runP_app]
      congr 1
      funext m
      exact bindSm _
    have hd := do_M hg.1 (ho k (Nat.lt_succ_self k)) (by omega)
    refine ⟨fun h => ?_, fun ⟨i, hi, h⟩ => ?_⟩
    · rw [e, ih.1 (fun i hi => h i (by omega))]
      show doM (o k) (idx (runL L o k)) = _
      rw [hd, if_pos (h k (Nat.lt_succ_self k))]; rfl
    · rw [e]
      by_cases hk : ∀ i, i < k → (doL (runL L o i) (o i)).1 = 0
      · rw [ih.1 hk]
        have hik : i = k := by
          rcases Nat.lt_or_ge i k with g | g
          · exact absurd (hk i g) h
          · omega
        subst hik
        show doM (o i) (idx (runL L o i)) = none
        rw [hd, if_neg h]
      · have : ∃ i, i < k ∧ (doL (runL L o i) (o i)).1 ≠ 0 := by
          refine Classical.byContradiction fun g => hk fun i hi => ?_
          exact Classical.byContradiction fun g2 => g ⟨i, hi, g2⟩
        rw [ih.2 this]; rfl
theorem fstB_lo {b : Nat → Bool} : ∀ n j, j < fstB b n → b j = false
  | 0, j, h => by simp [fstB] at h
  | n + 1, j, h => by
    have ih := fstB_lo (b := b) n
    simp only [fstB] at h
    split at h
    · exact ih j h
    · rename_i g
      have hle := fstB_le b n
      have e : fstB b n = n := by omega
      split at h
      · exact ih j (by omega)
      · rename_i g2
        rcases (by omega : j < n ∨ j = n) with q | rfl
        · exact ih j (by omega)
        · simpa using g2
theorem nu_lt {S : Nat → StepS} {m : Nat} (hv : vsB S m = true) {i : Nat} : ∀ {j : Nat}, i < j → j < m → (S i).nu < (S j).nu
  | 0, h, _ => by omega
  | j + 1, h, hj => by
    have h1 := ((of_decide_eq_true hv).2 (j + 1) hj).2.1
    rw [lsN_s] at h1
    rcases (by omega : i < j ∨ i = j) with q | rfl
    · have := nu_lt hv q (by omega : j < m); omega
    · exact h1
theorem ix_nu {S : Nat → StepS} {m : Nat} (hv : vsB S m = true) {t : Nat} (ht : t < m) : ixM S m (S t).nu = t :=
  ix_of ht rfl fun j hj e => by have := nu_lt hv hj ht; omega
theorem ix_get {S : Nat → StepS} {m : Nat} {y : Int} (h : ixM S m y < m) : (S (ixM S m y)).nu = y := by
  have key : ∀ k, fstB (fun i => decide ((S i).nu = y)) k < k → (S (fstB (fun i => decide ((S i).nu = y)) k)).nu = y := by
    intro k
    induction k with
    | zero => intro h; omega
    | succ k ih =>
      intro hk
      simp only [fstB] at hk ⊢
      split
      · rename_i g; exact ih g
      · rename_i g
        rw [if_neg g] at hk
        split
        · rename_i g2; exact of_decide_eq_true g2
        · rename_i g2; rw [if_neg g2] at hk; omega
  exact key m h
theorem ix_a {S : Nat → StepS} {m i u : Nat} (hv : vsB S m = true) (hi : i < m) (hu : u < (S i).q) : ixM S m ((S i).a u) < i := by
  obtain ⟨t, h1, h2⟩ := st_ex hv hi hu
  rw [← h2, ix_nu hv (by omega)]; exact h1
theorem orJ_bit {S : Nat → StepS} {m i : Nat} {P : List Nat} {t : Nat} : ∀ j, (orJ S m i P j).testBit t = true ↔ ∃ u, u < j ∧ (t = ixM S m ((S i).a u) ∨ (P.getD (ixM S m ((S i).a u)) 0).testBit t = true)
  | 0 => by simp [orJ]
  | j + 1 => by
    show (orJ S m i P j ||| (_ ||| 2 ^ _)).testBit t = true ↔ _
    rw [Nat.testBit_or, Bool.or_eq_true, orJ_bit j, Nat.testBit_or, Bool.or_eq_true, Nat.testBit_two_pow, decide_eq_true_eq]
    constructor
    · rintro (⟨u, h1, h2⟩ | h | h)
      · exact ⟨u, by omega, h2⟩
      · exact ⟨j, by omega, Or.inr h⟩
      · exact ⟨j, by omega, Or.inl h.symm⟩
    · rintro ⟨u, h1, h2⟩
      rcases (by omega : u < j ∨ u = j) with q | rfl
      · exact Or.inl ⟨u, q, h2⟩
      · rcases h2 with h2 | h2
        · exact Or.inr (Or.inr h2.symm)
        · exact Or.inr (Or.inl h2)
theorem pst_bit {S : Nat → StepS} {m i t : Nat} (hv : vsB S m = true) (hi : i < m) : (pstN S m i).testBit t = true ↔ ∃ u, u < (S i).q ∧ (t = ixM S m ((S i).a u) ∨ (pstN S m (ixM S m ((S i).a u))).testBit t = true) := by
  have e : pstN S m i = orJ S m i (pstL S m i) (S i).q := by
    rw [← pstL_at S m (Nat.lt_succ_self i) (by omega : i + 1 ≤ m)]
    show (pstL S m i ++ [_]).getD i 0 = _
    rw [getD_r (by rw [pstL_len]; omega), pstL_len, Nat.sub_self]; rfl
  rw [e, orJ_bit]
  constructor <;> rintro ⟨u, h1, h2⟩ <;> refine ⟨u, h1, ?_⟩ <;> have h3 := ix_a hv hi h1
  · rwa [pstL_at S m h3 (by omega)] at h2
  · rwa [pstL_at S m h3 (by omega)]
theorem pst_down {S : Nat → StepS} {m i k : Nat} (hv : vsB S m = true) (hm : m ≤ 10) (hi : i < m) (h : (pstN S m i).testBit k = true) : k < i := by
  cases Nat.lt_or_ge k i with
  | inl g => exact g
  | inr g => rw [Nat.testBit_lt_two_pow (Nat.lt_of_lt_of_le (pstN_lt hv hm hi) (Nat.pow_le_pow_right (by decide) g))] at h; cases h
theorem pst_tr {S : Nat → StepS} {m : Nat} (hv : vsB S m = true) (hm : m ≤ 10) {k t : Nat} : ∀ n i, i < n → i < m → (pstN S m i).testBit k = true → (pstN S m k).testBit t = true → (pstN S m i).testBit t = true
  | 0, i, h, _, _, _ => by omega
  | n + 1, i, h, hi, h1, h2 => by
    obtain ⟨u, hu, g⟩ := (pst_bit hv hi).1 h1
    refine (pst_bit hv hi).2 ⟨u, hu, Or.inr ?_⟩
    have h3 := ix_a hv hi hu
    rcases g with rfl | g
    · exact h2
    · exact pst_tr hv hm n _ (by omega) (by omega) g h2
theorem hit_no {k : Nat} {o : Nat → OpS} {l : Nat} {p : Nat → OpS} (h : comX k o l p < 0) {i j : Nat} (hi : i < k) (hj : j < l) : hitB (o i) (p j) = false := by
  have h1 : ¬ comJ k o l p < k := fun g => by unfold comX at h; rw [if_pos g] at h; omega
  have h2 : comJ k o l p = k := by have := fstB_le (fun i => decide (hitK (o i) l p < l)) k; unfold comJ at h1 ⊢; omega
  have h3 := fstB_lo (b := fun i => decide (hitK (o i) l p < l)) k i (by show i < comJ k o l p; omega)
  have h4 : ¬ hitK (o i) l p < l := of_decide_eq_false h3
  have h5 := fstB_le (fun j => hitB (o i) (p j)) l
  exact fstB_lo (b := fun j => hitB (o i) (p j)) l j (by show j < hitK (o i) l p; unfold hitK at h4 ⊢; omega)
theorem fr_no {x y : OpS} (h : hitB x y = false) : frO x y := by
  have h := of_decide_eq_false h
  unfold frO
  by_cases e : x.id = y.id
  · refine Or.inr ?_
    have h2 : ¬ (x.kd = y.kd ∨ fldB x = false ∨ fldB y = false) := fun g => h ⟨e, g⟩
    have hx : fldB x = true := by cases g : fldB x with
      | true => rfl
      | false => exact absurd (Or.inr (Or.inl g)) h2
    have hy : fldB y = true := by cases g : fldB y with
      | true => rfl
      | false => exact absurd (Or.inr (Or.inr g)) h2
    exact ⟨of_decide_eq_true hx, of_decide_eq_true hy, fun g => h2 (Or.inl g)⟩
  · exact Or.inl e
def stM (x : CaS) (i : Nat) : (Int → Option Feat) → Option (Int → Option Feat) := opsM (x.O i).k (x.O i).o
theorem free_st {x : CaS} {i k : Nat} (h : hitX x i k = false) : FreeP (stM x i) (stM x k) :=
  free_ops fun a b ha hb => fr_no (hit_no (by have := of_decide_eq_false h; omega) ha hb)
theorem foe_bit {x : CaS} (j t : Nat) : (foeN (opL x) j).testBit t = true ↔ (j, t) ∈ opL x ∨ (t, j) ∈ opL x := foeN_bit _ (fun p hp => (opL_mem.1 hp).1) j t
theorem free_lt {x : CaS} {i k : Nat} (hik : i < k) (hk : k < x.m) (hp : (opP x k).testBit i = false) (hf : (foeN (opL x) i).testBit k = false) : FreeP (stM x i) (stM x k) := by
  refine free_st ?_
  cases e : hitX x i k with
  | false => rfl
  | true =>
    have := (foe_bit (x := x) i k).2 (Or.inl (opL_mem.2 ⟨hik, hk, hp, e⟩))
    rw [hf] at this; cases this
def ClosN (x : CaS) (s : Nat) : Prop := ∀ i, s.testBit i = true → ∀ k, (opP x i).testBit k = true → s.testBit k = true
def NoFoe (x : CaS) (s : Nat) : Prop := ∀ i k, s.testBit i = true → s.testBit k = true → (foeN (opL x) i).testBit k = false
def M0 (x : CaS) : Int → Option Feat := idx (LF x.f x.n)
def StandN (x : CaS) (s : Nat) : Prop := ClosN x s ∧ NoFoe x s ∧ (runP ((bl s).map (stM x)) (M0 x)).isSome = true
theorem bl_of {s n : Nat} (h : ∀ i, s.testBit i = true → i < n) (hs : s < 1024) : bl s = (List.range n).filter s.testBit := by
  have key : ∀ a b, a ≤ b → (∀ i, s.testBit i = true → i < a) → (List.range b).filter s.testBit = (List.range a).filter s.testBit := by
    intro a b
    induction b with
    | zero => intro h _; have : a = 0 := by omega
              subst this; rfl
    | succ b ih =>
      intro h hb
      rcases (by omega : a = b + 1 ∨ a ≤ b) with rfl | q
      · rfl
      · rw [List.range_succ, List.filter_append, ih q hb, List.filter_cons_of_neg (by intro e; have := hb b e; omega)]; simp
  have h10 : ∀ i, s.testBit i = true → i < 10 := fun i hi => inS_bit (m := 10) hs hi
  unfold bl
  rcases Nat.le_total n 10 with q | q
  · exact key n 10 q h
  · exact (key 10 n q h10).symm
theorem orL_bit (P : Nat → Nat) (t : Nat) : ∀ (l : List Nat) (a : Nat), (orL P a l).testBit t = true ↔ a.testBit t = true ∨ ∃ i, i ∈ l ∧ (P i).testBit t = true
  | [], a => by simp [orL]
  | i :: l, a => by
    show (orL P (a ||| P i) l).testBit t = true ↔ _
    rw [orL_bit P t l, Nat.testBit_or, Bool.or_eq_true]
    constructor
    · rintro ((h | h) | ⟨j, h1, h2⟩)
      · exact Or.inl h
      · exact Or.inr ⟨i, List.mem_cons_self .., h⟩
      · exact Or.inr ⟨j, List.mem_cons_of_mem _ h1, h2⟩
    · rintro (h | ⟨j, h1, h2⟩)
      · exact Or.inl (Or.inl h)
      · rcases List.mem_cons.1 h1 with rfl | h1
        · exact Or.inl (Or.inr h2)
        · exact Or.inr ⟨j, h1, h2⟩
theorem mem_bl {s i : Nat} (hs : s < 1024) : i ∈ bl s ↔ s.testBit i = true := by
  rw [bl_mem]; exact ⟨fun h => h.2, fun h => ⟨inS_bit (m := 10) hs h, h⟩⟩
theorem clo_bit {P : Nat → Nat} {s : Nat} (hs : s < 1024) (t : Nat) : (cloN P s).testBit t = true ↔ s.testBit t = true ∨ ∃ i, s.testBit i = true ∧ (P i).testBit t = true := by
  rw [cloN_orL, orL_bit]
  constructor
  · rintro (h | ⟨i, h1, h2⟩)
    · exact Or.inl h
    · exact Or.inr ⟨i, (mem_bl hs).1 h1, h2⟩
  · rintro (h | ⟨i, h1, h2⟩)
    · exact Or.inl h
    · exact Or.inr ⟨i, (mem_bl hs).2 h1, h2⟩
theorem clo_eq {x : CaS} (he : cvE x = 0) {s : Nat} (hs : inS x.m s) : cloN (opP x) s = s ↔ ClosN x s := by
  have h10 := inS_lt (cv_ok he).2.2.2.2.1 hs
  constructor
  · intro h i hi k hk
    rw [← h]; exact (clo_bit h10 k).2 (Or.inr ⟨i, hi, hk⟩)
  · intro h
    apply Nat.eq_of_testBit_eq
    intro t
    rw [Bool.eq_iff_iff, clo_bit h10]
    exact ⟨fun g => g.elim id fun ⟨i, h1, h2⟩ => h i h1 t h2, Or.inl⟩
theorem foe_eq {x : CaS} {s : Nat} (hs : s < 1024) : foeB (foeN (opL x)) s = true ↔ NoFoe x s := by
  unfold foeB NoFoe
  rw [decide_eq_true_eq]
  constructor
  · intro h i k hi hk
    have e := h i ((mem_bl hs).2 hi)
    cases g : (foeN (opL x) i).testBit k with
    | false => rfl
    | true =>
      have : (foeN (opL x) i &&& s).testBit k = true := by rw [Nat.testBit_and, g, hk]; rfl
      rw [e] at this; simp at this
  · intro h i hi
    apply Nat.eq_of_testBit_eq
    intro k
    rw [Nat.testBit_and, Nat.zero_testBit]
    cases hk : s.testBit k with
    | false => simp
    | true => rw [h i k ((mem_bl hs).1 hi) hk]; rfl
def sumK (O : Nat → PtS) (l : List Nat) : Nat := (l.map fun i => (O i).k).sum
theorem sumK_perm {O : Nat → PtS} {l m : List Nat} (h : l.Perm m) : sumK O l = sumK O m := by
  induction h with
  | nil => rfl
  | cons a _ ih => show (O a).k + sumK O _ = (O a).k + sumK O _; rw [ih]
  | swap a b l => show (O b).k + ((O a).k + sumK O l) = (O a).k + ((O b).k + sumK O l); omega
  | trans _ _ h1 h2 => rw [h1, h2]
theorem sumK_le {O : Nat → PtS} : ∀ (m : Nat) (l : List Nat), l.Nodup → (∀ i, i ∈ l → i < m) → sumK O l ≤ smK O m
  | 0, l, _, h => by
    cases l with
    | nil => exact Nat.le_refl _
    | cons a l => exact absurd (h a (List.mem_cons_self ..)) (Nat.not_lt_zero a)
  | m + 1, l, hn, h => by
    by_cases hm : m ∈ l
    · have hp := List.perm_cons_erase hm
      have e : sumK O l = (O m).k + sumK O (l.erase m) := sumK_perm hp
      have := sumK_le (O := O) m (l.erase m) (hn.erase m) fun i hi => by
        have h1 := h i (List.mem_of_mem_erase hi)
        have h2 := ((List.Nodup.mem_erase_iff hn).1 hi).1
        omega
      rw [e]; show _ ≤ smK O m + (O m).k; omega
    · have := sumK_le (O := O) m l hn fun i hi => by
        have h1 := h i hi
        have h2 : i ≠ m := fun e => hm (e ▸ hi)
        omega
      exact Nat.le_trans this (Nat.le_add_right _ _)
theorem fea_good {R : List Feat} (h : Good R) : feaB R.length (fun i => R.getD i feat0) = true := by
  refine decide_eq_true ⟨h.n, fun i hi => ⟨?_, fun h0 => ?_⟩⟩
  · simp only [List.getD_eq_getElem?_getD, List.getElem?_eq_getElem hi, Option.getD_some]
    exact h.f _ (List.getElem_mem hi)
  · simp only [List.getD_eq_getElem?_getD, List.getElem?_eq_getElem hi, List.getElem?_eq_getElem (show i - 1 < R.length by omega), Option.getD_some]
    exact List.pairwise_iff_getElem.1 h.a _ _ _ _ (by omega)
theorem LF_getD (R : List Feat) : LF (fun i => R.getD i feat0) R.length = R := by
  apply List.ext_getElem
  · simp [LF]
  · intro i h1 h2
    simp only [LF, List.getElem_map, List.getElem_range, List.getD_eq_getElem?_getD, List.getElem?_eq_getElem h2, Option.getD_some]
theorem step_M {X : FlS} {p : PtS} (hX : feaB X.n X.f = true) (hp : opsB p.k p.o = true) (hn : X.n + p.k ≤ 300) :
    (apX X p = 0 → opsM p.k p.o (idx (LF X.f X.n)) = some (idx (LF (apS X p).f (apS X p).n)) ∧ feaB (apS X p).n (apS X p).f = true ∧ (apS X p).n ≤ X.n + p.k) ∧ (apX X p ≠ 0 → opsM p.k p.o (idx (LF X.f X.n)) = none) := by
  have hG := good_LF hX
  have ho := (of_decide_eq_true hp).2
  have hl : (LF X.f X.n).length = X.n := by rw [LF_len]
  have hM := ops_M hG.a (o := p.o) p.k ho (by rw [hl]; exact hn)
  constructor
  · intro h
    obtain ⟨hv, hd⟩ := ap_eq0 h
    have hg := good_run hG (k := p.k) ho p.k (Nat.le_refl _)
    have e1 := (ap_ok hX hp (i := p.k) (Int.le_refl _) hd).1
    have e2 : LF (apS X p).f (apS X p).n = runL (LF X.f X.n) p.o p.k := by
      show LF (fun i => (runL (LF X.f X.n) p.o p.k).getD i feat0) (apN X.n X.f p.k p.o) = _
      rw [← e1]; exact LF_getD _
    refine ⟨by rw [hM.1 hd, e2], ?_, ?_⟩
    · show feaB (apN X.n X.f p.k p.o) (fun i => (runL (LF X.f X.n) p.o p.k).getD i feat0) = true
      rw [← e1]; exact fea_good hg
    · show apN X.n X.f p.k p.o ≤ _
      rw [← e1]
      have := (run_grow hG.a p.o p.k).2
      rw [hl] at this; exact this
  · intro h
    refine hM.2 ?_
    refine Classical.byContradiction fun g => h ?_
    have hd : ∀ j, j < p.k → (doL (runL (LF X.f X.n) p.o j) (p.o j)).1 = 0 := fun j hj => Classical.byContradiction fun g2 => g ⟨j, hj, g2⟩
    exact (ap_ok hX hp (i := p.k) (Int.le_refl _) hd).2.2.symm
theorem run_M {O : Nat → PtS} : ∀ (l : List Nat) (X : FlS), feaB X.n X.f = true → (∀ i, i ∈ l → opsB (O i).k (O i).o = true) → X.n + sumK O l ≤ 300 →
    (runB O X l = true → runP (l.map fun i => opsM (O i).k (O i).o) (idx (LF X.f X.n)) = some (idx (LF (runF O X l).f (runF O X l).n)) ∧ feaB (runF O X l).n (runF O X l).f = true) ∧ (runB O X l = false → runP (l.map fun i => opsM (O i).k (O i).o) (idx (LF X.f X.n)) = none)
  | [], X, hX, _, _ => ⟨fun _ => ⟨rfl, hX⟩, fun h => by cases h⟩
  | i :: l, X, hX, hO, hn => by
    have hs : sumK O (i :: l) = (O i).k + sumK O l := rfl
    have h1 := step_M (X := X) (p := O i) hX (hO i (List.mem_cons_self ..)) (by omega)
    have eB : runB O X (i :: l) = (decide (apX X (O i) = 0) && runB O (apS X (O i)) l) := rfl
    have eP : runP ((i :: l).map fun i => opsM (O i).k (O i).o) (idx (LF X.f X.n)) = (opsM (O i).k (O i).o (idx (LF X.f X.n))).bind (runP (l.map fun i => opsM (O i).k (O i).o)) := rfl
    rw [eB, eP]
    by_cases h0 : apX X (O i) = 0
    · obtain ⟨g1, g2, g3⟩ := h1.1 h0
      have ih := run_M l (apS X (O i)) g2 (fun j hj => hO j (List.mem_cons_of_mem _ hj)) (by omega)
      rw [g1, decide_eq_true h0, Bool.true_and]
      exact ih
    · rw [h1.2 h0, decide_eq_false h0, Bool.false_and]
      exact ⟨fun h => (by cases h), fun _ => rfl⟩
theorem beh_iff {x : CaS} (he : cvE x = 0) {s : Nat} (hs : inS x.m s) : behB (opY x) s = true ↔ StandN x s := by
  obtain ⟨hv, hf, hmo, hop, hm, hsum⟩ := cv_ok he
  have h10 := inS_lt hm hs
  have hr := run_M (O := x.O) (bl s) (fl0 x) hf (fun i hi => hop i (by have := inS_mem hs hi; omega)) (by
    have := sumK_le (O := x.O) x.m (bl s) (bl_nod s) fun i hi => inS_mem hs hi
    rw [← hmo] at this
    show x.n + _ ≤ 300; omega)
  unfold behB StandN
  show (decide (cloN (opP x) s = s) && foeB (foeN (opL x)) s && runB x.O (fl0 x) (bl s)) = true ↔ _
  rw [Bool.and_eq_true, Bool.and_eq_true, decide_eq_true_eq, clo_eq he hs, foe_eq h10, and_assoc]
  refine and_congr_right fun _ => and_congr_right fun _ => ?_
  show _ ↔ (runP ((bl s).map fun i => opsM (x.O i).k (x.O i).o) (idx (LF x.f x.n))).isSome = true
  cases hb : runB x.O (fl0 x) (bl s) with
  | true => exact ⟨fun _ => by rw [show idx (LF x.f x.n) = idx (LF (fl0 x).f (fl0 x).n) from rfl, (hr.1 hb).1]; rfl, fun _ => rfl⟩
  | false => exact ⟨fun h => (by cases h), fun h => by rw [show idx (LF x.f x.n) = idx (LF (fl0 x).f (fl0 x).n) from rfl, hr.2 hb] at h; cases h⟩
theorem stand_part {x : CaS} (he : cvE x = 0) {s t : Nat} (hs : inS x.m s) (ht : inS x.m t) (h : StandN x s) (hc : ClosN x t) (hsub : ∀ i, t.testBit i = true → s.testBit i = true) : StandN x t := by
  obtain ⟨hv, hf, hmo, hop, hm, hsum⟩ := cv_ok he
  refine ⟨hc, fun i k hi hk => h.2.1 i k (hsub i hi) (hsub k hk), ?_⟩
  have hr := h.2.2
  have hpw : (bl s).Pairwise (fun a b => t.testBit b = true → t.testBit a = false → FreeP (stM x a) (stM x b)) := by
    refine List.Pairwise.imp_of_mem ?_ (bl_lt s)
    intro a b ha hb hab h1 h2
    have ha' := (bl_mem.1 ha).2
    have hb' := (bl_mem.1 hb).2
    refine free_lt hab (inS_bit hs hb') ?_ (h.2.1 a b ha' hb')
    cases e : (opP x b).testBit a with
    | false => rfl
    | true => rw [hc b h1 a e] at h2; cases h2
  rw [run_part (stM x) t.testBit hpw] at hr
  have e : (bl s).filter t.testBit = bl t := by
    unfold bl
    rw [List.filter_filter]
    apply List.filter_congr
    intro i _
    cases g : t.testBit i with
    | false => rfl
    | true => rw [hsub i g]; rfl
  rw [e] at hr
  cases g : runP ((bl t).map (stM x)) (M0 x) with
  | none => rw [g] at hr; cases hr
  | some u => rfl
end Go.Proofs.YtmnejmpjmniiiaaGreatDoor
namespace Go.Proofs.YtmnejmpjmniiiaaGreatDoor
open Go.RowKit Go.Sea
def mskT (T : Nat → Bool) : Nat → Nat
  | 0 => 0
  | i + 1 => mskT T i ||| if T i = true then 2 ^ i else 0
theorem mskT_bit {T : Nat → Bool} {t : Nat} : ∀ m, (mskT T m).testBit t = true ↔ t < m ∧ T t = true
  | 0 => by simp [mskT]
  | m + 1 => by
    show (mskT T m ||| _).testBit t = true ↔ _
    rw [Nat.testBit_or, Bool.or_eq_true, mskT_bit m]
    constructor
    · rintro (⟨h1, h2⟩ | h)
      · exact ⟨by omega, h2⟩
      · split at h
        · rename_i g
          rw [Nat.testBit_two_pow, decide_eq_true_eq] at h
          subst h; exact ⟨by omega, g⟩
        · simp at h
    · rintro ⟨h1, h2⟩
      rcases (by omega : t < m ∨ t = m) with q | rfl
      · exact Or.inl ⟨q, h2⟩
      · right; rw [if_pos h2, Nat.testBit_two_pow]; simp
theorem mskT_in {T : Nat → Bool} : ∀ m, inS m (mskT T m)
  | 0 => by show 0 < 2 ^ 0; decide
  | m + 1 => by
    have ih : mskT T m < 2 ^ m := mskT_in m
    have h2 : 2 ^ m < 2 ^ (m + 1) := Nat.pow_lt_pow_right (by decide) (by omega)
    refine Nat.or_lt_two_pow (by omega) ?_
    split
    · exact h2
    · exact Nat.pow_pos (by decide)
def idxT (T : Nat → Bool) (m : Nat) : List Nat := (List.range m).filter T
def nuT (S : Nat → StepS) (T : Nat → Bool) (m : Nat) : List Int := (idxT T m).map fun i => (S i).nu
theorem nuT_0 (S : Nat → StepS) (T : Nat → Bool) : nuT S T 0 = [] := rfl
theorem nuT_t {S : Nat → StepS} {T : Nat → Bool} {i : Nat} (h : T i = true) : nuT S T (i + 1) = nuT S T i ++ [(S i).nu] := by
  unfold nuT idxT; rw [List.range_succ, List.filter_append, List.map_append, List.filter_cons_of_pos h]; rfl
theorem nuT_f {S : Nat → StepS} {T : Nat → Bool} {i : Nat} (h : T i = false) : nuT S T (i + 1) = nuT S T i := by
  unfold nuT idxT; rw [List.range_succ, List.filter_append, List.map_append, List.filter_cons_of_neg (by rw [h]; simp)]; simp
theorem nuT_le (S : Nat → StepS) (T : Nat → Bool) (m : Nat) : (nuT S T m).length ≤ m := by
  unfold nuT idxT; rw [List.length_map]; exact Nat.le_trans (List.length_filter_le ..) (by simp)
theorem idxT_mem {T : Nat → Bool} {m i : Nat} : i ∈ idxT T m ↔ i < m ∧ T i = true := by unfold idxT; simp
theorem nuT_at {S : Nat → StepS} {T : Nat → Bool} {m j : Nat} (h : j < (nuT S T m).length) : ∃ i, (idxT T m)[j]? = some i ∧ zL (nuT S T m) j = (S i).nu ∧ i < m ∧ T i = true := by
  have h' : j < (idxT T m).length := by unfold nuT at h; simpa using h
  refine ⟨(idxT T m)[j], List.getElem?_eq_getElem h', ?_, ?_⟩
  · unfold zL nuT; simp [List.getD_eq_getElem?_getD, List.getElem?_eq_getElem h']
  · exact idxT_mem.1 (List.getElem_mem h')
theorem nuT_set {S : Nat → StepS} {m : Nat} (hv : vsB S m = true) (T : Nat → Bool) : setB S m (nuT S T m).length (zL (nuT S T m)) = true := by
  refine decide_eq_true fun j hj => ?_
  obtain ⟨i, e1, e2, h1, h2⟩ := nuT_at hj
  refine ⟨by rw [e2, ix_nu hv h1]; exact h1, ?_⟩
  unfold lsA
  split
  · rename_i h0
    rw [← h0] at *
    have := ((of_decide_eq_true hv).2 i h1).1
    have := of_decide_eq_true this
    rw [e2]; omega
  · rename_i h0
    obtain ⟨k, f1, f2, g1, g2⟩ := nuT_at (S := S) (T := T) (m := m) (j := j - 1) (by omega)
    rw [e2, f2]
    refine nu_lt hv ?_ h1
    obtain ⟨a1, a2⟩ := List.getElem?_eq_some_iff.1 e1
    obtain ⟨b1, b2⟩ := List.getElem?_eq_some_iff.1 f1
    have hp : (idxT T m).Pairwise (· < ·) := List.Pairwise.sublist List.filter_sublist List.pairwise_lt_range
    have := List.pairwise_iff_getElem.1 hp (j - 1) j b1 a1 (by omega)
    rw [a2, b2] at this; exact this
theorem rdN_bit {S : Nat → StepS} {m : Nat} {a : Nat → Int} {t : Nat} : ∀ j, (rdN S m a j).testBit t = true ↔ ∃ u, u < j ∧ ixM S m (a u) = t
  | 0 => by simp [rdN]
  | j + 1 => by
    show (rdN S m a j ||| 2 ^ _).testBit t = true ↔ _
    rw [Nat.testBit_or, Bool.or_eq_true, rdN_bit j, Nat.testBit_two_pow, decide_eq_true_eq]
    constructor
    · rintro (⟨u, h1, h2⟩ | h)
      · exact ⟨u, by omega, h2⟩
      · exact ⟨j, by omega, h⟩
    · rintro ⟨u, h1, h2⟩
      rcases (by omega : u < j ∨ u = j) with q | rfl
      · exact Or.inl ⟨u, q, h2⟩
      · exact Or.inr h2
theorem nuT_rd {S : Nat → StepS} {m : Nat} (hv : vsB S m = true) (T : Nat → Bool) : rdN S m (zL (nuT S T m)) (nuT S T m).length = mskT T m := by
  apply Nat.eq_of_testBit_eq
  intro t
  rw [Bool.eq_iff_iff, rdN_bit, mskT_bit]
  constructor
  · rintro ⟨u, h1, h2⟩
    obtain ⟨i, e1, e2, g1, g2⟩ := nuT_at h1
    rw [e2, ix_nu hv g1] at h2
    subst h2; exact ⟨g1, g2⟩
  · rintro ⟨h1, h2⟩
    have hm : t ∈ idxT T m := idxT_mem.2 ⟨h1, h2⟩
    obtain ⟨u, hu, e⟩ := List.mem_iff_getElem.1 hm
    have hu' : u < (nuT S T m).length := by unfold nuT; simpa using hu
    obtain ⟨i, e1, e2, g1, g2⟩ := nuT_at hu'
    rw [List.getElem?_eq_getElem hu, e] at e1
    cases e1
    exact ⟨u, hu', by rw [e2, ix_nu hv g1]⟩
theorem ask_T {x : CaS} (he : cvE x = 0) (T : Nat → Bool) : askE x (nuT x.S T x.m).length (zL (nuT x.S T x.m)) = 0 ∧ askB x (nuT x.S T x.m).length (zL (nuT x.S T x.m)) = behB (opY x) (mskT T x.m) := by
  obtain ⟨hv, _⟩ := cv_ok he
  have hs := nuT_set hv T
  have e : askE x (nuT x.S T x.m).length (zL (nuT x.S T x.m)) = 0 := by rw [ask_2 (by omega) hs, he]
  refine ⟨e, ?_⟩
  unfold askB
  rw [if_pos e]
  show behB (opY x) (rdN x.S x.m (zL (nuT x.S T x.m)) (nuT x.S T x.m).length) = _
  rw [nuT_rd hv T]
theorem ask_ok {x : CaS} {q : Nat} {a : Nat → Int} (h : askE x q a = 0) : cvE x = 0 ∧ setB x.S x.m q a = true ∧ inS x.m (askS x q a) ∧ askB x q a = behB (opY x) (askS x q a) := by
  have h0 : askB x q a = behB (opY x) (askS x q a) := by unfold askB; rw [if_pos h]
  unfold askE at h
  split at h
  · exact absurd h (by decide)
  · split at h
    · exact absurd h (by decide)
    · rename_i h1 h2
      have hs : setB x.S x.m q a = true := by
        cases e : setB x.S x.m q a with
        | true => rfl
        | false => exact absurd e h2
      exact ⟨h, hs, rdN_in (of_decide_eq_true hs), h0⟩
def hasZ (l : List Int) (y : Int) : Bool := hasL l.length (zL l) y
theorem hasZ_iff {l : List Int} {y : Int} : hasZ l y = true ↔ y ∈ l := by
  unfold hasZ hasL
  rw [decide_eq_true_eq]
  constructor
  · rintro ⟨i, h1, h2⟩
    rw [← h2]; unfold zL
    simp only [List.getD_eq_getElem?_getD, List.getElem?_eq_getElem h1, Option.getD_some]
    exact List.getElem_mem h1
  · intro h
    obtain ⟨i, h1, h2⟩ := List.mem_iff_getElem.1 h
    refine ⟨i, h1, ?_⟩
    unfold zL
    simp only [List.getD_eq_getElem?_getD, List.getElem?_eq_getElem h1, Option.getD_some]; exact h2
theorem set_len {S : Nat → StepS} {m q : Nat} {a : Nat → Int} (hv : vsB S m = true) (h : setB S m q a = true) : q ≤ m := by
  have hs := of_decide_eq_true h
  have key : ∀ j, j ≤ q → ∀ u, u < j → u ≤ ixM S m (a u) := by
    intro j
    induction j with
    | zero => intro _ u h; omega
    | succ j ih =>
      intro hj u hu
      rcases (by omega : u < j ∨ u = j) with g | rfl
      · exact ih (by omega) u g
      · rcases Nat.eq_zero_or_pos u with rfl | h0
        · exact Nat.zero_le _
        · have h1 := ih (by omega) (u - 1) (by omega)
          have h2 := (hs u (by omega)).2
          unfold lsA at h2; rw [if_neg (by omega)] at h2
          have h3 := (hs u (by omega)).1
          have h4 := (hs (u - 1) (by omega)).1
          have e1 := ix_get h3
          have e2 := ix_get h4
          have h5 : ixM S m (a (u - 1)) < ixM S m (a u) := by
            rcases Nat.lt_or_ge (ixM S m (a (u - 1))) (ixM S m (a u)) with g | g
            · exact g
            · rcases Nat.lt_or_eq_of_le g with g | g
              · have := nu_lt hv g h4; rw [e1, e2] at this; omega
              · rw [g, e2] at e1; omega
          omega
  rcases Nat.eq_zero_or_pos q with rfl | h0
  · exact Nat.zero_le _
  · have h1 := key q (Nat.le_refl q) (q - 1) (by omega)
    have h2 := (hs (q - 1) (by omega)).1
    omega
end Go.Proofs.YtmnejmpjmniiiaaGreatDoor
set_option maxRecDepth 100000
set_option maxHeartbeats 4000000
namespace Go.Proofs.YtmnejmpjmniiiaaGreatDoor
open Go.RowKit Go.Sea
open Nat renaming reduceAdd → xA, reduceLT → xL, reduceLeDiff → xD, reduceEqDiff → xE, reduceMul → xM, reduceSub → xS, reduceBEq → xB
theorem fnok_11 : fnOk Tryz.prog 11 = true := by kernel_rfl
theorem fnok_28 : fnOk Tryz.prog 28 = true := by kernel_rfl
theorem fnok_29 : fnOk Tryz.prog 29 = true := by kernel_rfl
attribute [go_sem] fnok_11 fnok_28 fnok_29
theorem rhas_z (l : List Int) (y : Int) (hl : l.length ≤ 9223372036854775807) : CallsP Tryz.prog 28 [.one (.lst 1 l.length (fun p o => civ ((rowI l).getD (p + o) .any))), .one (.g (.int .i64 y))] (.t (.one (.g (.bool (hasZ l y))))) :=
  (rhas_p l.length (zL l) y hl).eqv ⟨⟨rfl, rfl, fun i o hi ho => row_zL l i o hi ho⟩, IV.eqv_refl _, trivial⟩ (PV.eqv_refl _)
end Go.Proofs.YtmnejmpjmniiiaaGreatDoor
namespace Go.Proofs.YtmnejmpjmniiiaaGreatDoor
open Go.RowKit Go.Sea
def zR (q : Nat) (a : Nat → Int) : List Int := (List.range q).map a
theorem zR_mem {q : Nat} {a : Nat → Int} {y : Int} : y ∈ zR q a ↔ ∃ u, u < q ∧ a u = y := by unfold zR; simp
theorem zR_len (q : Nat) (a : Nat → Int) : (zR q a).length = q := by simp [zR]
theorem zR_has {q : Nat} {a : Nat → Int} {y : Int} : y ∈ zR q a ↔ hasL q a y = true := by
  rw [zR_mem]; unfold hasL; rw [decide_eq_true_eq]
def alU (S : Nat → StepS) (m q : Nat) (a : Nat → Int) : Nat → List Int
  | 0 => zR q a
  | k + 1 => if hasZ (alU S m q a k) (S (m - 1 - k)).nu = true then alU S m q a k ++ zR (S (m - 1 - k)).q (S (m - 1 - k)).a else alU S m q a k
def alD (S : Nat → StepS) (m q : Nat) (a : Nat → Int) (j : Nat) : List Int := alU S m q a (m - j)
theorem alD_m (S : Nat → StepS) (m q : Nat) (a : Nat → Int) : alD S m q a m = zR q a := by unfold alD; rw [Nat.sub_self]; rfl
theorem alD_e {S : Nat → StepS} {m q : Nat} {a : Nat → Int} {p : Nat} (hp : p < m) : alD S m q a p = if hasZ (alD S m q a (p + 1)) (S p).nu = true then alD S m q a (p + 1) ++ zR (S p).q (S p).a else alD S m q a (p + 1) := by
  unfold alD
  rw [show m - p = (m - (p + 1)) + 1 by omega]
  show (if hasZ _ (S (m - 1 - (m - (p + 1)))).nu = true then _ else _) = _
  rw [show m - 1 - (m - (p + 1)) = p by omega]
theorem alD_t {S : Nat → StepS} {m q : Nat} {a : Nat → Int} {p : Nat} (hp : p < m) (h : hasZ (alD S m q a (p + 1)) (S p).nu = true) : alD S m q a p = alD S m q a (p + 1) ++ zR (S p).q (S p).a := by rw [alD_e hp, if_pos h]
theorem alD_f {S : Nat → StepS} {m q : Nat} {a : Nat → Int} {p : Nat} (hp : p < m) (h : hasZ (alD S m q a (p + 1)) (S p).nu = false) : alD S m q a p = alD S m q a (p + 1) := by rw [alD_e hp, if_neg (by rw [h]; simp)]
theorem alD_up {S : Nat → StepS} {m q : Nat} {a : Nat → Int} {p : Nat} (hp : p < m) {y : Int} (h : y ∈ alD S m q a (p + 1)) : y ∈ alD S m q a p := by
  rw [alD_e hp]; split
  · exact List.mem_append_left _ h
  · exact h
theorem new_no {S : Nat → StepS} {m p i : Nat} (hv : vsB S m = true) (hp : p ≤ i) (hi : i < m) (h : (S i).nu ∈ zR (S p).q (S p).a) : False := by
  obtain ⟨u, hu, e⟩ := zR_mem.1 h
  obtain ⟨t, h1, h2⟩ := st_ex hv (by omega : p < m) hu
  have := nu_lt hv (by omega : t < i) hi
  rw [h2, e] at this; omega
theorem alD_at {S : Nat → StepS} {m q : Nat} {a : Nat → Int} {p i : Nat} (hv : vsB S m = true) (hp : p ≤ i) (hi : i < m) (h : (S i).nu ∈ alD S m q a p) : (S i).nu ∈ alD S m q a (p + 1) := by
  rw [alD_e (by omega)] at h; split at h
  · rcases List.mem_append.1 h with g | g
    · exact g
    · exact (new_no hv hp hi g).elim
  · exact h
theorem al_len {S : Nat → StepS} {m q : Nat} {a : Nat → Int} (hv : vsB S m = true) (hq : ∀ i, i < m → (S i).q ≤ m) : ∀ k, k ≤ m → (alU S m q a k).length ≤ q + k * m
  | 0, _ => by rw [show alU S m q a 0 = zR q a from rfl, zR_len]; omega
  | k + 1, hk => by
    have ih := al_len (q := q) (a := a) hv hq k (by omega)
    have := hq (m - 1 - k) (by omega)
    show (if _ then _ else _ : List Int).length ≤ _
    rw [Nat.succ_mul]
    split
    · rw [List.length_append, zR_len]; omega
    · omega
theorem aft_len {S : Nat → StepS} {m i : Nat} (hv : vsB S m = true) (hi : i < m) : (S i).q ≤ m := by
  refine set_len (a := (S i).a) hv (decide_eq_true fun j hj => ?_)
  obtain ⟨h1, h2, h3, h4⟩ := (of_decide_eq_true hv).2 i hi
  refine ⟨Nat.lt_trans (ix_a hv hi hj) hi, ?_⟩
  unfold lsA
  split
  · rename_i e; subst e
    obtain ⟨t, g1, g2⟩ := st_ex hv hi hj
    have g3 := of_decide_eq_true ((of_decide_eq_true hv).2 t (by omega)).1
    rw [← g2]; omega
  · have := of_decide_eq_true h3
    first
    | (have := this j (by omega) hj; omega)
    | (have := this j hj (by omega); omega)
    | (have := this j hj; omega)
    | (have := this (j - 1) (by omega); rw [show j - 1 + 1 = j by omega] at this; omega)
theorem al_old {S : Nat → StepS} {m q : Nat} {a : Nat → Int} (hv : vsB S m = true) (hm : m ≤ 10) : ∀ k, k ≤ m → ∀ t, t < m → (S t).nu ∈ alD S m q a (m - k) → ∃ i, i < m ∧ (S i).nu ∈ zR q a ∧ (t = i ∨ (pstN S m i).testBit t = true)
  | 0, _, t, ht, h => by
    rw [show m - 0 = m from rfl, alD_m] at h
    exact ⟨t, ht, h, Or.inl rfl⟩
  | k + 1, hk, t, ht, h => by
    have hp : m - (k + 1) < m := by omega
    rw [alD_e hp, show m - (k + 1) + 1 = m - k by omega] at h
    split at h
    · rename_i g
      rcases List.mem_append.1 h with h | h
      · exact al_old hv hm k (by omega) t ht h
      · obtain ⟨i, h1, h2, h3⟩ := al_old hv hm k (by omega) (m - (k + 1)) hp (hasZ_iff.1 g)
        obtain ⟨u, hu, e⟩ := zR_mem.1 h
        have hb : (pstN S m (m - (k + 1))).testBit t = true := (pst_bit hv hp).2 ⟨u, hu, Or.inl (by rw [e]; exact (ix_nu hv ht).symm)⟩
        refine ⟨i, h1, h2, Or.inr ?_⟩
        rcases h3 with h3 | h3
        · rw [← h3]; exact hb
        · exact pst_tr hv hm (i + 1) i (Nat.lt_succ_self i) h1 h3 hb
    · exact al_old hv hm k (by omega) t ht h
theorem al_cls {S : Nat → StepS} {m q : Nat} {a : Nat → Int} (hv : vsB S m = true) : ∀ k, k ≤ m → ∀ i, m - k ≤ i → i < m → (S i).nu ∈ alD S m q a (m - k) → ∀ u, u < (S i).q → (S i).a u ∈ alD S m q a (m - k)
  | 0, _, i, h1, h2, _, _, _ => by omega
  | k + 1, hk, i, h1, h2, h, u, hu => by
    have hp : m - (k + 1) < m := by omega
    have h0 := alD_at hv h1 h2 h
    rw [show m - (k + 1) + 1 = m - k by omega] at h0
    rcases (by omega : i = m - (k + 1) ∨ m - k ≤ i) with g | g
    · rw [alD_e hp, show m - (k + 1) + 1 = m - k by omega, ← g, if_pos (hasZ_iff.2 h0)]
      exact List.mem_append_right _ (zR_mem.2 ⟨u, hu, rfl⟩)
    · refine alD_up hp ?_
      rw [show m - (k + 1) + 1 = m - k by omega]
      exact al_cls hv k (by omega) i g h2 h0 u hu
theorem al_base {S : Nat → StepS} {m q : Nat} {a : Nat → Int} {y : Int} (h : y ∈ zR q a) : ∀ k, k ≤ m → y ∈ alD S m q a (m - k)
  | 0, _ => by rw [show m - 0 = m from rfl, alD_m]; exact h
  | k + 1, hk => by
    refine alD_up (by omega) ?_
    rw [show m - (k + 1) + 1 = m - k by omega]
    exact al_base h k (by omega)
def cluT (S : Nat → StepS) (m q : Nat) (a : Nat → Int) (i : Nat) : Bool := hasZ (alD S m q a 0) (S i).nu
theorem cluT_iff {S : Nat → StepS} {m q : Nat} {a : Nat → Int} (hv : vsB S m = true) (hm : m ≤ 10) {t : Nat} (ht : t < m) : cluT S m q a t = true ↔ ∃ i, i < m ∧ (S i).nu ∈ zR q a ∧ (t = i ∨ (pstN S m i).testBit t = true) := by
  have e0 : m - m = 0 := Nat.sub_self m
  unfold cluT
  rw [hasZ_iff]
  constructor
  · intro h
    exact al_old hv hm m (Nat.le_refl _) t ht (by rw [e0]; exact h)
  · rintro ⟨i, h1, h2, h3⟩
    have hi : (S i).nu ∈ alD S m q a 0 := by have := al_base (S := S) h2 m (Nat.le_refl _); rwa [e0] at this
    have key : ∀ n i, i < n → i < m → (S i).nu ∈ alD S m q a 0 → ∀ t, (pstN S m i).testBit t = true → (S t).nu ∈ alD S m q a 0 := by
      intro n
      induction n with
      | zero => intro i h; omega
      | succ n ih =>
        intro i hin hi h t ht
        obtain ⟨u, hu, g⟩ := (pst_bit hv hi).1 ht
        have h3 := ix_a hv hi hu
        have h4 : (S (ixM S m ((S i).a u))).nu = (S i).a u := ix_get (by omega)
        have h5 := al_cls hv m (Nat.le_refl _) i (by omega) hi (by rw [e0]; exact h) u hu
        rw [e0, ← h4] at h5
        rcases g with rfl | g
        · exact h5
        · exact ih _ (by omega) (by omega) h5 t g
    rcases h3 with rfl | h3
    · exact hi
    · exact key (i + 1) i (Nat.lt_succ_self i) h1 hi t h3
def hasT (S : Nat → StepS) (q : Nat) (a : Nat → Int) (i : Nat) : Bool := hasL q a (S i).nu
theorem clu_msk {x : CaS} (he : cvE x = 0) (q : Nat) (a : Nat → Int) : mskT (cluT x.S x.m q a) x.m = cloN (opP x) (mskT (hasT x.S q a) x.m) := by
  obtain ⟨hv, _, _, _, hm, _⟩ := cv_ok he
  apply Nat.eq_of_testBit_eq
  intro t
  rw [Bool.eq_iff_iff, clo_bit (inS_lt hm (mskT_in _)), mskT_bit, mskT_bit]
  constructor
  · rintro ⟨h1, h2⟩
    obtain ⟨i, g1, g2, g3⟩ := (cluT_iff hv hm h1).1 h2
    have h3 : (mskT (hasT x.S q a) x.m).testBit i = true := (mskT_bit _).2 ⟨g1, zR_has.1 g2⟩
    rcases g3 with rfl | g3
    · exact Or.inl ⟨h1, zR_has.1 g2⟩
    · exact Or.inr ⟨i, h3, g3⟩
  · rintro (⟨h1, h2⟩ | ⟨i, h1, h2⟩)
    · exact ⟨h1, (cluT_iff hv hm h1).2 ⟨t, h1, zR_has.2 h2, Or.inl rfl⟩⟩
    · obtain ⟨g1, g2⟩ := (mskT_bit _).1 h1
      have g3 := pst_down hv hm g1 h2
      exact ⟨by omega, (cluT_iff hv hm (by omega)).2 ⟨i, g1, zR_has.2 g2, Or.inr h2⟩⟩
theorem rd_has {S : Nat → StepS} {m q : Nat} {a : Nat → Int} (hv : vsB S m = true) (hs : setB S m q a = true) : rdN S m a q = mskT (hasT S q a) m := by
  apply Nat.eq_of_testBit_eq
  intro t
  rw [Bool.eq_iff_iff, rdN_bit, mskT_bit]
  constructor
  · rintro ⟨u, h1, h2⟩
    have h3 := (of_decide_eq_true hs u h1).1
    have h4 := ix_get h3
    rw [h2] at h3 h4
    exact ⟨h3, zR_has.1 (zR_mem.2 ⟨u, h1, h4.symm⟩)⟩
  · rintro ⟨h1, h2⟩
    obtain ⟨u, h3, h4⟩ := zR_mem.1 (zR_has.2 h2)
    exact ⟨u, h3, by rw [h4]; exact ix_nu hv h1⟩
def one1 (P : Nat → Nat) (i : Nat) : Nat := 2 ^ i ||| P i
theorem one1_bit {P : Nat → Nat} {i t : Nat} : (one1 P i).testBit t = true ↔ t = i ∨ (P i).testBit t = true := by
  unfold one1; rw [Nat.testBit_or, Bool.or_eq_true, Nat.testBit_two_pow, decide_eq_true_eq]
  constructor
  · rintro (h | h)
    · exact Or.inl h.symm
    · exact Or.inr h
  · rintro (h | h)
    · exact Or.inl h.symm
    · exact Or.inr h
theorem one1_in {x : CaS} (he : cvE x = 0) {i : Nat} (hi : i < x.m) : inS x.m (one1 (opP x) i) := by
  obtain ⟨hv, _, _, _, hm, _⟩ := cv_ok he
  refine Nat.or_lt_two_pow (Nat.pow_lt_pow_right (by decide) hi) (Nat.lt_of_lt_of_le (pstN_lt hv hm hi) (Nat.pow_le_pow_right (by decide) (by omega)))
theorem one1_cls {x : CaS} (he : cvE x = 0) {i : Nat} (hi : i < x.m) : ClosN x (one1 (opP x) i) := by
  obtain ⟨hv, _, _, _, hm, _⟩ := cv_ok he
  intro k hk t ht
  refine one1_bit.2 (Or.inr ?_)
  rcases one1_bit.1 hk with rfl | h
  · exact ht
  · exact pst_tr hv hm (i + 1) i (Nat.lt_succ_self i) hi h ht
theorem stand_pairs {x : CaS} (he : cvE x = 0) {s : Nat} (hs : inS x.m s) (hc : ClosN x s) (hf : NoFoe x s) (h : ∀ i, s.testBit i = true → StandN x (one1 (opP x) i)) : StandN x s := by
  obtain ⟨hv, hfe, hmo, hop, hm, hsum⟩ := cv_ok he
  refine ⟨hc, hf, ?_⟩
  have h10 := inS_lt hm hs
  rw [bl_of (n := x.m) (fun i hi => inS_bit hs hi) h10]
  have key : ∀ n, n ≤ x.m → (runP (((List.range n).filter s.testBit).map (stM x)) (M0 x)).isSome = true := by
    intro n
    induction n with
    | zero => intro _; rfl
    | succ n ih =>
      intro hn
      have ih := ih (by omega)
      rw [List.range_succ, List.filter_append]
      cases hb : s.testBit n with
      | false => rw [List.filter_cons_of_neg (by rw [hb]; simp)]; simpa using ih
      | true =>
        rw [List.filter_cons_of_pos hb, List.filter_nil]
        refine run_last (stM x) (fun k => (opP x n).testBit k) ?_ ?_ ih ?_
        · refine List.Pairwise.imp_of_mem ?_ (List.Pairwise.sublist List.filter_sublist List.pairwise_lt_range : ((List.range n).filter s.testBit).Pairwise (· < ·))
          intro a b ha hb' hab h1 h2
          obtain ⟨ha1, ha2⟩ := List.mem_filter.1 ha
          obtain ⟨hb1, hb2⟩ := List.mem_filter.1 hb'
          have hb3 : b < n := List.mem_range.1 hb1
          refine free_lt hab (by omega) ?_ (hf a b ha2 hb2)
          cases e : (opP x b).testBit a with
          | false => rfl
          | true =>
            have := pst_tr hv hm (n + 1) n (Nat.lt_succ_self n) (by omega) h1 e
            have h2 : (opP x n).testBit a = false := h2
            rw [show (opP x n).testBit a = true from this] at h2; cases h2
        · intro a ha h2
          obtain ⟨ha1, ha2⟩ := List.mem_filter.1 ha
          exact free_lt (List.mem_range.1 ha1) (by omega) h2 (hf a n ha2 hb)
        · have h3 := (h n hb).2.2
          have hin := one1_in he (by omega : n < x.m)
          rw [bl_of (n := n + 1) (fun i hi => by
            rcases one1_bit.1 hi with rfl | g
            · exact Nat.lt_succ_self _
            · have := pst_down hv hm (by omega : n < x.m) g; omega) (inS_lt hm hin), List.range_succ, List.filter_append, List.filter_cons_of_pos (one1_bit.2 (Or.inl rfl)), List.filter_nil] at h3
          have e : ((List.range n).filter s.testBit).filter (fun k => (opP x n).testBit k) = (List.range n).filter (one1 (opP x) n).testBit := by
            rw [List.filter_filter]
            apply List.filter_congr
            intro i hi
            have hin : i < n := List.mem_range.1 hi
            rw [Bool.eq_iff_iff, Bool.and_eq_true, one1_bit]
            constructor
            · rintro ⟨g, _⟩; exact Or.inr g
            · rintro (rfl | g)
              · omega
              · exact ⟨g, hc n hb i g⟩
          rw [e]; exact h3
  exact key x.m (Nat.le_refl _)
def foJ (x : CaS) (q : Nat) (a : Nat → Int) : Nat → Bool
  | 0 => false
  | i + 1 => foJ x q a i || (hasL q a (prV x i 0) && hasL q a (prV x i 1))
def owT (x : CaS) (a : Nat → Int) (j : Nat) : Nat → Bool := cluT x.S x.m 1 (fun k => a (k + j))
def ow (x : CaS) (a : Nat → Int) (j : Nat) : List Int := nuT x.S (owT x a j) x.m
def alK (v : Bool) (q : Nat) (a : Nat → Int) (l : List Int) : Nat → Bool
  | 0 => v
  | k + 1 => alK v q a l k && hasL q a (zL l k)
def alP (x : CaS) (q : Nat) (a : Nat → Int) : Nat → Bool
  | 0 => true
  | j + 1 => alK (alP x q a j && behB (opY x) (mskT (owT x a j) x.m)) q a (ow x a j) (ow x a j).length
theorem alK_iff {v : Bool} {q : Nat} {a : Nat → Int} {l : List Int} : ∀ k, alK v q a l k = true ↔ v = true ∧ ∀ i, i < k → hasL q a (zL l i) = true
  | 0 => ⟨fun h => ⟨h, fun i hi => absurd hi (Nat.not_lt_zero i)⟩, fun h => h.1⟩
  | k + 1 => by
    show (_ && _) = true ↔ _
    rw [Bool.and_eq_true, alK_iff k]
    constructor
    · rintro ⟨⟨h1, h2⟩, h3⟩
      refine ⟨h1, fun i hi => ?_⟩
      rcases (by omega : i < k ∨ i = k) with g | rfl
      · exact h2 i g
      · exact h3
    · rintro ⟨h1, h2⟩
      exact ⟨⟨h1, fun i hi => h2 i (by omega)⟩, h2 k (by omega)⟩
theorem alP_iff {x : CaS} {q : Nat} {a : Nat → Int} : ∀ j, alP x q a j = true ↔ ∀ i, i < j → behB (opY x) (mskT (owT x a i) x.m) = true ∧ ∀ t, t < x.m → owT x a i t = true → hasL q a (x.S t).nu = true
  | 0 => ⟨fun _ i hi => absurd hi (Nat.not_lt_zero i), fun _ => rfl⟩
  | j + 1 => by
    show alK _ _ _ _ _ = true ↔ _
    rw [alK_iff, Bool.and_eq_true, alP_iff j]
    have e : (∀ i, i < (ow x a j).length → hasL q a (zL (ow x a j) i) = true) ↔ ∀ t, t < x.m → owT x a j t = true → hasL q a (x.S t).nu = true := by
      constructor
      · intro h t ht hT
        obtain ⟨u, hu, e⟩ := List.mem_iff_getElem.1 (idxT_mem.2 ⟨ht, hT⟩ : t ∈ idxT (owT x a j) x.m)
        have hu' : u < (ow x a j).length := by unfold ow nuT; simpa using hu
        obtain ⟨i, e1, e2, _⟩ := nuT_at hu'
        rw [List.getElem?_eq_getElem hu, e] at e1
        cases e1
        have := h u hu'
        rwa [show zL (ow x a j) u = _ from e2] at this
      · intro h i hi
        obtain ⟨t, e1, e2, h1, h2⟩ := nuT_at hi
        rw [show zL (ow x a j) i = _ from e2]; exact h t h1 h2
    rw [e]
    constructor
    · rintro ⟨⟨h1, h2⟩, h3⟩ i hi
      rcases (by omega : i < j ∨ i = j) with g | rfl
      · exact h1 i g
      · exact ⟨h2, h3⟩
    · intro h
      exact ⟨⟨fun i hi => h i (by omega), (h j (by omega)).1⟩, (h j (by omega)).2⟩
theorem foJ_iff {x : CaS} {q : Nat} {a : Nat → Int} : ∀ k, foJ x q a k = true ↔ ∃ i, i < k ∧ hasL q a (prV x i 0) = true ∧ hasL q a (prV x i 1) = true
  | 0 => ⟨fun h => (by cases h), fun ⟨i, h, _⟩ => absurd h (Nat.not_lt_zero i)⟩
  | k + 1 => by
    show (_ || (_ && _)) = true ↔ _
    rw [Bool.or_eq_true, Bool.and_eq_true, foJ_iff k]
    constructor
    · rintro (⟨i, h1, h2⟩ | h)
      · exact ⟨i, by omega, h2⟩
      · exact ⟨k, by omega, h⟩
    · rintro ⟨i, h1, h2⟩
      rcases (by omega : i < k ∨ i = k) with g | rfl
      · exact Or.inl ⟨i, g, h2⟩
      · exact Or.inr h2
theorem pairs_ok {x : CaS} {q : Nat} {a : Nat → Int} (h : askE x q a = 0) : askB x q a = (alP x q a q && !foJ x q a (opL x).length) := by
  obtain ⟨he, hs, hin, hB⟩ := ask_ok h
  obtain ⟨hv, _, _, _, hm, _⟩ := cv_ok he
  have hS : askS x q a = mskT (hasT x.S q a) x.m := rd_has hv hs
  have hbit : ∀ t, (askS x q a).testBit t = true ↔ t < x.m ∧ hasL q a (x.S t).nu = true := fun t => by rw [hS, mskT_bit]; rfl
  have hix : ∀ j, j < q → ixM x.S x.m (a j) < x.m ∧ (x.S (ixM x.S x.m (a j))).nu = a j := fun j hj => by
    have := (of_decide_eq_true hs j hj).1
    exact ⟨this, ix_get this⟩
  have how : ∀ j, j < q → ∀ t, t < x.m → (owT x a j t = true ↔ t = ixM x.S x.m (a j) ∨ (opP x (ixM x.S x.m (a j))).testBit t = true) := fun j hj t ht => by
    unfold owT
    rw [cluT_iff hv hm ht]
    constructor
    · rintro ⟨i, h1, h2, h3⟩
      obtain ⟨u, hu, e⟩ := zR_mem.1 h2
      obtain rfl : u = 0 := by omega
      simp only [Nat.zero_add] at e
      have : i = ixM x.S x.m (a j) := by rw [e]; exact (ix_nu hv h1).symm
      rw [← this]; exact h3
    · intro h3
      exact ⟨_, (hix j hj).1, zR_mem.2 ⟨0, by omega, by simp only [Nat.zero_add]; exact (hix j hj).2.symm⟩, h3⟩
  have hmk : ∀ j, j < q → mskT (owT x a j) x.m = one1 (opP x) (ixM x.S x.m (a j)) := fun j hj => by
    apply Nat.eq_of_testBit_eq
    intro t
    rw [Bool.eq_iff_iff, mskT_bit, one1_bit]
    constructor
    · rintro ⟨h1, h2⟩; exact (how j hj t h1).1 h2
    · intro h2
      have ht : t < x.m := by
        rcases h2 with rfl | h2
        · exact (hix j hj).1
        · have := pst_down hv hm (hix j hj).1 h2; have := (hix j hj).1; omega
      exact ⟨ht, (how j hj t ht).2 h2⟩
  have hmem : ∀ i, (askS x q a).testBit i = true → ∃ j, j < q ∧ ixM x.S x.m (a j) = i := fun i hi => (rdN_bit q).1 hi
  have hset : ∀ j, j < q → (askS x q a).testBit (ixM x.S x.m (a j)) = true := fun j hj => (rdN_bit q).2 ⟨j, hj, rfl⟩
  have hpr : ∀ i, i < (opL x).length → ∃ p, p ∈ opL x ∧ prV x i 0 = (x.S p.1).nu ∧ prV x i 1 = (x.S p.2).nu := fun i hi => by
    refine ⟨(opL x)[i], List.getElem_mem hi, ?_⟩
    unfold prV
    simp only [List.getD_eq_getElem?_getD, List.getElem?_eq_getElem hi, Option.getD_some]
    exact ⟨rfl, rfl⟩
  rw [hB, Bool.eq_iff_iff, Bool.and_eq_true, Bool.not_eq_true', beh_iff he hin, alP_iff]
  constructor
  · intro hst
    refine ⟨fun j hj => ⟨?_, fun t ht hT => ?_⟩, ?_⟩
    · rw [hmk j hj, beh_iff he (one1_in he (hix j hj).1)]
      refine stand_part he hin (one1_in he (hix j hj).1) hst (one1_cls he (hix j hj).1) fun i hi => ?_
      rcases one1_bit.1 hi with rfl | g
      · exact hset j hj
      · exact hst.1 _ (hset j hj) _ g
    · have hb : (askS x q a).testBit t = true := by
        rcases (how j hj t ht).1 hT with rfl | g
        · exact hset j hj
        · exact hst.1 _ (hset j hj) _ g
      exact ((hbit t).1 hb).2
    · cases hfo : foJ x q a (opL x).length with
      | false => rfl
      | true =>
        obtain ⟨i, h1, h2, h3⟩ := (foJ_iff _).1 hfo
        obtain ⟨p, hp, e1, e2⟩ := hpr i h1
        rw [e1] at h2; rw [e2] at h3
        have hp2 := opL_mem.1 hp
        have g1 := (hbit p.1).2 ⟨by omega, h2⟩
        have g2 := (hbit p.2).2 ⟨by omega, h3⟩
        have := hst.2.1 _ _ g1 g2
        rw [(foe_bit (x := x) p.1 p.2).2 (Or.inl hp)] at this; cases this
  · rintro ⟨hal, hfo⟩
    have hc : ClosN x (askS x q a) := fun i hi t ht => by
      obtain ⟨j, hj, rfl⟩ := hmem i hi
      have h0 := (hix j hj).1
      have := pst_down hv hm h0 ht
      exact (hbit t).2 ⟨by omega, (hal j hj).2 t (by omega) ((how j hj t (by omega)).2 (Or.inr ht))⟩
    have no : ∀ p, p ∈ opL x → (askS x q a).testBit p.1 = true → (askS x q a).testBit p.2 = true → False := fun p hp g1 g2 => by
      obtain ⟨i, hi, e⟩ := List.mem_iff_getElem.1 hp
      obtain ⟨p', hp', e1, e2⟩ := hpr i hi
      have : foJ x q a (opL x).length = true := (foJ_iff _).2 ⟨i, hi, by
        unfold prV; simp only [List.getD_eq_getElem?_getD, List.getElem?_eq_getElem hi, Option.getD_some]; rw [e]; exact ((hbit _).1 g1).2, by
        unfold prV; simp only [List.getD_eq_getElem?_getD, List.getElem?_eq_getElem hi, Option.getD_some]; rw [e]; exact ((hbit _).1 g2).2⟩
      rw [this] at hfo; cases hfo
    refine stand_pairs he hin hc (fun i k hi hk => ?_) fun i hi => ?_
    · cases e : (foeN (opL x) i).testBit k with
      | false => rfl
      | true =>
        rcases (foe_bit (x := x) i k).1 e with g | g
        · exact (no _ g hi hk).elim
        · exact (no _ g hk hi).elim
    · obtain ⟨j, hj, rfl⟩ := hmem i hi
      have h1 := (hal j hj).1
      rw [hmk j hj, beh_iff he (one1_in he (hix j hj).1)] at h1
      exact h1
end Go.Proofs.YtmnejmpjmniiiaaGreatDoor
namespace Go.Proofs.YtmnejmpjmniiiaaGreatDoor
open Go.RowKit Go.Sea
open Nat renaming reduceAdd → xA, reduceLT → xL, reduceLeDiff → xD, reduceEqDiff → xE, reduceMul → xM, reduceSub → xS, reduceBEq → xB
theorem lst_zR (a : Nat → Int) (q i : Nat) : List.map (CV.purge i) (lstC (intI a) 1 q 0) = rowI (zR q a) := by
  have e : lstC (intI a) 1 q 0 = rowI (zR q a) := by
    rw [lstC_row]; unfold rowV rowI zR
    simp [intI]
  rw [e]; exact rowI_pur _ i
theorem lst_app (z : List Int) (a : Nat → Int) (q i : Nat) : List.map (CV.purge i) (rowI z ++ lstC (intI a) 1 q 0) = rowI (z ++ zR q a) := by
  rw [List.map_append, lst_zR, rowI_pur]; unfold rowI; rw [List.map_append]
theorem alD_le {S : Nat → StepS} {m q : Nat} {a : Nat → Int} (hv : vsB S m = true) (hm : m ≤ 10) (j : Nat) : (alD S m q a j).length ≤ q + 100 := by
  have h1 := al_len (q := q) (a := a) hv (fun i hi => aft_len hv hi) (m - j) (by omega)
  have h2 : (m - j) * m ≤ 10 * 10 := Nat.mul_le_mul (by omega) hm
  unfold alD; omega
theorem alD_t' {S : Nat → StepS} {m q : Nat} {a : Nat → Int} {j : Nat} (h0 : 0 < j) (hj : j ≤ m) (h : hasZ (alD S m q a j) (S (j - 1)).nu = true) : alD S m q a (j - 1) = alD S m q a j ++ zR (S (j - 1)).q (S (j - 1)).a := by
  obtain ⟨p, rfl⟩ : ∃ p, j = p + 1 := ⟨j - 1, by omega⟩
  exact alD_t (by omega) h
theorem alD_f' {S : Nat → StepS} {m q : Nat} {a : Nat → Int} {j : Nat} (h0 : 0 < j) (hj : j ≤ m) (h : hasZ (alD S m q a j) (S (j - 1)).nu = false) : alD S m q a (j - 1) = alD S m q a j := by
  obtain ⟨p, rfl⟩ : ∃ p, j = p + 1 := ⟨j - 1, by omega⟩
  exact alD_f (by omega) h
theorem cluT_d (S : Nat → StepS) (m q : Nat) (a : Nat → Int) (i : Nat) : hasZ (alD S m q a 0) (S i).nu = cluT S m q a i := rfl
set_option maxRecDepth 100000 in
set_option maxHeartbeats 4000000 in
theorem clu_p (S : Nat → StepS) (m : Nat) (hv : vsB S m = true) (hm : m ≤ 10) (q : Nat) (a : Nat → Int) (hqq : q ≤ 1000000) : CallsP Tryz.prog 30 [.one (.lst 2 m (stF S)), .one (.lst 1 q (intI a))] (.t (.one (.lst 1 (nuT S (cluT S m q a) m).length (intI (zL (nuT S (cluT S m q a) m)))))) := by
  have mk0 : True := trivial
  have mk1 : True := trivial
  have mk2 : True := trivial
  refine CallsP_of Tryz.func30 rfl (by rw [Tryz.ntmps30]; simp) ?_
  simp only [Tryz.ntmps30, zM, PT.tv, argEnv, Nat.zero_add, Nat.reduceAdd]
  repeat' (first
 | ((with_reducible refine Need.mk ?_); exact rowI_iv _)
 | ((with_reducible show AW _ _ _ _); first
 | (with_reducible first | refine aS (fun K hK => ?_) | refine aI ?_ | refine aX ?_ | refine aT ?_ | refine aC ?_ | refine aB ?_)
 | (first
 | (with_reducible first | refine aP 0 [0,1] ?_ | refine aP 1 [0,1] ?_ | refine aP 2 [0,5] ?_ | refine aP 3 [0,5,6] ?_ | refine aP 4 [0,5,6] ?_ | refine aP 5 [0,5,6] ?_ | refine aP 6 [0,5,6] ?_ | refine aP 7 [0,5] ?_ | refine aP 8 [0,5,7] ?_ | refine aP 9 [0,5,7,8] ?_ | refine aP 10 [0,5,7,8] ?_ | refine aP 11 [0,5,7,8] ?_ | refine aP 12 [0,5,7,8] ?_ | refine aP 13 [7] ?_))
 | ((with_reducible show AW _ (Code.loop _) _ _); first
 | ((with_reducible refine aL (c := (Code.seq (Code.seq (Code.region 3 _ _) _) _)) (ι := Nat) [0] (fun j => [(5, .t (.one (.slc 0 0 (alD S m q a j).length 1))), (6, iA .i64 ((j : Int) - 1))]) (fun j => [(0, rowI (alD S m q a j))]) (fun j => j ≤ m) (fun j => j) m ?lg3 ?l13 ?l23 ?li3 ?lr3); (case' lg3 => rintro j _); (case' li3 => try (omega)); (case' lr3 => rintro j hj KR hR3; simp only [keepE, hupd, hset, lk, if_true, if_false, xE, reduceIte, zN, stF0, stF1, alD_m, zR_len, lst_zR, lst_app, cluT_d, List.length_append, nuT_0, maxLen, rowI_pur, rowI_snoc, rowI_len]))
 | ((with_reducible refine aL (c := (Code.seq (Code.seq (Code.region 9 _ _) _) _)) (ι := Nat) [0,5] (fun i => [(7, .t (.one (.slc 1 0 (nuT S (cluT S m q a) i).length 1))), (8, iA .i64 (i : Int))]) (fun i => [(1, rowI (nuT S (cluT S m q a) i))]) (fun i => i ≤ m) (fun i => m - i) 0 ?lg9 ?l19 ?l29 ?li9 ?lr9); (case' lg9 => rintro i _); (case' li9 => try (trivial)); (case' lr9 => rintro i hi KR hR9; simp only [keepE, hupd, hset, lk, if_true, if_false, xE, reduceIte, zN, stF0, stF1, alD_m, zR_len, lst_zR, lst_app, cluT_d, List.length_append, nuT_0, maxLen, rowI_pur, rowI_snoc, rowI_len]))))
 | (((with_reducible refine And.intro ?_ ?_)); focus (omega))
 | (with_reducible refine retK_n ?_)
 | ((with_reducible show condN _ _ _ _ _ _); first
 | ((with_reducible refine condN_t ?_ ?_) <;> (intro hc; (try simp only [zB, zC, reduceCtorEq] at hc); ((try (exfalso; omega)); (try (clear mk0; have hj0 : 0 < j := (by omega); have hxq := aft_len hv (i := j - 1) (by omega); have hal := alD_le (q := q) (a := a) hv hm j)); (try (clear mk1; have ej : j = 0 := (by omega); subst ej; have hal0 := alD_le (q := q) (a := a) hv hm 0)); (try (clear mk2; have hnl := nuT_le S (cluT S m q a) i))); (try (exfalso; contradiction)))))
 | ((with_reducible show callN _ _ _ _ _ _ _ _ _ _); first
 | (refine callN_q (k := 28) fnok_28 (rhas_z (alD S m q a j) (S (j - 1)).nu (by omega)) ?_ ?_)
 | (refine callN_q (k := 28) fnok_28 (rhas_z (alD S m q a 0) (S i).nu (by omega)) ?_ ?_))
 | ((with_reducible refine hR3 _ (j - 1) ?_); (try clear hR3 KR))
 | ((with_reducible refine hR9 _ (i + 1) ?_); (try clear hR9 KR))
 | ((with_reducible refine Told.mk ?_); simp only [go_sem, reduceIte, reduceCtorEq, xA, xL, xD, xE, xM, xS, xB, stF0, stF1, intI, alD_m, zR_len, lst_zR, lst_app, cluT_d, List.length_append, nuT_0, maxLen, rowI_pur, rowI_snoc, rowI_len] <;> (first | (((try simp (disch := omega) only [seaWrap, Int.natCast_add, Int.cast_ofNat_Int, and_true, true_and, and_self]); (repeat' (first | omega | rfl | (with_reducible refine And.intro ?_ ?_) | ((exact wkC_eq rfl (rowI_iv _))) | ((rw [alD_t' hj0 hj (by assumption)]; first | exact wkC_eq rfl (rowI_iv _) | (simp [zR_len]; done))) | ((rw [alD_f' hj0 hj (by assumption)]; exact wkC_eq rfl (rowI_iv _))) | ((rw [alD_f' hj0 hj (by assumption)])))); done)) | (((try simp (disch := omega) only [seaWrap, Int.natCast_add, Int.cast_ofNat_Int, and_true, true_and, and_self]); (repeat' (first | omega | (with_reducible refine And.intro ?_ ?_) | ((exact wkC_eq rfl (rowI_iv _))) | ((rw [nuT_t (by assumption)]; first | exact wkC_eq rfl (rowI_iv _) | (simp; done))) | ((rw [nuT_f (by assumption)]; exact wkC_eq rfl (rowI_iv _))) | ((rw [nuT_f (by assumption)])))); done))))
 | ((fail_if_success (with_reducible show AW _ _ _ _)); simp (maxSteps := 2000000) only [go_sem, reduceIte, reduceCtorEq, xA, xL, xD, xE, xM, xS, xB, Tryz.f30, stF0, stF1, intI, alD_m, zR_len, lst_zR, lst_app, cluT_d, List.length_append, nuT_0, maxLen, rowI_pur, rowI_snoc, rowI_len])
 | ((fail_if_success (with_reducible show AW _ _ _ _)); simp (disch := omega) only [seaWrap, seaDiv, seaMod])
 | ((with_reducible refine hK _ ?_); clear hK K)
 | (with_reducible apply_assumption -exfalso only [*]))
  all_goals ((have e0 : i = m := (by omega); subst e0; exact ⟨fun c hc9 => (by have := rowI_iv _ c hc9; cases c <;> trivial), rfl, fun i o hi ho => row_zL _ i o hi ho⟩))
end Go.Proofs.YtmnejmpjmniiiaaGreatDoor
namespace Go.Proofs.YtmnejmpjmniiiaaGreatDoor
open Go.RowKit Go.Sea
open Nat renaming reduceAdd → xA, reduceLT → xL, reduceLeDiff → xD, reduceEqDiff → xE, reduceMul → xM, reduceSub → xS, reduceBEq → xB
theorem fnok_30 : fnOk Tryz.prog 30 = true := by kernel_rfl
theorem of_50_0 : offOf Tryz.prog 50 0 = some 0 := by kernel_rfl
theorem of_50_1 : offOf Tryz.prog 50 1 = some 1 := by kernel_rfl
attribute [go_sem] fnok_30 of_50_0 of_50_1
def x0 (x : CaS) : CaS := { x with n := 0 }
theorem x0_ok {x : CaS} (hx : x.Ok) : (x0 x).Ok := ⟨Nat.zero_le _, fun i h => absurd h (Nat.not_lt_zero i), hx.m, hx.q, hx.mo, hx.k, hx.o⟩
theorem x0_e {x : CaS} (h : cvE x = 0) : cvE (x0 x) = 0 := by
  obtain ⟨hv, hf, hmo, hop, hm, hs⟩ := cv_ok h
  have h0 : ¬ badO (x0 x) := by
    rintro (g | g | g | ⟨i, hi, g⟩)
    · exact absurd (g.symm.trans hv) (by decide)
    · exact absurd g (by show ¬ feaB 0 x.f = false; simp [feaB])
    · exact g hmo
    · exact absurd (g.symm.trans (hop i hi)) (by decide)
  unfold cvE
  rw [if_neg h0, if_neg (by show ¬ (x.m > 10 ∨ 0 + smK x.O x.mo > 300); omega)]
theorem ask_x0 {x : CaS} {q : Nat} {a : Nat → Int} (h : cvE (x0 x) ≠ 0 ∨ askE x q a ≠ 0) : askB x q a = false := by
  have : askE x q a ≠ 0 := fun g => h.elim (fun e => e (x0_e (ask_ok g).1)) (fun e => e g)
  exact (ask_e this).2
theorem opL_le (x : CaS) (hm : x.m ≤ 10) : (opL x).length ≤ 100 :=
  Nat.le_trans (clL_len _ _ _ x.m) (show x.m * x.m ≤ 10 * 10 from Nat.mul_le_mul hm hm)
theorem foJ_0 (x : CaS) (q : Nat) (a : Nat → Int) : foJ x q a 0 = false := rfl
theorem alK_0 (v : Bool) (q : Nat) (a : Nat → Int) (l : List Int) : alK v q a l 0 = v := rfl
theorem alP_0 (x : CaS) (q : Nat) (a : Nat → Int) : alP x q a 0 = true := rfl
theorem prs_x (x : CaS) (hx : x.Ok) : CallsP Tryz.prog 12 [.one (.lst 2 x.m (stF x.S)), .one (.lst 1 x.mo (ptF x.O))] (.tup [.one (.lst 4 (prN (x0 x)) (kF (prV x))), .one (.g (.int .i64 (cvE (x0 x))))]) := prs_q (x0 x) (x0_ok hx) rfl
theorem clu_o (x : CaS) (hv : vsB x.S x.m = true) (hm : x.m ≤ 10) (a : Nat → Int) (j : Nat) (n : Nat) (F : Nat → Nat → IV) (hn : n = 1) (h : ∀ o, o < 1 → (F 0 o).eqv (.g (.int .i64 (a j)))) : CallsP Tryz.prog 30 [.one (.lst 2 x.m (stF x.S)), .one (.lst 1 n F)] (.t (.one (.lst 1 (ow x a j).length (intI (zL (ow x a j)))))) := by
  subst hn
  exact (clu_p x.S x.m hv hm 1 (fun k => a (k + j)) (by decide)).eqv ⟨PT.eqv_refl _, ⟨rfl, rfl, fun i o hi ho => by obtain rfl : i = 0 := (by omega); have := h o ho; simpa [intI] using this⟩, trivial⟩ (PV.eqv_refl _)
set_option maxRecDepth 100000 in
set_option maxHeartbeats 4000000 in
theorem pr_law (x : CaS) (hx : x.Ok) (q : Nat) (a : Nat → Int) (hqq : q ≤ 9223372036854775807) : CallsP Tryz.prog 8 [.agg [.lst 9 x.n (featF x.f), .lst 2 x.m (stF x.S), .lst 1 x.mo (ptF x.O)], .one (.lst 1 q (intI a))] (.t (.one (.g (.bool (true))))) := by
  have hxm := hx.m
  have hpo : True := trivial
  have hoE : True := trivial
  have hoB : True := trivial
  have mk0 : True := trivial
  have mk1 : True := trivial
  have mk2 : True := trivial
  refine CallsP_of Tryz.func8 rfl (by rw [Tryz.ntmps8]; simp) ?_
  simp only [Tryz.ntmps8, zM, PT.tv, argEnv, Nat.zero_add, Nat.reduceAdd]
  repeat' (first
 | ((with_reducible show AW _ _ _ _); first
 | (with_reducible first | refine aS (fun K hK => ?_) | refine aI ?_ | refine aX ?_ | refine aT ?_ | refine aC ?_ | refine aB ?_)
 | (first
 | (with_reducible first | refine aP 0 [0,1] ?_ | refine aP 1 [1,2] ?_ | refine aP 2 [1,2,5] ?_ | refine aP 3 [5] ?_ | refine aP 4 [1,2,5] ?_ | refine aP 5 [1,2,5,6,7] ?_ | refine aP 6 [1,2,5,6,7,8,9] ?_ | refine aP 7 [5,8] ?_ | refine aP 8 [1,2,5,6,8] ?_ | refine aP 9 [1,2,5,6,8,10] ?_ | refine aP 10 [1,2,5,6,8,10,11] ?_ | refine aP 11 [1,2,5,6,8,10,11] ?_ | refine aP 12 [1,2,5,6,8,10,11] ?_ | refine aP 13 [1,2,5,8,10] ?_ | refine aP 14 [1,2,5,8,10,12] ?_ | refine aP 15 [1,2,5,8,10,12,13] ?_ | refine aP 16 [1,2,5,8,10,12,13] ?_)
 | ((with_reducible refine aR (c := Code.region 17 _ true) [1,2,5,8,10,12,13] ?_); (with_reducible refine aD ?_ ?_ ?_ ?_); (focus kernel_rfl); (focus kernel_rfl); (focus kernel_rfl))
 | (with_reducible first | refine aP 18 [1,2,5,8,10,12,13,14] ?_ | refine aP 19 [1,2,5,8,10,12,13,14,15,16] ?_ | refine aP 20 [1,2,5,8,10,12,13,14,15] ?_ | refine aP 21 [1,2,5,8,10,12,13,14] ?_ | refine aP 22 [1,2,5,8,10,12,13,14,17] ?_ | refine aP 23 [1,2,5,8,10,12,13,14,17] ?_ | refine aP 24 [1,2,5,8,10,12,13,14,17] ?_ | refine aP 25 [5,8,10,12] ?_))
 | ((with_reducible show AW _ (Code.loop _) _ _); first
 | ((with_reducible refine aL (c := (Code.seq (Code.seq (Code.region 10 _ _) _) _)) (ι := Nat) [1,2,5,6,8] (fun i => [(10, .t (.one (.iv (.g (.bool (foJ x q a i)))))), (11, iA .i64 (i : Int))]) (fun i => []) (fun i => i ≤ (opL x).length) (fun i => (opL x).length - i) 0 ?lg10 ?l110 ?l210 ?li10 ?lr10); (case' lg10 => rintro i _); (case' li10 => try (omega)); (case' lr10 => rintro i hi KR hR10; simp only [keepE, hupd, hset, lk, if_true, if_false, xE, reduceIte, zN, stF0, stF1, ptF0, kF0, foJ_0, alP_0, alK_0, hoE, hoB]))
 | ((with_reducible refine aL (c := (Code.seq (Code.seq (Code.region 15 _ _) _) _)) (ι := Nat) [1,2,8,10] (fun j => [(5, .t (.one (.iv (.g (.bool true))))), (12, .t (.one (.iv (.g (.bool (alP x q a j)))))), (13, iA .i64 (j : Int))]) (fun j => []) (fun j => j ≤ q) (fun j => q - j) 0 ?lg15 ?l115 ?l215 ?li15 ?lr15); (case' lg15 => rintro j _); (case' li15 => try (omega)); (case' lr15 => rintro j hj KR hR15; simp only [keepE, hupd, hset, lk, if_true, if_false, xE, reduceIte, zN, stF0, stF1, ptF0, kF0, foJ_0, alP_0, alK_0, hoE, hoB]))
 | ((with_reducible refine aL (c := (Code.seq (Code.seq (Code.region 22 _ _) _) _)) (ι := Nat) [1,2,5,8,10,13,14] (fun k => [(12, .t (.one (.iv (.g (.bool (alK (alP x q a j && behB (opY x) (mskT (owT x a j) x.m)) q a (ow x a j) k)))))), (17, iA .i64 (k : Int))]) (fun k => []) (fun k => k ≤ (ow x a j).length) (fun k => (ow x a j).length - k) 0 ?lg22 ?l122 ?l222 ?li22 ?lr22); (case' lg22 => rintro k _); (case' li22 => try (omega)); (case' lr22 => rintro k hk KR hR22; simp only [keepE, hupd, hset, lk, if_true, if_false, xE, reduceIte, zN, stF0, stF1, ptF0, kF0, foJ_0, alP_0, alK_0, hoE, hoB]))))
 | ((first | (with_reducible refine And.intro ?_ ?_) | (with_reducible refine Need.mk ?_)); focus (first | exact True.intro | omega | (intro _; (with_reducible assumption)) | (intros; (repeat' (first | omega | (with_reducible refine And.intro ?_ ?_))); done) | (simp; done) | (simp +contextual; done)))
 | (with_reducible refine retK_n ?_)
 | ((with_reducible show condN _ _ _ _ _ _); first
 | ((with_reducible refine condN_t ?_ ?_) <;> (intro hc; (try simp only [zB, zC, reduceCtorEq] at hc); ((try (exfalso; omega)); (try (clear mk0 hpo; have hE : askE x q a = 0 := hc.2; have hv := (cv_ok (ask_ok hE).1).1; have hm10 := (cv_ok (ask_ok hE).1).2.2.2.2.1; have hpn : prN (x0 x) = (opL x).length := prN_t (x0_e (ask_ok hE).1); have hpo := pairs_ok hE; have hpl := opL_le x hm10)); (try (clear mk1; have how := nuT_le x.S (owT x a j) x.m; have how2 : (ow x a j).length ≤ x.m := how; clear hoE hoB; have hoE : askE x (ow x a j).length (zL (ow x a j)) = 0 := (ask_T (ask_ok hE).1 (owT x a j)).1; have hoB : askB x (ow x a j).length (zL (ow x a j)) = behB (opY x) (mskT (owT x a j) x.m) := (ask_T (ask_ok hE).1 (owT x a j)).2))); (try (exfalso; contradiction)))))
 | ((with_reducible refine And.intro ?_ ?_); focus ((with_reducible show chkR _ _ _ = true); kernel_rfl))
 | ((with_reducible show callN _ _ _ _ _ _ _ _ _ _); first
 | (refine callN_q (k := 11) fnok_11 (head_p) ?_ ?_)
 | (refine callN_q (k := 12) fnok_12 (prs_x x hx) ?_ ?_)
 | (refine callN_q (k := 15) fnok_15 (std_p x hx q a hqq) ?_ ?_)
 | (refine callN_q (k := 15) fnok_15 (std_p x hx (ow x a j).length (zL (ow x a j)) (by omega)) ?_ ?_))
 | ((with_reducible show callGN _ _ _ _ _ _ _ _ _ _); first
 | (refine callGN_q (k := 28) fnok_28 (fun hg => rhas_p q a (prV x i 0) hqq) ?_ ?_)
 | (refine callGN_q (k := 28) fnok_28 (fun hg => rhas_p q a (prV x i 1) hqq) ?_ ?_)
 | (refine callGN_q (k := 28) fnok_28 (fun hg => rhas_p q a (zL (ow x a j) k) hqq) ?_ ?_))
 | ((with_reducible show callDN _ _ _ _ _ _ _ _ _ _ _ _ _); first
 | (refine callDN_q (k := 30) fnok_30 (clu_o x hv hm10 a j _ _ (by omega) (fun o ho => by exact rfl)) ?_ ?_))
 | ((with_reducible refine hR10 _ (i + 1) ?_); (try clear hR10 KR))
 | ((with_reducible refine hR15 _ (j + 1) ?_); (try clear hR15 KR))
 | ((with_reducible refine hR22 _ (k + 1) ?_); (try clear hR22 KR))
 | ((with_reducible refine Told.mk ?_); simp only [go_sem, reduceIte, reduceCtorEq, xA, xL, xD, xE, xM, xS, xB, stF0, stF1, ptF0, intI, kF0, foJ_0, alP_0, alK_0, hoE, hoB] <;> (first | (((try simp (disch := omega) only [seaWrap, Int.natCast_add, Int.cast_ofNat_Int, and_true, true_and, and_self]); (repeat' (first | omega | rfl | (with_reducible refine And.intro ?_ ?_))); done)) | (((try simp (disch := omega) only [seaWrap, Int.natCast_add, Int.cast_ofNat_Int, and_true, true_and, and_self]); (repeat' (first | omega | (with_reducible refine And.intro ?_ ?_) | (((have ek : k = (ow x a j).length := (by omega)); subst ek; rfl)))); done))))
 | ((fail_if_success (with_reducible show AW _ _ _ _)); simp (maxSteps := 2000000) only [go_sem, reduceIte, reduceCtorEq, xA, xL, xD, xE, xM, xS, xB, Tryz.f8, stF0, stF1, ptF0, intI, kF0, foJ_0, alP_0, alK_0, hoE, hoB])
 | ((fail_if_success (with_reducible show AW _ _ _ _)); simp (disch := omega) only [seaWrap, seaDiv, seaMod])
 | ((with_reducible refine hK _ ?_); clear hK K)
 | (with_reducible apply_assumption -exfalso only [*]))
  all_goals (first | (rw [ask_x0 hc]; rfl) | (have ei : i = (opL x).length := (by omega); have ej : j = q := (by omega); subst ei; subst ej; rw [hpo]; simp; done))
end Go.Proofs.YtmnejmpjmniiiaaGreatDoor
