/- == of structs whose parts are integers, bools and strings, to whatever depth. -/
import Derived.Test.YtifoncmlelinjaaSeaD
import Derived.Laws.StructEq
import Derived.ChangeKeysEq
set_option linter.unusedVariables false
set_option linter.unusedSimpArgs false
namespace Go.Sea
open Go.RowKit
/-- A part that is no struct. -/
inductive LK where
  | int (k : IntKind)
  | bool
  | str
def LK.ok : LK → Value → Prop
  | .int k, .int k' _ => k' = k
  | .bool, .bool _ => True
  | .str, .string _ => True
  | _, _ => False
def leafFs (g : TypeId → Option (List LK)) : List Field → Nat → Option (List LK)
  | [], _ => some []
  | f :: fs, off => match decide (f.name ≠ "_" ∧ f.offset = off), g f.type with
    | true, some l => match leafFs g fs (off + l.length) with
      | some r => some (l ++ r)
      | none => none
    | _, _ => none
def leafK (P : Program) : Nat → TypeId → Option (List LK)
  | 0, _ => none
  | d + 1, t => match P.underlying t with
    | some .bool => some [.bool]
    | some (.int k) => some [.int k]
    | some .string => some [.str]
    | some (.struct fs) => match P.stoodInHeld t, leafFs (leafK P d) fs.toList 0 with
      | false, some l => if P.cellsOf t = l.length then some l else none
      | _, _ => none
    | _ => none
def eqV : Value → Value → Bool
  | .int _ a, .int _ b => a == b
  | .bool a, .bool b => a == b
  | .string a, .string b => a.toList == b.toList
  | _, _ => false
def eqVs : List Value → List Value → Bool
  | [], [] => true
  | a :: x, b :: y => eqV a b && eqVs x y
  | _, _ => false
theorem eqVs_app : ∀ {a b c d : List Value}, a.length = b.length → eqVs (a ++ c) (b ++ d) = (eqVs a b && eqVs c d)
  | [], [], _, _, _ => by simp [eqVs]
  | a :: x, b :: y, _, _, h => by
    simp only [List.cons_append, eqVs]
    rw [eqVs_app (by simpa using h), Bool.and_assoc]
  | [], _ :: _, _, _, h => by simp at h
  | _ :: _, [], _, _, h => by simp at h
def packV (P : Program) (t : TypeId) (xs : List Value) : Value := match P.underlying t with
  | some (.struct _) => .agg xs.toArray
  | _ => xs.headD undef
theorem all2_split {α β : Type} {R : α → β → Prop} : ∀ {a : List α} {b : List α} {l : List β}, All2 R (a ++ b) l → ∃ x y, l = x ++ y ∧ All2 R a x ∧ All2 R b y
  | [], b, l, h => ⟨[], l, rfl, by simp [All2], h⟩
  | a :: r, b, [], h => h.elim
  | a :: r, b, v :: l, ⟨h1, h2⟩ => by
    obtain ⟨x, y, rfl, h3, h4⟩ := all2_split h2
    exact ⟨v :: x, y, rfl, ⟨h1, h3⟩, h4⟩
section
variable {P : Program}
theorem part_leaf {d : Nat} {t : TypeId} {l : List LK} (h : leafK P d t = some l) {px x1 x2 : List Value} (hx : All2 LK.ok l x1) (w : World) : (part t (px ++ (x1 ++ x2)).toArray px.length).run P w = .ok (packV P t x1) w := by
  cases d with
  | zero => simp [leafK] at h
  | succ d =>
    unfold leafK at h
    have one : ∀ v, x1 = [v] → (∀ fs, P.underlying t ≠ some (.struct fs)) → (∀ n e, P.underlying t ≠ some (.array n e)) → (∃ k, P.underlying t = some k) → (part t (px ++ (x1 ++ x2)).toArray px.length).run P w = .ok (packV P t x1) w := by
      rintro v rfl h1 h2 ⟨k, hk⟩
      have e : ((px ++ ([v] ++ x2)).toArray)[px.length]? = some v := by simp
      have e2 : packV P t [v] = v := by
        unfold packV
        split
        · rename_i fs hf; exact absurd hf (h1 fs)
        · rfl
      rw [e2]
      unfold part isAgg
      simp only [Sem.run_bind, run_underlying hk, Result.andThen_ok]
      split
      · rename_i fs; exact absurd hk (h1 _)
      · rename_i n e; exact absurd hk (h2 _ _)
      · simp [e, Sem.run_bind]
    split at h
    · rename_i hu
      cases h
      match x1, hx with
      | [v], _ => exact one v rfl (fun fs e => by rw [hu] at e; cases e) (fun n e h => by rw [hu] at h; cases h) ⟨_, hu⟩
    · rename_i k hu
      cases h
      match x1, hx with
      | [v], _ => exact one v rfl (fun fs e => by rw [hu] at e; cases e) (fun n e h => by rw [hu] at h; cases h) ⟨_, hu⟩
    · rename_i hu
      cases h
      match x1, hx with
      | [v], _ => exact one v rfl (fun fs e => by rw [hu] at e; cases e) (fun n e h => by rw [hu] at h; cases h) ⟨_, hu⟩
    · rename_i fs hu
      split at h
      · rename_i l' h1 h2
        split at h
        · rename_i hc
          cases h
          obtain ⟨i, hi⟩ := info_of_underlying hu
          have hl := hx.length
          have e2 : packV P t x1 = .agg x1.toArray := by unfold packV; rw [hu]
          rw [e2]
          have e : (px ++ (x1 ++ x2)).toArray.extract px.length (px.length + P.cellsOf t) = x1.toArray := by
            apply Array.toList_inj.1
            simp only [Array.toList_extract, List.extract_eq_take_drop, Nat.add_sub_cancel_left, List.drop_left]
            rw [hc, hl, List.take_left]
          unfold part isAgg
          simp only [Sem.run_bind, run_underlying hu, Result.andThen_ok, Sem.run_pure, if_true, run_sizeOf w hi, e]
        · cases h
      · cases h
    · cases h
theorem eqFields_leaf {d e : Nat} (IH : ∀ (t : TypeId) (ks : List LK), leafK P d t = some ks → ∀ xs ys, All2 LK.ok ks xs → All2 LK.ok ks ys → ∀ w, (Op.equalIn (e + d) t (packV P t xs) (packV P t ys)).run P w = .ok (eqVs xs ys) w) :
    ∀ (fs : List Field) (r : List LK) (px py xs ys : List Value), px.length = py.length → leafFs (leafK P d) fs px.length = some r → All2 LK.ok r xs → All2 LK.ok r ys → ∀ w, (Op.eqFields (e + d) (px ++ xs).toArray (py ++ ys).toArray fs).run P w = .ok (eqVs xs ys) w
  | [], r, px, py, xs, ys, _, h, hx, hy, w => by
    simp only [leafFs, Option.some.injEq] at h
    subst h
    match xs, ys, hx, hy with
    | [], [], _, _ => simp [Op.eqFields, eqVs]
  | f :: fs, r, px, py, xs, ys, hp, h, hx, hy, w => by
    unfold leafFs at h
    split at h
    · rename_i l hd hl
      split at h
      · rename_i r' hr
        cases h
        obtain ⟨x1, x2, rfl, a1, a2⟩ := all2_split hx
        obtain ⟨y1, y2, rfl, b1, b2⟩ := all2_split hy
        obtain ⟨hn, ho⟩ := of_decide_eq_true hd
        have p1 := part_leaf hl (px := px) (x2 := x2) a1 w
        have p2 := part_leaf hl (px := py) (x2 := y2) b1 w
        have q := IH f.type l hl x1 y1 a1 b1 w
        have len1 := a1.length
        have len2 := b1.length
        have ih := eqFields_leaf IH fs r' (px ++ x1) (py ++ y1) x2 y2 (by simp; omega) (by rw [List.length_append, ← len1]; exact hr) a2 b2 w
        rw [← hp] at p2
        rw [eqVs_app (by omega)]
        simp only [List.append_assoc] at ih
        simp only [Op.eqFields, hn, ne_eq, not_false_eq_true, if_true, Sem.run_bind, ho, p1, p2, q, Result.andThen_ok]
        cases eqVs x1 y1
        · simp
        · simpa using ih
      · cases h
    · cases h
theorem eq_leaf : ∀ (d e : Nat) (t : TypeId) (ks : List LK), leafK P d t = some ks → ∀ xs ys, All2 LK.ok ks xs → All2 LK.ok ks ys → ∀ w, (Op.equalIn (e + d) t (packV P t xs) (packV P t ys)).run P w = .ok (eqVs xs ys) w
  | 0, _, _, _, h => by simp [leafK] at h
  | d + 1, e, t, ks, h => by
    intro xs ys hx hy w
    unfold leafK at h
    split at h
    · rename_i hu
      cases h
      match xs, ys, hx, hy with
      | [.bool a], [.bool b], _, _ => simp [packV, hu, eqVs, eqV, ← Nat.add_assoc, run_equalIn_bool' w (e + d) t a b hu]
    · rename_i k hu
      cases h
      match xs, ys, hx, hy with
      | [.int k1 a], [.int k2 b], ⟨h1, _⟩, ⟨h2, _⟩ =>
        simp only [LK.ok] at h1 h2
        subst h1; subst h2
        simp [packV, hu, eqVs, eqV, ← Nat.add_assoc, run_equalIn_int w (e + d) t _ _ a b hu]
    · rename_i hu
      cases h
      match xs, ys, hx, hy with
      | [.string a], [.string b], _, _ => simp [packV, hu, eqVs, eqV, ← Nat.add_assoc, run_equalIn_string w (e + d) t a b hu]
    · rename_i fs hu
      split at h
      · rename_i l' h1 h2
        split at h
        · rename_i hc
          cases h
          have ef : P.fieldsOf t = fs := by unfold Program.fieldsOf; rw [hu]
          have e1 : packV P t xs = .agg xs.toArray := by unfold packV; rw [hu]
          have e2 : packV P t ys = .agg ys.toArray := by unfold packV; rw [hu]
          rw [e1, e2, ← Nat.add_assoc, run_equalIn_struct w (e + d) t _ _ (by rw [ef]; exact hu) h1, ef]
          exact eqFields_leaf (fun t ks h xs ys hx hy w => eq_leaf d e t ks h xs ys hx hy w) fs.toList ks [] [] xs ys rfl h2 hx hy w
        · cases h
      · cases h
    · cases h
end
/-- What a walk asks of a type whose values it compares; true: a struct. -/
def eqD (P : Program) (t : TypeId) : Option (Bool × List LK) := match P.underlying t with
  | some (.struct _) => if P.eqGuardType P.depth t = false then match leafK P 8 t with
    | some ks => some (true, ks)
    | none => none
    else none
  | some .string => some (false, [.str])
  | _ => none
/-- The cells' values, if they are those kinds'. -/
def gvs : List LK → List CV → Option (List Value)
  | [], [] => some []
  | .int k :: ks, .iv (.g (.int k' n)) :: cs => match decide (k' = k), gvs ks cs with
    | true, some l => some (.int k' n :: l)
    | _, _ => none
  | .bool :: ks, .iv (.g (.bool b)) :: cs => match gvs ks cs with
    | some l => some (.bool b :: l)
    | none => none
  | .str :: ks, .iv (.g (.string b)) :: cs => match gvs ks cs with
    | some l => some (.string b :: l)
    | none => none
  | _, _ => none
theorem gvs_spec {w : World} {J : Nat → Option Nat} {Z : Nat → Prop} : ∀ {ks : List LK} {cs : List CV} {l : List Value}, gvs ks cs = some l → All2 LK.ok ks l ∧ ∀ vs : List Value, All2 (CRel w J Z) vs cs → vs = l
  | [], cs, l, h => by
    unfold gvs at h
    split at h <;> simp_all
    subst h
    exact ⟨by simp [All2], fun vs hv => by cases vs <;> simp_all [All2]⟩
  | k :: ks, cs, l, h => by
    unfold gvs at h
    split at h
    · cases ‹k :: ks = []›
    · rename_i k1 ks' k' n cs' e
      cases e
      split at h
      · rename_i l' hk hl
        cases h
        obtain ⟨a, b⟩ := gvs_spec hl
        have hk' : k' = k1 := of_decide_eq_true hk
        refine ⟨⟨hk', a⟩, fun vs hv => ?_⟩
        match vs, hv with
        | v :: vs, ⟨h1, h2⟩ => rw [b vs h2]; cases h1; rfl
      · cases h
    · rename_i ks' b' cs' e
      cases e
      split at h
      · rename_i l' hl
        cases h
        obtain ⟨a, b⟩ := gvs_spec hl
        refine ⟨⟨trivial, a⟩, fun vs hv => ?_⟩
        match vs, hv with
        | v :: vs, ⟨h1, h2⟩ => rw [b vs h2]; cases h1; rfl
      · cases h
    · rename_i ks' b' cs' e
      cases e
      split at h
      · rename_i l' hl
        cases h
        obtain ⟨a, b⟩ := gvs_spec hl
        refine ⟨⟨trivial, a⟩, fun vs hv => ?_⟩
        match vs, hv with
        | v :: vs, ⟨h1, h2⟩ => rw [b vs h2]; cases h1; rfl
      · cases h
    · cases h
end Go.Sea
