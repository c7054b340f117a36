/- What a drawn region's operations depend on. -/
import Derived.Test.YtifoncmlelinjaaSeaK
set_option linter.unusedVariables false
set_option linter.unusedSimpArgs false
namespace Go.Sea
open Go.RowKit
section
variable {P : Program} {ρ ρ' : Operand → AV} {H H' : Hp} {o : Oper} {nid : Nat}
theorem loadF_local {ag : Bool} {n : Nat} {v : TV} (h : ∀ j, j ∈ v.refs → H' j = H j) : loadF ag n H' v = loadF ag n H v := by
  unfold loadF
  split
  · rfl
  · rename_i i o
    rw [h i (by simp [TV.refs, CV.refs])]
  · rfl
theorem storeF_local {n : Nat} {x v : TV} (h : ∀ j, j ∈ v.refs → H' j = H j) : storeF n H' x v = storeF n H x v := by
  unfold storeF
  split
  · rename_i i o
    rw [h i (by simp [TV.refs, CV.refs])]
  · rfl
theorem srcF_local {n : Nat} {x : TV} (h' : ∀ j, j ∈ x.refs → H' j = H j) : srcF n H' x = srcF n H x := by
  unfold srcF
  split
  · rfl
  · rfl
  · rename_i j off m E
    rw [h' j (by simp [TV.refs, CV.refs])]
  · rfl
theorem appF_local {nid n b : Nat} {x v : TV} (h : ∀ j, j ∈ v.refs → H' j = H j) (h' : ∀ j, j ∈ x.refs → H' j = H j) : appF nid n b H' x v = appF nid n b H x v := by
  have e := srcF_local (n := n) h'
  unfold appF
  split
  · rw [e]
  · rename_i i n' E
    rw [h i (by simp [TV.refs, CV.refs]), e]
  · rfl
theorem dp_refs {v : TV} : ∀ j, j ∈ v.dp.refs → j ∈ v.refs := by
  intro j hj
  unfold TV.dp at hj
  split at hj
  · simp [TV.refs, CV.refs] at hj
  · exact hj
theorem tv_refs {x : AV} {v : TV} (h : x.tv = some v) : x.refs = v.refs := by cases x <;> simp [AV.tv] at h <;> subst h <;> rfl
theorem partsF_local : ∀ (l : List (Nat × Operand)), (∀ p, p ∈ l → ρ' p.2 = ρ p.2) → partsF ρ' l = partsF ρ l
  | [], _ => rfl
  | (i, x) :: r, h => by
    simp only [partsF]
    rw [h (i, x) (by simp), partsF_local r fun p hp => h p (by simp [hp])]
theorem lvsF_local : ∀ (l : List Operand), (∀ p, p ∈ l → ρ' p = ρ p) → lvsF ρ' l = lvsF ρ l
  | [], _ => rfl
  | x :: r, h => by
    simp only [lvsF]
    rw [h x (by simp), lvsF_local r fun p hp => h p (by simp [hp])]
theorem optI_local (l : Option Operand) (h : ∀ p, p ∈ l.toList → ρ' p = ρ p) : optI ρ' l = optI ρ l := by
  cases l with
  | none => rfl
  | some x => simp only [optI]; rw [h x (by simp)]
theorem slArrF_local {n E : Nat} {hi : Option Int} {v : TV} (h : ∀ j, j ∈ v.refs → H' j = H j) : slArrF H' n E hi v = slArrF H n E hi v := by
  unfold slArrF
  split
  · rename_i i o
    rw [h i (by simp [TV.refs, CV.refs])]
  · rfl
theorem copyF_local {y v : TV} (h : ∀ j, j ∈ v.refs → H' j = H j) (h' : ∀ j, j ∈ y.refs → H' j = H j) : copyF H' y v = copyF H y v := by
  have e := srcF_local (n := 1) h'
  unfold copyF
  split
  · rename_i i off n E
    rw [h i (by simp [TV.refs, CV.refs]), e]
  · rfl
theorem clearF_local {z : List CV} {v : TV} (h : ∀ j, j ∈ v.refs → H' j = H j) : clearF H' z v = clearF H z v := by
  unfold clearF
  split
  · rfl
  · rename_i i off n E
    rw [h i (by simp [TV.refs, CV.refs])]
  · rfl
theorem op2F_local (h1 : ∀ x, x ∈ o.op.operands.toList → ρ' x = ρ x) (h2 : ∀ x, x ∈ o.op.operands.toList → ∀ j, j ∈ (ρ x).refs → H' j = H j) : op2F P nid ρ' H' o = op2F P nid ρ H o := by
  obtain ⟨dst, op, type, pos, after, guard⟩ := o
  cases op with
  | nilCheck x => simp only [op2F]; rw [h1 x (by simp [Op.operands])]
  | makeSlice t l c => simp only [op2F]; rw [h1 l (by simp [Op.operands]), h1 c (by simp [Op.operands])]
  | slice t x lo hi mx =>
    simp only [op2F]
    rw [h1 x (by simp [Op.operands]), optI_local lo fun p hp => h1 p (by simp at hp; subst hp; simp [Op.operands]), optI_local hi fun p hp => h1 p (by simp at hp; subst hp; simp [Op.operands]), optI_local mx fun p hp => h1 p (by simp at hp; subst hp; simp [Op.operands])]
    split
    · rename_i u n1 l n2 hq n3 m e1 e2 e3 e4
      split
      · rfl
      · split
        · split
          · rw [slArrF_local fun j hj => h2 x (by simp [Op.operands]) j (by rw [tv_refs e1]; exact hj)]
          · rfl
        · rfl
      · rfl
    · rfl
  | sliceToArrayPointer t x => simp only [op2F]; rw [h1 x (by simp [Op.operands])]
  | call c =>
    obtain ⟨callee, args, tys⟩ := c
    have hm : ∀ x, x ∈ args.toList → x ∈ (Op.call ⟨callee, args, tys⟩).operands.toList := fun x hx => by
      simp only [Op.operands, Call.operands, Array.toList_append, List.mem_append]; exact Or.inr hx
    simp only [op2F]
    split
    · split
      · rename_i x y t t' ha ht
        rw [h1 x (hm x (by rw [ha]; simp)), h1 y (hm y (by rw [ha]; simp))]
        split
        · rename_i b e u v e1 e2 e3
          rw [copyF_local (fun j hj => h2 x (hm x (by rw [ha]; simp)) j (by rw [tv_refs e2]; exact hj)) fun j hj => h2 y (hm y (by rw [ha]; simp)) j (by rw [tv_refs e3]; exact hj)]
        · rfl
      · rfl
    · split
      · rename_i x t ha ht
        rw [h1 x (hm x (by rw [ha]; simp))]
        split
        · rename_i b e u e1 e2
          split
          · rw [clearF_local fun j hj => h2 x (hm x (by rw [ha]; simp)) j (by rw [tv_refs e2]; exact hj)]
          · rfl
        · rfl
      · rfl
    · rfl
  | _ => rfl
theorem opF_local (h1 : ∀ x, x ∈ o.op.operands.toList → ρ' x = ρ x) (h2 : ∀ x, x ∈ o.op.operands.toList → ∀ j, j ∈ (ρ x).refs → H' j = H j) : opF P nid ρ' H' o = opF P nid ρ H o := by
  have h3 := op2F_local (P := P) (nid := nid) h1 h2
  obtain ⟨dst, op, type, pos, after, guard⟩ := o
  cases op with
  | move x => simp only [opF]; rw [h1 x (by simp [Op.operands])]
  | assign x => simp only [opF]; rw [h1 x (by simp [Op.operands])]
  | pick c x y => simp only [opF]; rw [h1 c (by simp [Op.operands]), h1 x (by simp [Op.operands]), h1 y (by simp [Op.operands])]
  | alloc t => rfl
  | box t x => simp only [opF]; rw [h1 x (by simp [Op.operands])]
  | build t ps =>
    simp only [opF]
    rw [partsF_local ps.toList fun p hp => h1 p.2 (by simp only [Op.operands, List.mem_map]; exact ⟨p, hp, rfl⟩)]
  | buildSlice t n ps =>
    simp only [opF]
    rw [partsF_local ps.toList fun p hp => h1 p.2 (by simp only [Op.operands, List.mem_map]; exact ⟨p, hp, rfl⟩)]
  | slice t x lo hi mx =>
    simp only [opF]
    rw [h3, h1 x (by simp [Op.operands]), optI_local lo fun p hp => h1 p (by simp at hp; subst hp; simp [Op.operands]), optI_local hi fun p hp => h1 p (by simp at hp; subst hp; simp [Op.operands])]
  | field t x f => simp only [opF]; rw [h1 x (by simp [Op.operands])]
  | load t x =>
    simp only [opF]
    rw [h1 x (by simp [Op.operands])]
    split
    · rename_i ag n v e1 e2
      rw [loadF_local fun j hj => h2 x (by simp [Op.operands]) j (by rw [tv_refs e2]; exact dp_refs j hj)]
    · rfl
  | store t p x =>
    simp only [opF]
    rw [h1 p (by simp [Op.operands]), h1 x (by simp [Op.operands])]
    split
    · rename_i n q v e1 e2 e3
      rw [storeF_local fun j hj => h2 p (by simp [Op.operands]) j (by rw [tv_refs e2]; exact dp_refs j hj)]
    · rfl
  | binOp op t x y t' => simp only [opF]; rw [h1 x (by simp [Op.operands]), h1 y (by simp [Op.operands])]
  | unOp op t x => simp only [opF]; rw [h1 x (by simp [Op.operands])]
  | convert s t x => simp only [opF]; rw [h1 x (by simp [Op.operands])]
  | makeFunc f x y => simp only [opF]; rw [lvsF_local x.toList fun p hp => h1 p (by simp [Op.operands]; left; simpa using hp), lvsF_local y.toList fun p hp => h1 p (by simp [Op.operands]; right; simpa using hp)]
  | fieldAddr t x f => simp only [opF]; rw [h1 x (by simp [Op.operands])]
  | indexAddr t x ix => simp only [opF]; rw [h1 x (by simp [Op.operands]), h1 ix (by simp [Op.operands])]
  | index t x ix => simp only [opF]; rw [h1 x (by simp [Op.operands]), h1 ix (by simp [Op.operands])]
  | extract x k => simp only [opF]; rw [h1 x (by simp [Op.operands])]
  | call c =>
    obtain ⟨callee, args, tys⟩ := c
    have hm : ∀ x, x ∈ args.toList → x ∈ (Op.call ⟨callee, args, tys⟩).operands.toList := fun x hx => by
      simp only [Op.operands, Call.operands, Array.toList_append, List.mem_append]; exact Or.inr hx
    simp only [opF]
    split
    · split
      · rename_i x t ha ht
        rw [h1 x (hm x (by rw [ha]; simp))]
      · rfl
    · split
      · rename_i x y t t' ha ht
        rw [h1 x (hm x (by rw [ha]; simp)), h1 y (hm y (by rw [ha]; simp))]
        split
        · rename_i n b e u v e1 e2 e3
          rw [appF_local (fun j hj => h2 x (hm x (by rw [ha]; simp)) j (by rw [tv_refs e2]; exact hj)) fun j hj => h2 y (hm y (by rw [ha]; simp)) j (by rw [tv_refs e3]; exact hj)]
        · rfl
      · rfl
    · split
      · rename_i x y ha
        rw [h1 x (hm x (by rw [ha]; simp)), h1 y (hm y (by rw [ha]; simp))]
      · rfl
    · split
      · rename_i x y ha
        rw [h1 x (hm x (by rw [ha]; simp)), h1 y (hm y (by rw [ha]; simp))]
      · rfl
    · exact h3
  | _ => first | rfl | exact h3
theorem toIV_local {c : CV} (h : ∀ j, j ∈ c.refs → H' j = H j) : toIV H' c = toIV H c := by
  unfold toIV
  split
  · rfl
  · rfl
  · rename_i i off
    rw [h i (by simp [CV.refs])]
  · rename_i i off n E
    rw [h i (by simp [CV.refs])]
  · rfl
theorem toIVs_local : ∀ {l : List CV}, (∀ c, c ∈ l → ∀ j, j ∈ c.refs → H' j = H j) → toIVs H' l = toIVs H l
  | [], _ => rfl
  | c :: l, h => by
    simp only [toIVs]
    rw [toIV_local (h c (by simp)), toIVs_local fun x hx => h x (by simp [hx])]
theorem toPT_local {c : TV} (h : ∀ j, j ∈ c.refs → H' j = H j) : toPT H' c = toPT H c := by
  cases c with
  | one c => simp only [toPT]; rw [toIV_local h]
  | agg cs => simp only [toPT]; rw [toIVs_local fun c hc j hj => h j (by simp only [TV.refs, List.mem_flatMap]; exact ⟨c, hc, hj⟩)]
theorem argsF_local : ∀ (l : List Operand), (∀ x, x ∈ l → ρ' x = ρ x) → (∀ x, x ∈ l → ∀ j, j ∈ (ρ x).refs → H' j = H j) → argsF ρ' H' l = argsF ρ H l
  | [], _, _ => rfl
  | x :: r, h1, h2 => by
    have ih := argsF_local r (fun y hy => h1 y (by simp [hy])) fun y hy => h2 y (by simp [hy])
    simp only [argsF]
    rw [h1 x (by simp), ih]
    have : (ρ x).tv.bind (toPT H') = (ρ x).tv.bind (toPT H) := by
      cases hx : (ρ x).tv with
      | none => rfl
      | some v => exact toPT_local fun j hj => h2 x (by simp) j (by rw [tv_refs hx]; exact hj)
    rw [this]
end

theorem tvsF_local {ρ ρ' : Operand → AV} : ∀ (l : List Operand), (∀ x, x ∈ l → ρ' x = ρ x) → tvsF ρ' l = tvsF ρ l
  | [], _ => rfl
  | x :: r, h => by
    simp only [tvsF]
    rw [h x (by simp), tvsF_local r fun y hy => h y (by simp [hy])]
theorem tvs_refs {ρ : Operand → AV} : ∀ (l : List Operand) {nd : Prop} {ts : List TV}, tvsF ρ l = some (nd, ts) → ∀ i, i ∈ ts.flatMap TV.refs → ∃ x, x ∈ l ∧ i ∈ (ρ x).refs
  | [], nd, ts, h, i, hi => by
    simp only [tvsF, Option.some.injEq, Prod.mk.injEq] at h
    obtain ⟨_, rfl⟩ := h
    simp at hi
  | x :: r, nd, ts, h, i, hi => by
    simp only [tvsF] at h
    split at h
    · rename_i y n2 l h1 h2
      simp only [Option.some.injEq, Prod.mk.injEq] at h
      obtain ⟨_, rfl⟩ := h
      rw [List.flatMap_cons, List.mem_append] at hi
      rcases hi with hi | hi
      · exact ⟨x, by simp, by rw [tv_refs h1]; exact hi⟩
      · obtain ⟨z, hz, hz'⟩ := tvs_refs r h2 i hi
        exact ⟨z, by simp [hz], hz'⟩
    · cases h
/-- An operation that is carried out. -/
inductive OpD (P : Program) (nid : Nat) (o : Oper) (s : AS) : AV → Eff → Prop
  | f (nd : Prop) (v : AV) (ef : Eff) (h1 : opF P nid s.ev (hget s.heap) o = some (nd, v, ef)) (h2 : nd) (h3 : ef.noApp) : OpD P nid o s v ef
  | call (f : Operand) (args : Array Operand) (tys : Array TypeId) (k : FuncId) (nd : Prop) (ps : List PT) (own : Bool) (r : PV) (h1 : o.op = .call ⟨.value f, args, tys⟩) (h2 : calleeF (s.ev f) = .pure k)
      (h3 : argsF s.ev (hget s.heap) args.toList = some (nd, ps, own)) (h4 : fnOk P k = true) (h5 : nd) (h6 : CallsP P k ps r) (h7 : own = true → r.flat = true) : OpD P nid o s r.av .nop
  | turn (f : Operand) (args : Array Operand) (tys : Array TypeId) (k : FuncId) (nd : Prop) (ts : List TV) (r : AV) (i : Nat) (cs cs' : List CV) (h1 : o.op = .call ⟨.value f, args, tys⟩) (h2 : calleeF (s.ev f) = .pure k)
      (h3 : tvsF s.ev args.toList = some (nd, ts)) (h4 : fnOk P k = true) (h5 : nd) (h6 : CallsT P k ts i cs r cs') (h7 : hget s.heap i = some cs) (h8 : i ∈ ts.flatMap TV.refs) : OpD P nid o s r (.set i cs')
  | fresh (f : Operand) (args : Array Operand) (tys : Array TypeId) (k : FuncId) (nd : Prop) (ts : List TV) (r : Nat → AV) (cs : List CV) (h1 : o.op = .call ⟨.value f, args, tys⟩) (h2 : calleeF (s.ev f) = .pure k)
      (h3 : tvsF s.ev args.toList = some (nd, ts)) (h4 : fnOk P k = true) (h5 : nd) (h6 : CallsN P k ts cs r) : OpD P nid o s (r nid) (.new cs)
  | g (u : Value) (h1 : isSelect o.op = false) (h2 : (o.op.operands.toList.all fun x => (gv (s.ev x)).isSome) = true) (h3 : ∀ w, (execOp (gρ s.ev) o).run P w = .ok (.value u) w) : OpD P nid o s (constA u) .nop
theorem OpD.noApp {P : Program} {nid : Nat} {o : Oper} {s : AS} {v : AV} {ef : Eff} (h : OpD P nid o s v ef) : ef.noApp := by cases h <;> first | assumption | trivial
def RunD (P : Program) (gs : List (Option Nat)) (nid : Nat) (o : Oper) (s : AS) (v : AV) (ef : Eff) : Prop :=
  match o.guard with
  | none => OpD P nid o s v ef
  | some (j, want) => ∃ b, gB gs s j want = some b ∧ ((b = true ∧ ∃ v0, OpD P nid o s v0 ef ∧ (v = v0 ∨ v = v0.mbOf true)) ∨ (b = false ∧ ef = .nop ∧ ∃ x, v = .any ∨ v = AV.mbOf false x))
theorem RunD.noApp {P : Program} {gs : List (Option Nat)} {nid : Nat} {o : Oper} {s : AS} {v : AV} {ef : Eff} (h : RunD P gs nid o s v ef) : ef.noApp := by
  unfold RunD at h
  split at h
  · exact h.noApp
  · obtain ⟨b, _, ⟨_, v0, h, _⟩ | ⟨_, rfl, _⟩⟩ := h
    · exact h.noApp
    · trivial
theorem OpD.loc {P : Program} {nid : Nat} {o : Oper} {s s' : AS} {v : AV} {ef : Eff} (h : OpD P nid o s v ef) (h1 : ∀ x, x ∈ o.op.operands.toList → s'.ev x = s.ev x) (h2 : ∀ j, j ∈ ftF s o → hget s'.heap j = hget s.heap j) : OpD P nid o s' v ef := by
  have h2' : ∀ x, x ∈ o.op.operands.toList → ∀ j, j ∈ (s.ev x).refs → hget s'.heap j = hget s.heap j := fun x hx j hj => h2 j (List.mem_flatMap.2 ⟨x, hx, hj⟩)
  cases h with
  | f nd v ef g1 g2 g3 => exact .f nd v ef ((opF_local h1 h2').trans g1) g2 g3
  | call f args tys k nd ps own r g1 g2 g3 g4 g5 g6 g7 =>
    have hf : f ∈ o.op.operands.toList := by rw [g1]; simp [Op.operands, Call.operands]
    have ha : ∀ x, x ∈ args.toList → x ∈ o.op.operands.toList := fun x hx => by rw [g1]; simp only [Op.operands, Call.operands, Array.toList_append, List.mem_append]; exact Or.inr hx
    exact .call f args tys k nd ps own r g1 (by rw [h1 f hf]; exact g2) ((argsF_local args.toList (fun x hx => h1 x (ha x hx)) fun x hx => h2' x (ha x hx)).trans g3) g4 g5 g6 g7
  | turn f args tys k nd ts r i cs cs' g1 g2 g3 g4 g5 g6 g7 g8 =>
    have hf : f ∈ o.op.operands.toList := by rw [g1]; simp [Op.operands, Call.operands]
    have ha : ∀ x, x ∈ args.toList → x ∈ o.op.operands.toList := fun x hx => by rw [g1]; simp only [Op.operands, Call.operands, Array.toList_append, List.mem_append]; exact Or.inr hx
    have hi : i ∈ ftF s o := by
      obtain ⟨x, hx, hi⟩ := tvs_refs args.toList g3 i g8
      exact List.mem_flatMap.2 ⟨x, ha x hx, hi⟩
    exact .turn f args tys k nd ts _ i cs cs' g1 (by rw [h1 f hf]; exact g2) ((tvsF_local args.toList fun x hx => h1 x (ha x hx)).trans g3) g4 g5 g6 ((h2 i hi).trans g7) g8
  | fresh f args tys k nd ts r cs g1 g2 g3 g4 g5 g6 =>
    have hf : f ∈ o.op.operands.toList := by rw [g1]; simp [Op.operands, Call.operands]
    have ha : ∀ x, x ∈ args.toList → x ∈ o.op.operands.toList := fun x hx => by rw [g1]; simp only [Op.operands, Call.operands, Array.toList_append, List.mem_append]; exact Or.inr hx
    exact .fresh f args tys k nd ts r cs g1 (by rw [h1 f hf]; exact g2) ((tvsF_local args.toList fun x hx => h1 x (ha x hx)).trans g3) g4 g5 g6
  | g u g1 g2 g3 =>
    refine .g u g1 ?_ fun w => ?_
    · rw [List.all_eq_true] at g2 ⊢
      intro x hx
      rw [h1 x hx]; exact g2 x hx
    · have he : execOp (gρ s'.ev) o = execOp (gρ s.ev) o := execOp_congr o (fun cs b e => by rw [e] at g1; cases g1) fun x hx => by
        rw [gρ, gρ, h1 x (by simpa using hx)]
      rw [he]; exact g3 w

section
variable {w0 : World} {Z0 : Fr} {J J' : Nat → Option Nat} {Z Z' : Nat → Prop} {s s' : AS} {a : Act} {w w' : World} {P : Program} {o : Oper} {nid : Nat} {v : AV} {ef : Eff}
theorem OpD.wp {K2 : Act → World → Prop} {Q : Exit → Act → World → Prop} (h : OpD P nid o s v ef) (R : Rel w0 Z0 J Z s a w) (hh : hget s.heap nid = none) (hK : ∀ J' Z' u w', Rel w0 Z0 J' Z' (s.eff nid ef) a w' → ARel w' J' Z' u v → K2 (a.put o.dst u) w') : o.wp P a w K2 Q := by
  cases h with
  | f nd v ef g1 g2 g3 => exact does_wp (opF_sound R hh g1 g2) fun J' w' u R' hr => hK J' Z u w' R' hr
  | call f args tys k nd ps own r g1 g2 g3 g4 g5 g6 g7 =>
    refine upon_call (exec_call g1 (callee_pure R g2) g4) ?_
    simp only [Array.empty_append, Array.append_empty]
    exact (call_rep R g3 g5 g6 g7).mono fun e w' ⟨v, Z', he, R', hr⟩ => ⟨v, he, hK J Z' v w' R' hr⟩
  | turn f args tys k nd ts r i cs cs' g1 g2 g3 g4 g5 g6 g7 g8 =>
    refine upon_call (exec_call g1 (callee_pure R g2) g4) ?_
    simp only [Array.empty_append, Array.append_empty]
    refine (g6 s.heap g7 w0 Z0 J Z s a w _ R rfl (by simp only [Array.toList_map]; exact tvs_rel R g3 g5)).mono fun e w' ⟨v, J', Z', he, R', hr⟩ => ⟨v, he, hK J' Z' v w' R' hr⟩
  | fresh f args tys k nd ts r cs g1 g2 g3 g4 g5 g6 =>
    refine upon_call (exec_call g1 (callee_pure R g2) g4) ?_
    simp only [Array.empty_append, Array.append_empty]
    refine (g6 s.heap nid hh w0 Z0 J Z s a w _ R rfl (by simp only [Array.toList_map]; exact tvs_rel R g3 g5)).mono fun e w' ⟨v, J', Z', he, R', hr⟩ => ⟨v, he, hK J' Z' v w' R' hr⟩
  | g u g1 g2 g3 =>
    have he : execOp a.eval o = execOp (gρ s.ev) o := execOp_congr o (fun cs b e => by rw [e] at g1; cases g1) fun x hx => by
      have := List.all_eq_true.1 g2 x (by simpa using hx)
      obtain ⟨u, hu⟩ := Option.isSome_iff_exists.1 this
      rw [gρ, hu, gv_eval R hu]; rfl
    unfold Oper.wp
    rw [he, g3 w]
    exact hK J Z u w R (constA_rel u)
theorem RunD.step {ops : Array Oper} {K2 : Act → World → Prop} {Q : Exit → Act → World → Prop} (h : RunD P (ops.toList.map (·.dst)) nid o s v ef) (R : Rel w0 Z0 J Z s a w) (hh : hget s.heap nid = none) (hd : dstOk s o.dst)
    (hK : ∀ a' w', Rep w0 Z0 (s.ent o.dst nid v ef) a' w' → K2 a' w') : if Region.wanted o (yielded ops a.tmps) = true then o.wp P a w K2 Q else K2 (a.put o.dst undef) w := by
  have hd' : ∀ k, o.dst = some k → k < (s.eff nid ef).N := fun k e => by rw [eff_N]; exact dstOk_spec hd k e
  unfold RunD at h
  split at h
  · rename_i hg
    have hw : Region.wanted o (yielded ops a.tmps) = true := by simp [Region.wanted, hg]
    rw [if_pos hw]
    exact h.wp R hh fun J' Z' u w' R' hr => hK _ _ ⟨J', Z', R'.put hd' hr⟩
  · rename_i j want hg
    obtain ⟨b, hb, h⟩ := h
    have hw : Region.wanted o (yielded ops a.tmps) = b := by simp only [Region.wanted, hg]; exact gB_spec R hb
    rw [hw]
    rcases h with ⟨rfl, v0, h, hv⟩ | ⟨rfl, rfl, x, hv⟩
    · rw [if_pos rfl]
      refine h.wp R hh fun J' Z' u w' R' hr => hK _ _ ⟨J', Z', R'.put hd' ?_⟩
      rcases hv with rfl | rfl
      · exact hr
      · exact mbOf_true hr
    · rw [if_neg (by simp)]
      rcases hv with rfl | rfl
      · exact hK _ _ ⟨J, Z, R.putAny⟩
      · exact hK _ _ ⟨J, Z, R.put (dstOk_spec hd) (mbOf_false x)⟩
end
end Go.Sea
