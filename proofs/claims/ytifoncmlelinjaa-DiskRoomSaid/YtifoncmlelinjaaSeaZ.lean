/- Rows of immutable cells. -/
import Derived.Test.YtifoncmlelinjaaSeaV
set_option linter.unusedVariables false
set_option linter.unusedSimpArgs false
namespace Go.Sea
open Go.RowKit

section
variable {P : Program} {gs : List (Option Nat)} {n0 i : Nat} {d : Option Tmp} {t t' : TypeId} {x y : Operand} {ty : TypeId} {pos : String} {aft : Array Edge} {g : Option (Nat × Bool)} {os : List Oper} {s : AS} {K : AS → Prop} {lg : Lg} {K' : Lg → AS → Prop} {k k' : IntKind} {m n : Int}
theorem callK_shl (hx : s.ev x = iA k m) (hy : s.ev y = iA k' n) (hn : 0 ≤ n) (h : arun P gs os (s.put d (iA k (k.wrap (m * 2 ^ (min n.toNat k.bits))))) K) : callK P gs ⟨d, .binOp .shl t x y t', ty, pos, aft, g⟩ os s K := by
  refine Or.inl ?_
  unfold callF0
  refine ⟨rfl, ?_, .int k (k.wrap (m * 2 ^ (min n.toNat k.bits))), fun w => ?_, ?_⟩
  · simp [Op.operands, gv, hx, hy]
  · simp [execOp, gρ, gv, hx, hy, binOp, eqGuard, Op.shift, Int.not_lt.2 hn]
  · exact h
theorem callDK_shl (hx : s.ev x = iA k m) (hy : s.ev y = iA k' n) (hn : 0 ≤ n) (h : arunD P gs n0 (i + 1) os (s.ent d (n0 + i) (iA k (k.wrap (m * 2 ^ (min n.toNat k.bits)))) .nop) ((none, ftF s ⟨d, .binOp .shl t x y t', ty, pos, aft, g⟩) :: lg) K') : callDK P gs n0 i ⟨d, .binOp .shl t x y t', ty, pos, aft, g⟩ os s lg K' := by
  unfold callDK callD
  refine ⟨rfl, ?_, .int k (k.wrap (m * 2 ^ (min n.toNat k.bits))), fun w => ?_, ?_⟩
  · simp [Op.operands, gv, hx, hy]
  · simp [execOp, gρ, gv, hx, hy, binOp, eqGuard, Op.shift, Int.not_lt.2 hn]
  · exact h
end
/-- A block of n immutable cells. -/
def rowV (f : Nat → IV) (n : Nat) : List CV := (List.range n).map fun j => .iv (f j)
section
variable (f g : Nat → IV) (n m k i : Nat)
theorem rowV_len : (rowV f n).length = n := by simp [rowV]
theorem rowV_zero : rowV f 0 = [] := rfl
theorem rowV_at {f : Nat → IV} {n k : Nat} (h : k < n) : (rowV f n)[k]? = some (.iv (f k)) := by simp [rowV, h]
theorem rowV_get {f : Nat → IV} {n k : Nat} (h : k < n) : (rowV f n).getD k .any = .iv (f k) := by simp [List.getD, rowV_at h]
theorem rowV_iv : ∀ c, c ∈ rowV f n → isIv c := by
  intro c hc
  obtain ⟨j, _, rfl⟩ := List.mem_map.1 hc
  trivial
theorem purge_iv {l : List CV} (h : ∀ c, c ∈ l → isIv c) : List.map (CV.purge i) l = l := by
  refine (List.map_congr_left fun c hc => ?_).trans (List.map_id l)
  have := h c hc
  cases c <;> first | rfl | exact this.elim
theorem rowV_pur : List.map (CV.purge i) (rowV f n) = rowV f n := purge_iv i (rowV_iv f n)
theorem rowV_has : (rowV f n).any (CV.has i) = false := by
  refine Bool.eq_false_iff.2 fun h => ?_
  obtain ⟨c, hc, h⟩ := List.any_eq_true.1 h
  have := rowV_iv f n c hc
  cases c <;> first | (simp [CV.has] at h; done) | exact this.elim
theorem rowV_snoc : rowV f n ++ [.iv (f n)] = rowV f (n + 1) := by simp [rowV, List.range_succ]
theorem rowV_congr {f g : Nat → IV} {n : Nat} (h : ∀ j, j < n → f j = g j) : rowV f n = rowV g n := by
  refine List.map_congr_left fun j hj => ?_
  rw [h j (List.mem_range.1 hj)]
theorem rowV_ext {l : List CV} (hl : l.length = n) (h : ∀ j, j < n → l[j]? = some (.iv (f j))) : l = rowV f n := by
  refine List.ext_getElem? fun j => ?_
  by_cases hj : j < n
  · rw [h j hj, rowV_at hj]
  · rw [List.getElem?_eq_none (by omega), List.getElem?_eq_none (by rw [rowV_len]; omega)]
theorem rowV_app : rowV f n ++ rowV g m = rowV (fun j => if j < n then f j else g (j - n)) (n + m) := by
  refine rowV_ext _ _ (by simp [rowV_len]) fun j hj => ?_
  by_cases h : j < n
  · rw [List.getElem?_append_left (by rw [rowV_len]; exact h), rowV_at h, if_pos h]
  · rw [List.getElem?_append_right (by rw [rowV_len]; omega), rowV_len, rowV_at (by omega), if_neg h]
theorem rowV_take : (rowV f n).take k = rowV f (min k n) := by
  refine rowV_ext _ _ (by simp [rowV_len]) fun j hj => ?_
  rw [List.getElem?_take, if_pos (by omega), rowV_at (by omega)]
theorem rowV_drop : (rowV f n).drop k = rowV (fun j => f (k + j)) (n - k) := by
  refine rowV_ext _ _ (by simp [rowV_len]) fun j hj => ?_
  rw [List.getElem?_drop, rowV_at (by omega)]
theorem rowV_splice {f g : Nat → IV} {n m k : Nat} (h : k + m ≤ n) : (rowV f n).take k ++ rowV g m ++ (rowV f n).drop (k + m) = rowV (fun j => if k ≤ j ∧ j < k + m then g (j - k) else f j) n := by
  rw [rowV_take, rowV_drop, rowV_app, rowV_app, show min k n + m + (n - (k + m)) = n by omega]
  refine rowV_congr fun j hj => ?_
  by_cases h1 : j < min k n
  · rw [if_pos (by omega), if_pos h1, if_neg (by omega)]
  · by_cases h2 : j < k + m
    · rw [if_pos (by omega), if_neg h1, if_pos (by omega), show min k n = k by omega]
    · rw [if_neg (by omega), if_neg (by omega)]
      congr 1
      omega
theorem rowV_set {f : Nat → IV} {n k : Nat} (h : k < n) (c : IV) : (rowV f n).take k ++ [.iv c] ++ (rowV f n).drop (k + 1) = rowV (fun j => if j = k then c else f j) n := by
  have := rowV_splice (f := f) (g := fun _ => c) (n := n) (m := 1) (k := k) (by omega)
  rw [show rowV (fun _ => c) 1 = [.iv c] from rfl] at this
  rw [this]
  refine rowV_congr fun j hj => ?_
  by_cases e : j = k
  · rw [if_pos (by omega), if_pos e]
  · rw [if_neg (by omega), if_neg e]
theorem rowV_eqv {f : Nat → IV} {n : Nat} {F : Nat → Nat → IV} (h : ∀ j, j < n → (f j).eqv (F j 0)) (p o : Nat) (hp : p < n) (ho : o < 1) : (civ ((rowV f n).getD (p * 1 + o) .any)).eqv (F p o) := by
  obtain rfl : o = 0 := by omega
  rw [Nat.mul_one, Nat.add_zero, rowV_get hp]
  exact h p hp
theorem rowV_eqv' {f : Nat → IV} {n : Nat} {F : Nat → Nat → IV} (h : ∀ j, j < n → (f j).eqv (F j 0)) (p o : Nat) (hp : p < n) (ho : o < 1) : (civ ((rowV f n).getD (p + o) .any)).eqv (F p o) := by
  have := rowV_eqv h p o hp ho
  rwa [Nat.mul_one] at this
theorem lstC_row (F : Nat → Nat → IV) : ∀ n k, lstC F 1 n k = rowV (fun j => F (k + j) 0) n
  | 0, _ => rfl
  | n + 1, k => by
    have e : lstC F 1 (n + 1) k = ipCells (F k) 1 0 ++ lstC F 1 n (k + 1) := rfl
    rw [e, lstC_row F n (k + 1)]
    have e1 : ipCells (F k) 1 0 = rowV (fun _ => F k 0) 1 := rfl
    rw [e1, rowV_app, Nat.add_comm 1 n]
    refine rowV_congr fun j hj => ?_
    by_cases h : j < 1
    · rw [if_pos h]; obtain rfl : j = 0 := by omega
      rfl
    · rw [if_neg h, show k + 1 + (j - 1) = k + j by omega]
theorem repC_row (c : IV) : ∀ n, repC [.iv c] n = rowV (fun _ => c) n
  | 0 => rfl
  | n + 1 => by
    have e : repC [CV.iv c] (n + 1) = [.iv c] ++ repC [.iv c] n := rfl
    rw [e, repC_row c n, show [CV.iv c] = rowV (fun _ => c) 1 from rfl, rowV_app, Nat.add_comm 1 n]
    exact rowV_congr fun j hj => by split <;> rfl
theorem rowV_frz (cs : List CV) : List.map (frzC i cs) (rowV f n) = rowV f n := by
  refine (List.map_congr_left fun c hc => ?_).trans (List.map_id _)
  have := rowV_iv f n c hc
  cases c <;> first | rfl | exact this.elim
theorem rowV_app1 (c : IV) : rowV f n ++ [.iv c] = rowV (fun j => if j < n then f j else c) (n + 1) := by
  rw [show [CV.iv c] = rowV (fun _ => c) 1 from rfl, rowV_app]
theorem nilC_iv {c d : IV} (h : c.eqv d) : nilC (.iv c) (.iv d) := by cases c <;> exact h
theorem wkC_row {ok : Nat → Prop} {f g : Nat → IV} : ∀ (n : Nat), (∀ j, j < n → (f j).eqv (g j)) → wkC ok (rowV f n) (rowV g n) := by
  have key : ∀ (l : List Nat), (∀ j, j ∈ l → (f j).eqv (g j)) → wkC ok (l.map fun j => CV.iv (f j)) (l.map fun j => CV.iv (g j)) := fun l => by
    induction l with
    | nil => intro _; trivial
    | cons a l ih => exact fun h => ⟨Or.inr (Or.inr (nilC_iv (h a (by simp)))), ih fun j hj => h j (by simp [hj])⟩
  exact fun n h => key _ fun j hj => h j (List.mem_range.1 hj)
theorem wkC_snoc {ok : Nat → Prop} {f g : Nat → IV} {c : IV} {n : Nat} (h : ∀ j, j < n → (f j).eqv (g j)) (hc : c.eqv (g n)) : wkC ok (rowV f n ++ [.iv c]) (rowV g (n + 1)) := by
  rw [rowV_app1]
  refine wkC_row (n + 1) fun j hj => ?_
  by_cases e : j < n
  · rw [if_pos e]; exact h j e
  · rw [if_neg e, show j = n by omega]; exact hc
theorem wkC_snoc' {ok : Nat → Prop} {f : Nat → IV} {c : IV} {n : Nat} (hc : c.eqv (f n)) : wkC ok (rowV f n ++ [.iv c]) (rowV f (n + 1)) := wkC_snoc (fun j _ => (f j).eqv_refl) hc
theorem wkC_same {ok : Nat → Prop} : wkC ok (rowV f n) (rowV f n) := wkC_row n fun j _ => (f j).eqv_refl
theorem isIv_iv (c : IV) : isIv (.iv c) = True := rfl
theorem civ_iv (c : IV) : civ (.iv c) = c := rfl
theorem rowV_all : (∀ a, a ∈ rowV f n → isIv a) = True := eq_true (rowV_iv f n)
theorem rowV_cons (c : IV) : CV.iv c :: rowV f n = rowV (fun j => if j = 0 then c else f (j - 1)) (n + 1) := by
  have := rowV_app (fun _ => c) f 1 n
  rw [Nat.add_comm 1 n] at this
  refine this.trans (rowV_congr fun j hj => ?_)
  by_cases h : j = 0
  · rw [if_pos (by omega), if_pos h]
  · rw [if_neg (by omega), if_neg h]
theorem repC_0 (z : List CV) : repC z 0 = [] := rfl
theorem repC_1 (z : List CV) : repC z 1 = z := by simp [repC]
theorem repC_2 (z : List CV) : repC z 2 = z ++ z := by simp [repC]
theorem repC_3 (z : List CV) : repC z 3 = z ++ (z ++ z) := by simp [repC]
end
/-- Own blocks renamed: those named j are named i; the others are forgotten. -/
def CV.to (j i : Nat) : CV → CV
  | .slc k off n E => if k = j then .slc i off n E else .any
  | .ptr k o => if k = j then .ptr i o else .any
  | .fn _ _ _ => .any
  | c => c
def TV.to (j i : Nat) : TV → TV
  | .one c => .one (c.to j i)
  | .agg cs => .agg (cs.map (CV.to j i))
def AV.to (j i : Nat) : AV → AV
  | .t x => .t (x.to j i)
  | .tup xs => .tup (xs.map (TV.to j i))
  | _ => .any
theorem CRel.to {w : World} {J J' : Nat → Option Nat} {Z Z' : Nat → Prop} {j i : Nat} (hz : ∀ b, Z b → Z' b) (hj : ∀ b, J j = some b → J' i = some b) {v : Value} {c : CV} (h : CRel w J Z v c) : CRel w J' Z' v (c.to j i) := by
  cases c with
  | iv c => exact Rd.mono h hz fun _ _ _ => rfl
  | ip m c => obtain ⟨b, off, X, e, z, hX⟩ := h; exact ⟨b, off, X, e, hz b z, fun o ho => ⟨(hX o ho).1, Rd.mono (hX o ho).2 hz fun _ _ _ => rfl⟩⟩
  | slc k off n E =>
    simp only [CV.to]
    split
    · rename_i e; subst e
      rcases h with h | ⟨b, cap, c, e, hv, hb, r⟩
      · exact Or.inl h
      · exact Or.inr ⟨b, cap, c, e, hv, hj b hb, r⟩
    · exact CRel.one h
  | ptr k o =>
    simp only [CV.to]
    split
    · rename_i e; subst e
      obtain ⟨b, hv, hb⟩ := h
      exact ⟨b, hv, hj b hb⟩
    · exact CRel.one h
  | fn f a b => exact CRel.one h
  | any => exact h
theorem TRel.to {w : World} {J J' : Nat → Option Nat} {Z Z' : Nat → Prop} {j i : Nat} (hz : ∀ b, Z b → Z' b) (hj : ∀ b, J j = some b → J' i = some b) {v : Value} {x : TV} (h : TRel w J Z v x) : TRel w J' Z' v (x.to j i) := by
  cases x with
  | one c => exact CRel.to hz hj h
  | agg cs => obtain ⟨A, e, h⟩ := h; exact ⟨A, e, All2.map_right.2 (h.mono fun _ _ => CRel.to hz hj)⟩
theorem ARel.to {w : World} {J J' : Nat → Option Nat} {Z Z' : Nat → Prop} {j i : Nat} (hz : ∀ b, Z b → Z' b) (hj : ∀ b, J j = some b → J' i = some b) {v : Value} {x : AV} (h : ARel w J Z v x) : ARel w J' Z' v (x.to j i) := by
  cases x with
  | t x => exact TRel.to hz hj h
  | tup xs => obtain ⟨A, e, h⟩ := h; exact ⟨A, e, All2.map_right.2 (h.mono fun _ _ => TRel.to hz hj)⟩
  | mb b x => trivial
  | any => trivial
section
variable {w0 : World} {Z0 : Fr} {J J' : Nat → Option Nat} {Z Z' : Nat → Prop} {s s' : AS} {a : Act} {w w' : World}
/-- A call of a function that turns nothing that was there: some of the new blocks are read by value. -/
theorem Rel.callX (R : Rel w0 Z0 J Z s a w) (hb : Below w.heap.size w w') (p : Nat → Prop) : Rel w0 Z0 J (fun b => Z b ∨ (w.heap.size ≤ b ∧ b < w'.heap.size ∧ p b)) s a w' := by
  have hsz := hb.size
  have G : Grow (fun _ => True) w J Z w' J (fun b => Z b ∨ (w.heap.size ≤ b ∧ b < w'.heap.size ∧ p b)) :=
    ⟨fun _ _ _ h => h, fun _ h => Or.inl h, fun b hz hlt => hb.block b hlt.lt, fun i b _ h c e f hc => ⟨c, by rw [hb.block b (R.jlt i b h).2.1]; exact hc, rfl⟩, fun b o h _ => (hb.block b (Array.getElem?_eq_some_iff.1 h).1).trans h⟩
  refine R.step G (hb.mono R.below.size) (fun b h => ?_) (fun b h => ?_) (fun i b h => ?_) R.inj rfl R.hole (fun i cs h hne => ?_) (fun t => Or.inr ⟨rfl, AV.ok_all _⟩) (fun _ t => Or.inr ⟨rfl, AV.ok_all _⟩)
  · rcases h with h | h
    · exact R.zfrom b h
    · exact Or.inr (by have := R.below.size; omega)
  · rcases h with h | h
    · have := R.zlt b h; omega
    · exact h.2.1
  · have := R.jlt i b h
    exact ⟨this.1, by omega, fun h' => by
      rcases h' with h' | h'
      · exact this.2.2 h'
      · omega⟩
  · obtain ⟨b, c, e, g1, g2, g3⟩ := R.cells i cs h hne
    exact ⟨b, c, e, g1, by rw [hb.block b (R.jlt i b g1).2.1]; exact g2, g3.mono fun _ y => CRel.grow G y.ok_all⟩
/-- A block that nobody names is an own block from now on. -/
theorem Rel.own (R : Rel w0 Z0 J Z s a w) {i b0 : Nat} {cs : List CV} {c : Array Value} {e : TypeId} (hh : hget s.heap i = none) (h1 : w0.heap.size ≤ b0) (h2 : b0 < w.heap.size) (hZ : ¬ Z b0) (hJ : ∀ k, J k ≠ some b0)
    (hb : w.heap[b0]? = some (.cells c e (0, 0))) (hc : All2 (CRel w J Z) (c.toList.take cs.length) cs) : Rel w0 Z0 (jset J i b0) Z { s with heap := hset s.heap i cs } a w := by
  have G : Grow (fun _ => True) w J Z w (jset J i b0) Z := by
    refine ⟨fun k b _ h => ?_, fun _ h => h, fun b hz hb => rfl, fun k b _ h c' e' f' hb => ⟨c', hb, rfl⟩, fun b o hb _ => hb⟩
    unfold jset
    rw [if_neg]
    · exact h
    · rintro rfl; rw [R.hole _ hh] at h; cases h
  refine R.step G (Below.refl _ _) R.zfrom R.zlt (fun k b h => ?_) (fun k j b hi hj => ?_) rfl (fun k h => ?_) (fun k x h hne => ?_) (fun t => Or.inr ⟨rfl, AV.ok_all _⟩) (fun _ t => Or.inr ⟨rfl, AV.ok_all _⟩)
  · unfold jset at h
    split at h
    · cases h; exact ⟨h1, h2, hZ⟩
    · exact R.jlt k b h
  · unfold jset at hi hj
    split at hi <;> split at hj
    · omega
    · cases hi; exact absurd hj (hJ j)
    · cases hj; exact absurd hi (hJ k)
    · exact R.inj k j b hi hj
  · unfold jset
    by_cases q : k = i
    · subst q; simp [hget_hset_same] at h
    · rw [if_neg q]; simp only [hget_hset_ne _ _ _ _ q] at h; exact R.hole k h
  · by_cases q : k = i
    · subst q
      simp only [hget_hset_same, Option.some.injEq] at h
      subst h
      exact ⟨b0, c, e, by simp [jset], hb, hc.mono fun _ y => CRel.grow G y.ok_all⟩
    · simp only [hget_hset_ne _ _ _ _ q] at h
      obtain ⟨b, c', e', g1, g2, g3⟩ := R.cells k x h hne
      exact ⟨b, c', e', by simp [jset, q, g1], g2, g3.mono fun _ y => CRel.grow G y.ok_all⟩
end
/-- The end of a function that lays one own block. -/
def retO (P : Program) (fn : Func) (j : Nat) (cs : List CV) (r : Nat → AV) (e : Exit) (s : AS) : Prop :=
  (match e with | .normal | .ret => True | _ => False) ∧ hget s.heap j = some cs ∧ match resF P s fn.results.toList with
    | some (nd, l) => nd ∧ ∀ i, (tupA l).to j i = r i
    | none => False
theorem TRel.pt {w : World} {J : Nat → Option Nat} {Z : Nat → Prop} {v : Value} {x : PT} (h : TRel w J Z v x.tv) : PTRel w Z v x := by
  cases x with
  | one c => exact h
  | agg cs => obtain ⟨A, e, h⟩ := h; exact ⟨A, e, (All2.map_right (R := CRel w J Z) (f := CV.iv)).1 h⟩
/-- A function that lays one own block, from its body. -/
theorem CallsN_of {P : Program} {k : FuncId} {fn : Func} {c : Code} {args : List PT} {cs : List CV} {r : Nat → AV} (j : Nat) (hf : P.funcs[k]? = some fn) (hb : fn.body = some c) (hl : args.length ≤ fn.ntmps) (hiv : ∀ c, c ∈ cs → isIv c) (hne : cs ≠ [])
    (h : AW P c ⟨argEnv (args.map PT.tv) 0, [], fn.ntmps, [], .top⟩ (retO P fn j cs r)) : CallsN P k (args.map PT.tv) cs r := by
  intro H i hH w0 Z0 J Z s a w vs R hs hv
  subst hs
  have ha : All2 (PTRel w Z) vs.toList args := (All2.map_right.1 hv).mono fun _ _ h => TRel.pt h
  refine callsIn_wide.1 (callsIn_of_wp_marks (F := Fence.wide) (n := 0) hf hb trivial ?_)
  have hlen := ha.length
  simp only [Array.length_toList] at hlen
  have R0 : Rel w ⟨Z, fun _ _ => undef, none, []⟩ (fun _ => none) Z ⟨argEnv (args.map PT.tv) 0, [], fn.ntmps, [], .top⟩ { tmps := vs ++ Array.replicate (fn.ntmps - vs.size) undef, defers := [] } w := by
    refine ⟨⟨[], rfl, by simp, fun b hb => by cases hb⟩, ?_, Below.refl _ _, fun b h => Or.inl h, R.zlt, (fun i b h => by cases h), (fun i j b h => by cases h), fun _ _ => rfl, (fun i cs h => by simp [hget] at h), fun t => ?_, fun f t => trivial, (fun x hx => by cases hx), by simp, rfl⟩
    · simp; omega
    · simp only [AS.get, argEnv_lk, Nat.zero_le, if_true, Nat.sub_zero]
      rw [List.getElem?_map]
      cases hx : args[t]? with
      | none => simp; trivial
      | some x =>
        obtain ⟨u, hu, hr⟩ := ha.get hx
        have : (vs ++ Array.replicate (fn.ntmps - vs.size) undef).getD t undef = u := by
          rw [Array.getElem?_toList] at hu
          have hlt : t < vs.size := (Array.getElem?_eq_some_iff.1 hu).1
          simp only [Array.getD_eq_getD_getElem?, Array.getElem?_append_left hlt, hu, Option.getD_some]
        rw [this]
        exact PTRel.tv hr
  refine wpIn_mono (h w ⟨Z, fun _ _ => undef, none, []⟩ _ w 0 ⟨_, _, R0⟩) fun e a' w' ⟨s', ⟨J', Z', R'⟩, he, hj, q⟩ => ?_
  have fin : LeavesInM Fence.wide 0 P fn a'.tmps (fun e w' => ∃ v J' Z', e = .returned v ∧ Rel w0 Z0 J' Z' { s with heap := hset s.heap i cs } a w' ∧ ARel w' J' Z' v (r i)) a'.defers .returning w' := by
    obtain ⟨M, m1, _⟩ := R'.nodef
    refine R'.leaves M m1 fun a2 w2 R2 h2 h3 => ?_
    split at q
    · rename_i nd l h1
      obtain ⟨hn, hto⟩ := q
      obtain ⟨vs', hvs, hr⟩ := run_results R2 h1 hn
      rw [h2] at hvs
      have hres : (results fn a'.tmps).run P w2 = .ok (if h : vs'.toArray.size = 1 then vs'.toArray[0] else .tuple vs'.toArray) w2 := by
        rw [results_eq, ← Array.toArray_toList (xs := fn.results), List.mapM_toArray]
        simp only [Sem.run_bind, Sem.run_map, hvs, Result.andThen_ok, Sem.run_pure]
      have hA := tupA_rel hr
      obtain ⟨b0, c0, e0, g1, g2, g3⟩ := R2.cells j cs hj hne
      have hjl := R2.jlt j b0 g1
      have R3 := R.callX R2.below (fun b => b ≠ b0)
      have hzz : ∀ b, Z' b → Z b ∨ (w.heap.size ≤ b ∧ b < w2.heap.size ∧ b ≠ b0) := fun b hz => by
        rcases R2.zfrom b hz with h1 | h1
        · exact Or.inl h1
        · exact Or.inr ⟨h1, R2.zlt b hz, fun e => hjl.2.2 (e ▸ hz)⟩
      have R4 := R3.own (i := i) (b0 := b0) (cs := cs) hH (by have := R.below.size; omega) hjl.2.1 (fun hz => by
          rcases hz with hz | hz
          · have := R.zlt b0 hz; omega
          · exact hz.2.2 rfl) (fun q hq => by have := (R.jlt q b0 hq).2.1; omega) g2 (g3.mono' fun x y hy hxy => by
          have := hiv y hy
          cases y <;> first | exact this.elim | exact Rd.mono hxy hzz fun _ _ _ => rfl)
      refine ⟨_, hres, _, _, _, rfl, R4, ?_⟩
      rw [← hto i]
      refine ARel.to hzz (fun b hb => ?_) hA
      rw [g1] at hb
      cases hb
      simp [jset]
    · exact q.elim
  cases e <;> simp at he <;> exact fin
def retON (j : Nat) (r : Nat → AV) : Option (Prop × List TV) → Prop
  | some (nd, l) => nd ∧ ∀ i, (tupA l).to j i = r i
  | none => False
theorem retO_n {P : Program} {fn : Func} {j : Nat} {cs : List CV} {r : Nat → AV} {s : AS} (h0 : hget s.heap j = some cs) (h : retON j r (resF P s fn.results.toList)) : retO P fn j cs r .ret s := ⟨trivial, h0, h⟩
theorem retO_n' {P : Program} {fn : Func} {j : Nat} {cs : List CV} {r : Nat → AV} {s : AS} (h0 : hget s.heap j = some cs) (h : retON j r (resF P s fn.results.toList)) : retO P fn j cs r .normal s := ⟨trivial, h0, h⟩
theorem CallsN.eqv {P : Program} {k : FuncId} {args args' : List PT} {cs : List CV} {r : Nat → AV} (h : CallsN P k (args.map PT.tv) cs r) (ha : All2 PT.eqv args' args) : CallsN P k (args'.map PT.tv) cs r := by
  intro H i hH w0 Z0 J Z s a w vs R hs hv
  refine h H i hH w0 Z0 J Z s a w vs R hs ?_
  have h1 : All2 (PTRel w Z) vs.toList args' := (All2.map_right.1 hv).mono fun _ _ h => TRel.pt h
  have h2 : All2 (PTRel w Z) vs.toList args := All2.trans2 (S := PT.eqv) (T := PTRel w Z) (fun _ _ _ h he => PTRel.eqv h he) h1 ha
  exact All2.map_right.2 (h2.mono fun _ _ h => PTRel.tv h)
theorem callDGK_f0 {P : Program} {gs : List (Option Nat)} {n0 i : Nat} {d : Option Tmp} {op : BinOp} {t t' : TypeId} {x y : Operand} {ty : TypeId} {pos : String} {aft : Array Edge} {g : Option (Nat × Bool)} {os : List Oper} {s : AS} {lg : Lg} {K : Lg → AS → Prop} (h : arunD P gs n0 (i + 1) os (s.put d .any) ((none, ftF s ⟨d, .binOp op t x y t', ty, pos, aft, g⟩) :: lg) K) :
    callDGK P gs n0 i false ⟨d, .binOp op t x y t', ty, pos, aft, g⟩ os s lg K := by
  unfold callDGK callDG
  exact ⟨fun h => (by cases h), fun _ => h⟩
theorem callGK_f0 {P : Program} {gs : List (Option Nat)} {d : Option Tmp} {op : BinOp} {t t' : TypeId} {x y : Operand} {ty : TypeId} {pos : String} {aft : Array Edge} {g : Option (Nat × Bool)} {os : List Oper} {s : AS} {K : AS → Prop} (h : arun P gs os (s.put d .any) K) :
    callGK P gs false ⟨d, .binOp op t x y t', ty, pos, aft, g⟩ os s K := by
  unfold callGK callG
  exact Or.inr ⟨fun h => (by cases h), fun _ => h⟩
/-- A block of n cells of which nothing is told. -/
def anyC (n : Nat) : List CV := List.replicate n .any
theorem anyC_len (n : Nat) : (anyC n).length = n := by simp [anyC]
theorem wkC_any {ok : Nat → Prop} : ∀ {l : List CV} {n : Nat}, l.length = n → wkC ok l (anyC n)
  | [], _, rfl => trivial
  | c :: l, _, rfl => ⟨Or.inl rfl, wkC_any (l := l) rfl⟩
theorem rowV_out {f : Nat → IV} {n k : Nat} (h : n ≤ k) : (rowV f n).getD k .any = .any := by
  rw [List.getD, List.getElem?_eq_none (by rw [rowV_len]; exact h)]
  rfl
end Go.Sea
