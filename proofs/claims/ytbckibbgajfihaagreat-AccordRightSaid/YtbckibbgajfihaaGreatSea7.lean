/- Abstract states, part 7: what slots and blocks of a call stand for, and how code turns them. No condition. -/
import Derived.Test.YtbckibbgajfihaaGreatSea6
set_option linter.unusedVariables false
set_option linter.unusedSimpArgs false
/- Rows of immutable cells. -/
namespace Go.Sea
open Go.RowKit

section
variable {P : Program} {gs : List (Option Nat)} {n0 i : Nat} {d : Option Tmp} {t t' : TypeId} {x y : Operand} {ty : TypeId} {pos : String} {aft : Array Edge} {g : Option (Nat × Bool)} {os : List Oper} {s : AS} {K : AS → Prop} {lg : Lg} {K' : Lg → AS → Prop} {k k' : IntKind} {m n : Int}
theorem callK_shl (hx : s.ev x = iA k m) (hy : s.ev y = iA k' n) (hn : 0 ≤ n) (h : arun P gs os (s.put d (iA k (k.wrap (m * 2 ^ (min n.toNat k.bits))))) K) : callK P gs ⟨d, .binOp .shl t x y t', ty, pos, aft, g⟩ os s K := by
  refine Or.inl ?_
  unfold callF0
  refine ⟨rfl, ?_, .int k (k.wrap (m * 2 ^ (min n.toNat k.bits))), fun w => ?_, ?_⟩
  · simp [Op.operands, gv, hx, hy]
  · simp [execOp, gρ, gv, hx, hy, binOp, eqGuard, Op.shift, Int.not_lt.2 hn]
  · exact h
theorem callDK_shl (hx : s.ev x = iA k m) (hy : s.ev y = iA k' n) (hn : 0 ≤ n) (h : arunD P gs n0 (i + 1) os (s.ent d (n0 + i) (iA k (k.wrap (m * 2 ^ (min n.toNat k.bits)))) .nop) ((none, ftF s ⟨d, .binOp .shl t x y t', ty, pos, aft, g⟩) :: lg) K') : callDK P gs n0 i ⟨d, .binOp .shl t x y t', ty, pos, aft, g⟩ os s lg K' := by
  unfold callDK callD
  refine ⟨rfl, ?_, .int k (k.wrap (m * 2 ^ (min n.toNat k.bits))), fun w => ?_, ?_⟩
  · simp [Op.operands, gv, hx, hy]
  · simp [execOp, gρ, gv, hx, hy, binOp, eqGuard, Op.shift, Int.not_lt.2 hn]
  · exact h
end
/-- A block of n immutable cells. -/
def rowV (f : Nat → IV) (n : Nat) : List CV := (List.range n).map fun j => .iv (f j)
section
variable (f g : Nat → IV) (n m k i : Nat)
theorem rowV_len : (rowV f n).length = n := by simp [rowV]
theorem rowV_zero : rowV f 0 = [] := rfl
theorem rowV_at {f : Nat → IV} {n k : Nat} (h : k < n) : (rowV f n)[k]? = some (.iv (f k)) := by simp [rowV, h]
theorem rowV_get {f : Nat → IV} {n k : Nat} (h : k < n) : (rowV f n).getD k .any = .iv (f k) := by simp [List.getD, rowV_at h]
theorem rowV_iv : ∀ c, c ∈ rowV f n → isIv c := by
  intro c hc
  obtain ⟨j, _, rfl⟩ := List.mem_map.1 hc
  trivial
theorem purge_iv {l : List CV} (h : ∀ c, c ∈ l → isIv c) : List.map (CV.purge i) l = l := by
  refine (List.map_congr_left fun c hc => ?_).trans (List.map_id l)
  have := h c hc
  cases c <;> first | rfl | exact this.elim
theorem rowV_pur : List.map (CV.purge i) (rowV f n) = rowV f n := purge_iv i (rowV_iv f n)
theorem rowV_has : (rowV f n).any (CV.has i) = false := by
  refine Bool.eq_false_iff.2 fun h => ?_
  obtain ⟨c, hc, h⟩ := List.any_eq_true.1 h
  have := rowV_iv f n c hc
  cases c <;> first | (simp [CV.has] at h; done) | exact this.elim
theorem rowV_snoc : rowV f n ++ [.iv (f n)] = rowV f (n + 1) := by simp [rowV, List.range_succ]
theorem rowV_congr {f g : Nat → IV} {n : Nat} (h : ∀ j, j < n → f j = g j) : rowV f n = rowV g n := by
  refine List.map_congr_left fun j hj => ?_
  rw [h j (List.mem_range.1 hj)]
theorem rowV_ext {l : List CV} (hl : l.length = n) (h : ∀ j, j < n → l[j]? = some (.iv (f j))) : l = rowV f n := by
  refine List.ext_getElem? fun j => ?_
  by_cases hj : j < n
  · rw [h j hj, rowV_at hj]
  · rw [List.getElem?_eq_none (by omega), List.getElem?_eq_none (by rw [rowV_len]; omega)]
theorem rowV_app : rowV f n ++ rowV g m = rowV (fun j => if j < n then f j else g (j - n)) (n + m) := by
  refine rowV_ext _ _ (by simp [rowV_len]) fun j hj => ?_
  by_cases h : j < n
  · rw [List.getElem?_append_left (by rw [rowV_len]; exact h), rowV_at h, if_pos h]
  · rw [List.getElem?_append_right (by rw [rowV_len]; omega), rowV_len, rowV_at (by omega), if_neg h]
theorem rowV_take : (rowV f n).take k = rowV f (min k n) := by
  refine rowV_ext _ _ (by simp [rowV_len]) fun j hj => ?_
  rw [List.getElem?_take, if_pos (by omega), rowV_at (by omega)]
theorem rowV_drop : (rowV f n).drop k = rowV (fun j => f (k + j)) (n - k) := by
  refine rowV_ext _ _ (by simp [rowV_len]) fun j hj => ?_
  rw [List.getElem?_drop, rowV_at (by omega)]
theorem rowV_splice {f g : Nat → IV} {n m k : Nat} (h : k + m ≤ n) : (rowV f n).take k ++ rowV g m ++ (rowV f n).drop (k + m) = rowV (fun j => if k ≤ j ∧ j < k + m then g (j - k) else f j) n := by
  rw [rowV_take, rowV_drop, rowV_app, rowV_app, show min k n + m + (n - (k + m)) = n by omega]
  refine rowV_congr fun j hj => ?_
  by_cases h1 : j < min k n
  · rw [if_pos (by omega), if_pos h1, if_neg (by omega)]
  · by_cases h2 : j < k + m
    · rw [if_pos (by omega), if_neg h1, if_pos (by omega), show min k n = k by omega]
    · rw [if_neg (by omega), if_neg (by omega)]
      congr 1
      omega
theorem rowV_set {f : Nat → IV} {n k : Nat} (h : k < n) (c : IV) : (rowV f n).take k ++ [.iv c] ++ (rowV f n).drop (k + 1) = rowV (fun j => if j = k then c else f j) n := by
  have := rowV_splice (f := f) (g := fun _ => c) (n := n) (m := 1) (k := k) (by omega)
  rw [show rowV (fun _ => c) 1 = [.iv c] from rfl] at this
  rw [this]
  refine rowV_congr fun j hj => ?_
  by_cases e : j = k
  · rw [if_pos (by omega), if_pos e]
  · rw [if_neg (by omega), if_neg e]
theorem rowV_eqv {f : Nat → IV} {n : Nat} {F : Nat → Nat → IV} (h : ∀ j, j < n → (f j).eqv (F j 0)) (p o : Nat) (hp : p < n) (ho : o < 1) : (civ ((rowV f n).getD (p * 1 + o) .any)).eqv (F p o) := by
  obtain rfl : o = 0 := by omega
  rw [Nat.mul_one, Nat.add_zero, rowV_get hp]
  exact h p hp
theorem rowV_eqv' {f : Nat → IV} {n : Nat} {F : Nat → Nat → IV} (h : ∀ j, j < n → (f j).eqv (F j 0)) (p o : Nat) (hp : p < n) (ho : o < 1) : (civ ((rowV f n).getD (p + o) .any)).eqv (F p o) := by
  have := rowV_eqv h p o hp ho
  rwa [Nat.mul_one] at this
theorem lstC_row (F : Nat → Nat → IV) : ∀ n k, lstC F 1 n k = rowV (fun j => F (k + j) 0) n
  | 0, _ => rfl
  | n + 1, k => by
    have e : lstC F 1 (n + 1) k = ipCells (F k) 1 0 ++ lstC F 1 n (k + 1) := rfl
    rw [e, lstC_row F n (k + 1)]
    have e1 : ipCells (F k) 1 0 = rowV (fun _ => F k 0) 1 := rfl
    rw [e1, rowV_app, Nat.add_comm 1 n]
    refine rowV_congr fun j hj => ?_
    by_cases h : j < 1
    · rw [if_pos h]; obtain rfl : j = 0 := by omega
      rfl
    · rw [if_neg h, show k + 1 + (j - 1) = k + j by omega]
theorem repC_row (c : IV) : ∀ n, repC [.iv c] n = rowV (fun _ => c) n
  | 0 => rfl
  | n + 1 => by
    have e : repC [CV.iv c] (n + 1) = [.iv c] ++ repC [.iv c] n := rfl
    rw [e, repC_row c n, show [CV.iv c] = rowV (fun _ => c) 1 from rfl, rowV_app, Nat.add_comm 1 n]
    exact rowV_congr fun j hj => by split <;> rfl
theorem rowV_frz (cs : List CV) : List.map (frzC i cs) (rowV f n) = rowV f n := by
  refine (List.map_congr_left fun c hc => ?_).trans (List.map_id _)
  have := rowV_iv f n c hc
  cases c <;> first | rfl | exact this.elim
theorem rowV_app1 (c : IV) : rowV f n ++ [.iv c] = rowV (fun j => if j < n then f j else c) (n + 1) := by
  rw [show [CV.iv c] = rowV (fun _ => c) 1 from rfl, rowV_app]
theorem nilC_iv {c d : IV} (h : c.eqv d) : nilC (.iv c) (.iv d) := by cases c <;> exact h
theorem wkC_row {ok : Nat → Prop} {f g : Nat → IV} : ∀ (n : Nat), (∀ j, j < n → (f j).eqv (g j)) → wkC ok (rowV f n) (rowV g n) := by
  have key : ∀ (l : List Nat), (∀ j, j ∈ l → (f j).eqv (g j)) → wkC ok (l.map fun j => CV.iv (f j)) (l.map fun j => CV.iv (g j)) := fun l => by
    induction l with
    | nil => intro _; trivial
    | cons a l ih => exact fun h => ⟨Or.inr (Or.inr (nilC_iv (h a (by simp)))), ih fun j hj => h j (by simp [hj])⟩
  exact fun n h => key _ fun j hj => h j (List.mem_range.1 hj)
theorem wkC_snoc {ok : Nat → Prop} {f g : Nat → IV} {c : IV} {n : Nat} (h : ∀ j, j < n → (f j).eqv (g j)) (hc : c.eqv (g n)) : wkC ok (rowV f n ++ [.iv c]) (rowV g (n + 1)) := by
  rw [rowV_app1]
  refine wkC_row (n + 1) fun j hj => ?_
  by_cases e : j < n
  · rw [if_pos e]; exact h j e
  · rw [if_neg e, show j = n by omega]; exact hc
theorem wkC_snoc' {ok : Nat → Prop} {f : Nat → IV} {c : IV} {n : Nat} (hc : c.eqv (f n)) : wkC ok (rowV f n ++ [.iv c]) (rowV f (n + 1)) := wkC_snoc (fun j _ => (f j).eqv_refl) hc
theorem wkC_same {ok : Nat → Prop} : wkC ok (rowV f n) (rowV f n) := wkC_row n fun j _ => (f j).eqv_refl
theorem isIv_iv (c : IV) : isIv (.iv c) = True := rfl
theorem civ_iv (c : IV) : civ (.iv c) = c := rfl
theorem rowV_all : (∀ a, a ∈ rowV f n → isIv a) = True := eq_true (rowV_iv f n)
theorem rowV_cons (c : IV) : CV.iv c :: rowV f n = rowV (fun j => if j = 0 then c else f (j - 1)) (n + 1) := by
  have := rowV_app (fun _ => c) f 1 n
  rw [Nat.add_comm 1 n] at this
  refine this.trans (rowV_congr fun j hj => ?_)
  by_cases h : j = 0
  · rw [if_pos (by omega), if_pos h]
  · rw [if_neg (by omega), if_neg h]
theorem repC_0 (z : List CV) : repC z 0 = [] := rfl
theorem repC_1 (z : List CV) : repC z 1 = z := by simp [repC]
theorem repC_2 (z : List CV) : repC z 2 = z ++ z := by simp [repC]
theorem repC_3 (z : List CV) : repC z 3 = z ++ (z ++ z) := by simp [repC]
end
/-- Cells that name no own block: a row of immutable cells, or a map of immutable values. -/
def fixC (cs : List CV) : Prop := (∀ c, c ∈ cs → isIv c) ∨ ∃ c n f, cs = [.mi c n f]
theorem fixC_iv {cs : List CV} (h : ∀ c, c ∈ cs → isIv c) : fixC cs := Or.inl h
theorem fixC_mi (c : Option Nat) (n : Nat) (f : Int → Option PT) : fixC [.mi c n f] := Or.inr ⟨c, n, f, rfl⟩
theorem Blk.fix {w : World} {J J' : Nat → Option Nat} {Z Z' : Nat → Prop} {b : Nat} {cs : List CV} (h : Blk w J Z b cs) (hz : ∀ b, Z b → Z' b) (hne : cs ≠ []) (hf : fixC cs) : Blk w J' Z' b cs := by
  rcases hf with hiv | ⟨c, n, f, rfl⟩
  · obtain ⟨c, e, h1, h2⟩ := h.cells_iv hne fun c hc => by
      have := hiv c hc
      cases c <;> first | exact ⟨_, rfl⟩ | exact this.elim
    refine Blk.of h1 (h2.mono' fun x y hy hxy => ?_)
    have := hiv y hy
    cases y <;> first | exact this.elim | exact Rd.mono hxy hz fun _ _ _ => rfl
  · obtain ⟨_, es, clock, h1, h0, k1⟩ := h
    exact ⟨rfl, es, clock, h1, h0, k1.mono hz fun _ _ _ => rfl⟩
/-- Own blocks renamed: those named j are named i; the others are forgotten. -/
def CV.to (j i : Nat) : CV → CV
  | .slc k off n E => if k = j then .slc i off n E else .any
  | .ptr k o => if k = j then .ptr i o else .any
  | .mp k => if k = j then .mp i else .any
  | .it k => if k = j then .it i else .any
  | .fn _ _ _ => .any
  | c => c
def TV.to (j i : Nat) : TV → TV
  | .one c => .one (c.to j i)
  | .agg cs => .agg (cs.map (CV.to j i))
def AV.to (j i : Nat) : AV → AV
  | .t x => .t (x.to j i)
  | .tup xs => .tup (xs.map (TV.to j i))
  | _ => .any
theorem CRel.to {w : World} {J J' : Nat → Option Nat} {Z Z' : Nat → Prop} {j i : Nat} (hz : ∀ b, Z b → Z' b) (hj : ∀ b, J j = some b → J' i = some b) {v : Value} {c : CV} (h : CRel w J Z v c) : CRel w J' Z' v (c.to j i) := by
  cases c with
  | iv c => exact Rd.mono h hz fun _ _ _ => rfl
  | ip m c => obtain ⟨b, off, X, e, z, hX⟩ := h; exact ⟨b, off, X, e, hz b z, fun o ho => ⟨(hX o ho).1, Rd.mono (hX o ho).2 hz fun _ _ _ => rfl⟩⟩
  | slc k off n E =>
    simp only [CV.to]
    split
    · rename_i e; subst e
      rcases h with h | ⟨b, cap, c, e, hv, hb, r⟩
      · exact Or.inl h
      · exact Or.inr ⟨b, cap, c, e, hv, hj b hb, r⟩
    · exact CRel.one h
  | ptr k o =>
    simp only [CV.to]
    split
    · rename_i e; subst e
      obtain ⟨b, hv, hb, ho⟩ := h
      exact ⟨b, hv, hj b hb, ho⟩
    · exact CRel.one h
  | mp k =>
    simp only [CV.to]
    split
    · rename_i e; subst e
      obtain ⟨b, hv, hb⟩ := h
      exact ⟨b, hv, hj b hb⟩
    · exact CRel.one h
  | it k =>
    simp only [CV.to]
    split
    · rename_i e; subst e
      obtain ⟨b, hv, hb⟩ := h
      exact ⟨b, hv, hj b hb⟩
    · exact CRel.one h
  | mi => exact h.elim
  | ml => exact h.elim
  | mt => exact h.elim
  | fn f a b => exact CRel.one h
  | any => exact h
theorem TRel.to {w : World} {J J' : Nat → Option Nat} {Z Z' : Nat → Prop} {j i : Nat} (hz : ∀ b, Z b → Z' b) (hj : ∀ b, J j = some b → J' i = some b) {v : Value} {x : TV} (h : TRel w J Z v x) : TRel w J' Z' v (x.to j i) := by
  cases x with
  | one c => exact CRel.to hz hj h
  | agg cs => obtain ⟨A, e, h⟩ := h; exact ⟨A, e, All2.map_right.2 (h.mono fun _ _ => CRel.to hz hj)⟩
theorem ARel.to {w : World} {J J' : Nat → Option Nat} {Z Z' : Nat → Prop} {j i : Nat} (hz : ∀ b, Z b → Z' b) (hj : ∀ b, J j = some b → J' i = some b) {v : Value} {x : AV} (h : ARel w J Z v x) : ARel w J' Z' v (x.to j i) := by
  cases x with
  | t x => exact TRel.to hz hj h
  | tup xs => obtain ⟨A, e, h⟩ := h; exact ⟨A, e, All2.map_right.2 (h.mono fun _ _ => TRel.to hz hj)⟩
  | mb b x => trivial
  | any => trivial
section
variable {w0 : World} {Z0 : Fr} {J J' : Nat → Option Nat} {Z Z' : Nat → Prop} {s s' : AS} {a : Act} {w w' : World}
/-- A call of a function that turns nothing that was there: some of the new blocks are read by value. -/
theorem Rel.callX (R : Rel w0 Z0 J Z s a w) (hb : Below w.heap.size w w') (p : Nat → Prop) : Rel w0 Z0 J (fun b => Z b ∨ (w.heap.size ≤ b ∧ b < w'.heap.size ∧ p b)) s a w' := by
  have hsz := hb.size
  have G : Grow (fun _ => True) w J Z w' J (fun b => Z b ∨ (w.heap.size ≤ b ∧ b < w'.heap.size ∧ p b)) :=
    ⟨fun _ _ _ h => h, fun _ h => Or.inl h, fun b hz hlt => hb.block b hlt.lt, fun i b _ h c e f hc => ⟨c, by rw [hb.block b (R.jlt i b h).2.1]; exact hc, rfl⟩, fun b o h _ => (hb.block b (Array.getElem?_eq_some_iff.1 h).1).trans h⟩
  refine R.step G (hb.mono R.below.size) (fun b h => ?_) (fun b h => ?_) (fun i b h => ?_) R.inj rfl R.hole (fun i cs h hne => ?_) (fun t => Or.inr ⟨rfl, AV.ok_all _⟩) (fun _ t => Or.inr ⟨rfl, AV.ok_all _⟩)
  · rcases h with h | h
    · exact R.zfrom b h
    · exact Or.inr (by have := R.below.size; omega)
  · rcases h with h | h
    · have := R.zlt b h; omega
    · exact h.2.1
  · have := R.jlt i b h
    exact ⟨this.1, by omega, fun h' => by
      rcases h' with h' | h'
      · exact this.2.2 h'
      · omega⟩
  · exact R.keep G h hne trivial (fun c _ => c.ok_all) fun b g1 _ => hb.block b (R.jlt i b g1).2.1
/-- A block that nobody names is an own block from now on. -/
theorem Rel.own (R : Rel w0 Z0 J Z s a w) {i b0 : Nat} {cs : List CV} (hh : hget s.heap i = none) (h1 : w0.heap.size ≤ b0) (h2 : b0 < w.heap.size) (hZ : ¬ Z b0) (hJ : ∀ k, J k ≠ some b0)
    (hc : Blk w J Z b0 cs) : Rel w0 Z0 (jset J i b0) Z { s with heap := hset s.heap i cs } a w := by
  have G : Grow (fun _ => True) w J Z w (jset J i b0) Z := by
    refine ⟨fun k b _ h => ?_, fun _ h => h, fun b hz hb => rfl, fun k b _ h c' e' f' hb => ⟨c', hb, rfl⟩, fun b o hb _ => hb⟩
    unfold jset
    rw [if_neg]
    · exact h
    · rintro rfl; rw [R.hole _ hh] at h; cases h
  refine R.step G (Below.refl _ _) R.zfrom R.zlt (fun k b h => ?_) (fun k j b hi hj => ?_) rfl (fun k h => ?_) (fun k x h hne => ?_) (fun t => Or.inr ⟨rfl, AV.ok_all _⟩) (fun _ t => Or.inr ⟨rfl, AV.ok_all _⟩)
  · unfold jset at h
    split at h
    · cases h; exact ⟨h1, h2, hZ⟩
    · exact R.jlt k b h
  · unfold jset at hi hj
    split at hi <;> split at hj
    · omega
    · cases hi; exact absurd hj (hJ j)
    · cases hj; exact absurd hi (hJ k)
    · exact R.inj k j b hi hj
  · unfold jset
    by_cases q : k = i
    · subst q; simp [hget_hset_same] at h
    · rw [if_neg q]; simp only [hget_hset_ne _ _ _ _ q] at h; exact R.hole k h
  · by_cases q : k = i
    · subst q
      simp only [hget_hset_same, Option.some.injEq] at h
      subst h
      exact ⟨b0, by simp [jset], hc.keep G.g4 (fun c _ => c.ok_all) G.oth fun _ => rfl⟩
    · simp only [hget_hset_ne _ _ _ _ q] at h
      exact R.keep G h hne trivial (fun c _ => c.ok_all) fun _ _ _ => rfl
end
/-- The end of a function that lays one own block. -/
def retO (P : Program) (fn : Func) (j : Nat) (cs : List CV) (r : Nat → AV) (e : Exit) (s : AS) : Prop :=
  (match e with | .normal | .ret => True | _ => False) ∧ hget s.heap j = some cs ∧ match resF P s fn.results.toList with
    | some (nd, l) => nd ∧ ∀ i, (tupA l).to j i = r i
    | none => False
theorem TRel.pt {w : World} {J : Nat → Option Nat} {Z : Nat → Prop} {v : Value} {x : PT} (h : TRel w J Z v x.tv) : PTRel w Z v x := by
  cases x with
  | one c => exact h
  | agg cs => obtain ⟨A, e, h⟩ := h; exact ⟨A, e, (All2.map_right (R := CRel w J Z) (f := CV.iv)).1 h⟩
/-- A function that lays one own block, from its body. -/
theorem CallsN_of {P : Program} {k : FuncId} {fn : Func} {c : Code} {args : List PT} {cs : List CV} {r : Nat → AV} (j : Nat) (hf : P.funcs[k]? = some fn) (hb : fn.body = some c) (hl : args.length ≤ fn.ntmps) (hiv : fixC cs) (hne : cs ≠ [])
    (h : AW P c ⟨argEnv (args.map PT.tv) 0, [], fn.ntmps, [], .top⟩ (retO P fn j cs r)) : CallsN P k (args.map PT.tv) cs r := by
  intro H i hH w0 Z0 J Z s a w vs R hs hv
  subst hs
  have ha : All2 (PTRel w Z) vs.toList args := (All2.map_right.1 hv).mono fun _ _ h => TRel.pt h
  refine callsIn_wide.1 (callsIn_of_wp_marks (F := Fence.wide) (n := 0) hf hb trivial ?_)
  have hlen := ha.length
  simp only [Array.length_toList] at hlen
  have R0 : Rel w ⟨Z, fun _ _ => undef, none, []⟩ (fun _ => none) Z ⟨argEnv (args.map PT.tv) 0, [], fn.ntmps, [], .top⟩ { tmps := vs ++ Array.replicate (fn.ntmps - vs.size) undef, defers := [] } w := by
    refine ⟨⟨[], rfl, by simp, fun b hb => by cases hb⟩, ?_, Below.refl _ _, fun b h => Or.inl h, R.zlt, (fun i b h => by cases h), (fun i j b h => by cases h), fun _ _ => rfl, (fun i cs h => by simp [hget] at h), fun t => ?_, fun f t => trivial, (fun x hx => by cases hx), by simp, rfl⟩
    · simp; omega
    · simp only [AS.get, argEnv_lk, Nat.zero_le, if_true, Nat.sub_zero]
      rw [List.getElem?_map]
      cases hx : args[t]? with
      | none => simp; trivial
      | some x =>
        obtain ⟨u, hu, hr⟩ := ha.get hx
        have : (vs ++ Array.replicate (fn.ntmps - vs.size) undef).getD t undef = u := by
          rw [Array.getElem?_toList] at hu
          have hlt : t < vs.size := (Array.getElem?_eq_some_iff.1 hu).1
          simp only [Array.getD_eq_getD_getElem?, Array.getElem?_append_left hlt, hu, Option.getD_some]
        rw [this]
        exact PTRel.tv hr
  refine wpIn_mono (h w ⟨Z, fun _ _ => undef, none, []⟩ _ w 0 ⟨_, _, R0⟩) fun e a' w' ⟨s', ⟨J', Z', R'⟩, he, hj, q⟩ => ?_
  have fin : LeavesInM Fence.wide 0 P fn a'.tmps (fun e w' => ∃ v J' Z', e = .returned v ∧ Rel w0 Z0 J' Z' { s with heap := hset s.heap i cs } a w' ∧ ARel w' J' Z' v (r i)) a'.defers .returning w' := by
    obtain ⟨M, m1, _⟩ := R'.nodef
    refine R'.leaves M m1 fun a2 w2 R2 h2 h3 => ?_
    split at q
    · rename_i nd l h1
      obtain ⟨hn, hto⟩ := q
      obtain ⟨vs', hvs, hr⟩ := run_results R2 h1 hn
      rw [h2] at hvs
      have hres : (results fn a'.tmps).run P w2 = .ok (if h : vs'.toArray.size = 1 then vs'.toArray[0] else .tuple vs'.toArray) w2 := by
        rw [results_eq, ← Array.toArray_toList (xs := fn.results), List.mapM_toArray]
        simp only [Sem.run_bind, Sem.run_map, hvs, Result.andThen_ok, Sem.run_pure]
      have hA := tupA_rel hr
      obtain ⟨b0, g1, g2⟩ := R2.blk j cs hj hne
      have hjl := R2.jlt j b0 g1
      have R3 := R.callX R2.below (fun b => b ≠ b0)
      have hzz : ∀ b, Z' b → Z b ∨ (w.heap.size ≤ b ∧ b < w2.heap.size ∧ b ≠ b0) := fun b hz => by
        rcases R2.zfrom b hz with h1 | h1
        · exact Or.inl h1
        · exact Or.inr ⟨h1, R2.zlt b hz, fun e => hjl.2.2 (e ▸ hz)⟩
      have R4 := R3.own (i := i) (b0 := b0) (cs := cs) hH (by have := R.below.size; omega) hjl.2.1 (fun hz => by
          rcases hz with hz | hz
          · have := R.zlt b0 hz; omega
          · exact hz.2.2 rfl) (fun q hq => by have := (R.jlt q b0 hq).2.1; omega) (g2.fix hzz hne hiv)
      refine ⟨_, hres, _, _, _, rfl, R4, ?_⟩
      rw [← hto i]
      refine ARel.to hzz (fun b hb => ?_) hA
      rw [g1] at hb
      cases hb
      simp [jset]
    · exact q.elim
  cases e <;> simp at he <;> exact fin
def retON (j : Nat) (r : Nat → AV) : Option (Prop × List TV) → Prop
  | some (nd, l) => nd ∧ ∀ i, (tupA l).to j i = r i
  | none => False
theorem retO_n {P : Program} {fn : Func} {j : Nat} {cs : List CV} {r : Nat → AV} {s : AS} (h0 : hget s.heap j = some cs) (h : retON j r (resF P s fn.results.toList)) : retO P fn j cs r .ret s := ⟨trivial, h0, h⟩
theorem retO_n' {P : Program} {fn : Func} {j : Nat} {cs : List CV} {r : Nat → AV} {s : AS} (h0 : hget s.heap j = some cs) (h : retON j r (resF P s fn.results.toList)) : retO P fn j cs r .normal s := ⟨trivial, h0, h⟩
theorem CallsN.eqv {P : Program} {k : FuncId} {args args' : List PT} {cs : List CV} {r : Nat → AV} (h : CallsN P k (args.map PT.tv) cs r) (ha : All2 PT.eqv args' args) : CallsN P k (args'.map PT.tv) cs r := by
  intro H i hH w0 Z0 J Z s a w vs R hs hv
  refine h H i hH w0 Z0 J Z s a w vs R hs ?_
  have h1 : All2 (PTRel w Z) vs.toList args' := (All2.map_right.1 hv).mono fun _ _ h => TRel.pt h
  have h2 : All2 (PTRel w Z) vs.toList args := All2.trans2 (S := PT.eqv) (T := PTRel w Z) (fun _ _ _ h he => PTRel.eqv h he) h1 ha
  exact All2.map_right.2 (h2.mono fun _ _ h => PTRel.tv h)
theorem callDGK_f0 {P : Program} {gs : List (Option Nat)} {n0 i : Nat} {d : Option Tmp} {op : BinOp} {t t' : TypeId} {x y : Operand} {ty : TypeId} {pos : String} {aft : Array Edge} {g : Option (Nat × Bool)} {os : List Oper} {s : AS} {lg : Lg} {K : Lg → AS → Prop} (h : arunD P gs n0 (i + 1) os (s.put d .any) ((none, ftF s ⟨d, .binOp op t x y t', ty, pos, aft, g⟩) :: lg) K) :
    callDGK P gs n0 i false ⟨d, .binOp op t x y t', ty, pos, aft, g⟩ os s lg K := by
  unfold callDGK callDG
  exact ⟨fun h => (by cases h), fun _ => h⟩
theorem callGK_f0 {P : Program} {gs : List (Option Nat)} {d : Option Tmp} {op : BinOp} {t t' : TypeId} {x y : Operand} {ty : TypeId} {pos : String} {aft : Array Edge} {g : Option (Nat × Bool)} {os : List Oper} {s : AS} {K : AS → Prop} (h : arun P gs os (s.put d .any) K) :
    callGK P gs false ⟨d, .binOp op t x y t', ty, pos, aft, g⟩ os s K := by
  unfold callGK callG
  exact Or.inr ⟨fun h => (by cases h), fun _ => h⟩
/-- A block of n cells of which nothing is told. -/
def anyC (n : Nat) : List CV := List.replicate n .any
theorem anyC_len (n : Nat) : (anyC n).length = n := by simp [anyC]
theorem wkC_any {ok : Nat → Prop} : ∀ {l : List CV} {n : Nat}, l.length = n → wkC ok l (anyC n)
  | [], _, rfl => trivial
  | c :: l, _, rfl => ⟨Or.inl rfl, wkC_any (l := l) rfl⟩
theorem rowV_out {f : Nat → IV} {n k : Nat} (h : n ≤ k) : (rowV f n).getD k .any = .any := by
  rw [List.getD, List.getElem?_eq_none (by rw [rowV_len]; exact h)]
  rfl
end Go.Sea
/- Families of own blocks: many blocks of one shape, at the end of the own memory. -/
namespace Go.Sea
open Go.RowKit

/-- The block a is named b. -/
def LV.mv (a b : Nat) : LV → LV
  | .ptr k o => .ptr (if k = a then b else k) o
  | .mp k => .mp (if k = a then b else k)
  | c => c
def CV.mv (a b : Nat) : CV → CV
  | .slc k off n E => .slc (if k = a then b else k) off n E
  | .ptr k o => .ptr (if k = a then b else k) o
  | .fn f x y => .fn f (x.map (LV.mv a b)) (y.map (LV.mv a b))
  | .mp k => .mp (if k = a then b else k)
  | .it k => .it (if k = a then b else k)
  | .ml l => .ml (l.map fun x => (x.1, x.2.1, x.2.2.1.map (LV.mv a b), x.2.2.2.map (LV.mv a b)))
  | .mt j c p q => .mt (if j = a then b else j) c p q
  | c => c
def TV.mv (a b : Nat) : TV → TV
  | .one c => .one (c.mv a b)
  | .agg cs => .agg (cs.map (CV.mv a b))
def AV.mv (a b : Nat) : AV → AV
  | .t x => .t (x.mv a b)
  | .tup xs => .tup (xs.map (TV.mv a b))
  | .mb c x => .mb c (x.mv a b)
  | .any => .any
def mvE (a b : Nat) (e : List (Nat × AV)) : List (Nat × AV) := e.map fun p => (p.1, p.2.mv a b)
def mvG (a b : Nat) (g : List (Nat × List (Nat × AV))) : List (Nat × List (Nat × AV)) := g.map fun p => (p.1, mvE a b p.2)
def mvO (a b : Nat) (o : Option (List CV)) : Option (List CV) := o.map (List.map (CV.mv a b))
def mvH (a b : Nat) (h : List (Option (List CV))) : List (Option (List CV)) := hdel (h.map (mvO a b)) a ++ [mvO a b (hget h a)]
def AS.mv (a b : Nat) (s : AS) : AS := ⟨mvE a b s.env, mvH a b s.heap, s.N, mvG a b s.gh, s.lp⟩
theorem lk_mv (a b t : Nat) : ∀ env : List (Nat × AV), lk (mvE a b env) t = (lk env t).mv a b
  | [] => rfl
  | (k, v) :: r => by
    simp only [mvE, List.map_cons, lk]
    split
    · rfl
    · exact lk_mv a b t r
theorem gf_mv (a b f : Nat) : ∀ g : List (Nat × List (Nat × AV)), gf (mvG a b g) f = mvE a b (gf g f)
  | [] => rfl
  | (k, v) :: r => by
    simp only [mvG, List.map_cons, gf]
    split
    · rfl
    · exact gf_mv a b f r
theorem hdel_len : ∀ (h : List (Option (List CV))) (i : Nat), (hdel h i).length = h.length
  | [], i => by simp [hdel]
  | x :: h, 0 => by simp [hdel]
  | x :: h, i + 1 => by simp [hdel, hdel_len h i]
theorem hget_mv (a : Nat) (h : List (Option (List CV))) (k : Nat) : hget (mvH a h.length h) k = if k = h.length then mvO a h.length (hget h a) else if k = a then none else mvO a h.length (hget h k) := by
  unfold mvH
  have hl : (hdel (h.map (mvO a h.length)) a).length = h.length := by rw [hdel_len, List.length_map]
  by_cases hk : k = h.length
  · rw [if_pos hk]
    subst hk
    unfold hget
    rw [List.getElem?_append_right (by omega), hl]
    simp
  · rw [if_neg hk]
    have e1 : hget (hdel (h.map (mvO a h.length)) a ++ [mvO a h.length (hget h a)]) k = hget (hdel (h.map (mvO a h.length)) a) k := by
      unfold hget
      by_cases hlt : k < h.length
      · rw [List.getElem?_append_left (by omega)]
      · rw [List.getElem?_eq_none (by simp [hl]; omega), List.getElem?_eq_none (by omega)]
    rw [e1, hget_hdel]
    by_cases ha : k = a
    · rw [if_pos ha, if_pos ha]
    · rw [if_neg ha, if_neg ha]
      unfold hget mvO
      rw [List.getElem?_map]
      cases h[k]? <;> rfl
section
variable {w0 : World} {Z0 : Fr} {J J' : Nat → Option Nat} {Z : Nat → Prop} {s : AS} {ac : Act} {w : World} {a b : Nat}
theorem LRel.mv (hJ : ∀ k x, J k = some x → J' (if k = a then b else k) = some x) {v : Value} {l : LV} (h : LRel w J Z v l) : LRel w J' Z v (l.mv a b) := by
  cases l with
  | iv c => exact h
  | ptr k o => obtain ⟨x, e, hx, ho⟩ := h; exact ⟨x, e, hJ k x hx, ho⟩
  | mp k => obtain ⟨x, e, hx⟩ := h; exact ⟨x, e, hJ k x hx⟩
theorem CRel.mv (hJ : ∀ k x, J k = some x → J' (if k = a then b else k) = some x) {v : Value} {c : CV} (h : CRel w J Z v c) : CRel w J' Z v (c.mv a b) := by
  cases c with
  | iv c => exact h
  | ip m c => exact h
  | slc k off n E =>
    rcases h with h | ⟨x, cap, c, e, hv, hx, r⟩
    · exact Or.inl h
    · exact Or.inr ⟨x, cap, c, e, hv, hJ k x hx, r⟩
  | ptr k o => obtain ⟨x, e, hx, ho⟩ := h; exact ⟨x, e, hJ k x hx, ho⟩
  | mp k => obtain ⟨x, e, hx⟩ := h; exact ⟨x, e, hJ k x hx⟩
  | it k => obtain ⟨x, e, hx⟩ := h; exact ⟨x, e, hJ k x hx⟩
  | mi => exact h.elim
  | ml => exact h.elim
  | mt => exact h.elim
  | fn f x y =>
    obtain ⟨A, B, e, h1, h2⟩ := h
    exact ⟨A, B, e, All2.map_right.2 (h1.mono fun _ _ => LRel.mv hJ), All2.map_right.2 (h2.mono fun _ _ => LRel.mv hJ)⟩
  | any => exact h
theorem Blk.mv (hJ : ∀ k x, J k = some x → J' (if k = a then b else k) = some x) {c : Nat} {cs : List CV} (h : Blk w J Z c cs) : Blk w J' Z c (cs.map (CV.mv a b)) := by
  unfold Blk at h
  split at h
  · obtain ⟨rfl, h⟩ := h
    exact ⟨rfl, h⟩
  · obtain ⟨rfl, es, clock, h1, h2, h3⟩ := h
    exact ⟨rfl, es, clock, h1, h2, (All2.map_right (f := fun x : Int × Fn × List LV × List LV => (x.1, x.2.1, x.2.2.1.map (LV.mv a b), x.2.2.2.map (LV.mv a b)))).2 (h3.mono fun _ _ hr => ⟨hr.1, CRel.mv hJ hr.2⟩)⟩
  · obtain ⟨rfl, m, seen, es, clock, h1, h2, h3⟩ := h
    exact ⟨rfl, m, seen, es, clock, h1, hJ _ _ h2, h3⟩
  · rcases h with ⟨c, e, h1, h2⟩ | ⟨⟨o, h1, h2⟩, h3⟩
    · refine Blk.of h1 ?_
      rw [List.length_map]
      exact All2.map_right.2 (h2.mono fun _ _ => CRel.mv hJ)
    · refine Blk.dead h1 h2 fun c hc => ?_
      obtain ⟨c', hc', rfl⟩ := List.mem_map.1 hc
      rw [h3 c' hc']; rfl
theorem TRel.mv (hJ : ∀ k x, J k = some x → J' (if k = a then b else k) = some x) {v : Value} {c : TV} (h : TRel w J Z v c) : TRel w J' Z v (c.mv a b) := by
  cases c with
  | one c => exact CRel.mv hJ h
  | agg cs => obtain ⟨A, e, h⟩ := h; exact ⟨A, e, All2.map_right.2 (h.mono fun _ _ => CRel.mv hJ)⟩
theorem ARel.mv (hJ : ∀ k x, J k = some x → J' (if k = a then b else k) = some x) {v : Value} {c : AV} (h : ARel w J Z v c) : ARel w J' Z v (c.mv a b) := by
  cases c with
  | t x => exact TRel.mv hJ h
  | tup xs => obtain ⟨A, e, h⟩ := h; exact ⟨A, e, All2.map_right.2 (h.mono fun _ _ => TRel.mv hJ)⟩
  | mb c x => exact ⟨fun hc => TRel.mv hJ (h.1 hc), h.2⟩
  | any => trivial
theorem Rel.mv (R : Rel w0 Z0 J Z s ac w) (ha : (hget s.heap a).isSome = true) : Rel w0 Z0 (fun k => if k = s.heap.length then J a else if k = a then none else J k) Z (s.mv a s.heap.length) ac w := by
  have hla : a < s.heap.length := by
    refine Nat.lt_of_not_le fun h => ?_
    rw [hget_ge _ _ h] at ha
    cases ha
  have hJ : ∀ k x, J k = some x → (fun k => if k = s.heap.length then J a else if k = a then none else J k) (if k = a then s.heap.length else k) = some x := fun k x hx => by
    by_cases h : k = a
    · subst h; simp [hx]
    · simp only [if_neg h]
      rw [if_neg]
      · exact hx
      · rintro rfl
        rw [R.hole _ (hget_ge _ _ (Nat.le_refl _))] at hx
        cases hx
  have sub : ∀ k x, (if k = s.heap.length then J a else if k = a then none else J k) = some x → ∃ q, J q = some x ∧ ((k = s.heap.length ∧ q = a) ∨ (k ≠ s.heap.length ∧ k ≠ a ∧ q = k)) := fun k x h => by
    split at h
    · rename_i e; exact ⟨a, h, Or.inl ⟨e, rfl⟩⟩
    · rename_i e1
      split at h
      · cases h
      · rename_i e2; exact ⟨k, h, Or.inr ⟨e1, e2, rfl⟩⟩
  refine ⟨R.nodef, R.size, R.below, R.zfrom, R.zlt, fun k x h => ?_, fun k j x hk hj => ?_, fun k h => ?_, fun k cs h hne => ?_, fun t => ?_, fun f t => ?_, R.loops, R.lnd, R.ro⟩
  · obtain ⟨q, hq, _⟩ := sub k x h
    exact R.jlt q x hq
  · obtain ⟨q1, h1, e1⟩ := sub k x hk
    obtain ⟨q2, h2, e2⟩ := sub j x hj
    have := R.inj q1 q2 x h1 h2
    omega
  · simp only [AS.mv] at h
    rw [hget_mv] at h
    by_cases h1 : k = s.heap.length
    · rw [if_pos h1] at h
      cases hc : hget s.heap a with
      | none => rw [hc] at ha; cases ha
      | some cs => rw [hc] at h; simp [mvO] at h
    · rw [if_neg h1] at h ⊢
      by_cases h2 : k = a
      · rw [if_pos h2]
      · rw [if_neg h2] at h ⊢
        refine R.hole k ?_
        cases hc : hget s.heap k with
        | none => rfl
        | some cs => rw [hc] at h; simp [mvO] at h
  · simp only [AS.mv] at h
    rw [hget_mv] at h
    have one : ∀ q, mvO a s.heap.length (hget s.heap q) = some cs → ∃ b, J q = some b ∧ Blk w (fun k => if k = s.heap.length then J a else if k = a then none else J k) Z b cs := fun q hq => by
      cases hc : hget s.heap q with
      | none => rw [hc] at hq; simp [mvO] at hq
      | some c0 =>
        rw [hc] at hq
        simp only [mvO, Option.map_some, Option.some.injEq] at hq
        subst hq
        obtain ⟨b, g1, g2⟩ := R.blk q c0 hc (by rintro rfl; exact hne rfl)
        exact ⟨b, g1, g2.mv hJ⟩
    by_cases h1 : k = s.heap.length
    · rw [if_pos h1] at h
      obtain ⟨b, g1, g2⟩ := one a h
      exact ⟨b, by rw [if_pos h1]; exact g1, g2⟩
    · rw [if_neg h1] at h
      by_cases h2 : k = a
      · rw [if_pos h2] at h; cases h
      · rw [if_neg h2] at h
        obtain ⟨b, g1, g2⟩ := one k h
        exact ⟨b, by rw [if_neg h1, if_neg h2]; exact g1, g2⟩
  · show ARel _ _ _ _ (lk (mvE a s.heap.length s.env) t)
    rw [lk_mv]; exact ARel.mv hJ (R.slots t)
  · show ARel _ _ _ _ (lk (gf (mvG a s.heap.length s.gh) f) t)
    rw [gf_mv, lk_mv]; exact ARel.mv hJ (R.ghost f t)
end
/-- A block is moved to the end of the own memory. -/
theorem AW_mv {P : Program} {c : Code} {s : AS} {Q : Exit → AS → Prop} (a b : Nat) (hb : b = s.heap.length) (ha : (hget s.heap a).isSome = true) (h : AW P c (s.mv a b) Q) : AW P c s Q := by
  subst hb
  exact fun w0 Z0 ac w n ⟨J, Z, R⟩ => h w0 Z0 ac w n ⟨_, Z, R.mv ha⟩

/-- The cells that name a family's blocks. -/
def rowsC (b n : Nat) : List CV := (List.range n).map fun k => .slc (k + b) 0 64 1
/-- A family of n blocks of 64 immutable cells. -/
def famL (F : Nat → Nat → IV) (n : Nat) : List (Option (List CV)) := (List.range n).map fun k => some (rowV (F k) 64)
def updF (F : Nat → Nat → IV) (i : Nat) (g : Nat → IV) (k : Nat) : Nat → IV := if k = i then g else F k
section
variable (F G : Nat → Nat → IV) (n k a b : Nat)
theorem rowsC_len : (rowsC b n).length = n := by simp [rowsC]
theorem famL_len : (famL F n).length = n := by simp [famL]
theorem famL_zero : famL F 0 = [] := rfl
theorem rowsC_at {b n k : Nat} (h : k < n) : (rowsC b n)[k]? = some (.slc (k + b) 0 64 1) := by simp [rowsC, h]
theorem rowsC_get {b n k : Nat} (h : k < n) : (rowsC b n).getD k .any = .slc (k + b) 0 64 1 := by simp [List.getD, rowsC_at h]
theorem famL_at {F : Nat → Nat → IV} {n k : Nat} (h : k < n) : (famL F n)[k]? = some (some (rowV (F k) 64)) := by simp [famL, h]
theorem famL_get {F : Nat → Nat → IV} {n k : Nat} (h : k < n) : hget (famL F n) k = some (rowV (F k) 64) := by unfold hget; rw [famL_at h]; rfl
theorem rowsC_snoc : rowsC b n ++ [.slc (n + b) 0 64 1] = rowsC b (n + 1) := by simp [rowsC, List.range_succ]
theorem famL_snoc : famL F n ++ [some (rowV (F n) 64)] = famL F (n + 1) := by simp [famL, List.range_succ]
theorem famL_ext {l : List (Option (List CV))} (hl : l.length = n) (h : ∀ j, j < n → l[j]? = some (some (rowV (F j) 64))) : l = famL F n := by
  refine List.ext_getElem? fun j => ?_
  by_cases hj : j < n
  · rw [h j hj, famL_at hj]
  · rw [List.getElem?_eq_none (by omega), List.getElem?_eq_none (by rw [famL_len]; omega)]
theorem hset_len : ∀ (h : List (Option (List CV))) (i : Nat) (x : List CV), i < h.length → (hset h i x).length = h.length
  | [], i, x, hi => by simp at hi
  | y :: h, 0, x, _ => rfl
  | y :: h, i + 1, x, hi => by simp [hset, hset_len h i x (by simpa using hi)]
theorem hset_at : ∀ (h : List (Option (List CV))) (i k : Nat) (x : List CV), i < h.length → (hset h i x)[k]? = if k = i then some (some x) else h[k]?
  | [], i, k, x, hi => by simp at hi
  | y :: h, 0, 0, x, _ => rfl
  | y :: h, 0, k + 1, x, _ => by simp [hset]
  | y :: h, i + 1, 0, x, _ => by simp [hset]
  | y :: h, i + 1, k + 1, x, hi => by simp [hset, hset_at h i k x (by simpa using hi)]
theorem famL_set {F : Nat → Nat → IV} {n k : Nat} (h : k < n) (g : Nat → IV) : hset (famL F n) k (rowV g 64) = famL (updF F k g) n := by
  refine famL_ext _ _ (by rw [hset_len _ _ _ (by rw [famL_len]; exact h), famL_len]) fun j hj => ?_
  rw [hset_at _ _ _ _ (by rw [famL_len]; exact h)]
  by_cases e : j = k
  · rw [if_pos e, e]; simp [updF]
  · rw [if_neg e, famL_at hj]; simp [updF, e]
theorem famL_purge : List.map (fun o => Option.map (purgeC a) o) (famL F n) = famL F n := by
  refine famL_ext _ _ (by simp [famL_len]) fun j hj => ?_
  rw [List.getElem?_map, famL_at hj]
  simp [purgeC, rowV_pur]
theorem rowV_mv (f : Nat → IV) : List.map (CV.mv a b) (rowV f n) = rowV f n := by
  refine (List.map_congr_left fun c hc => ?_).trans (List.map_id _)
  have := rowV_iv f n c hc
  cases c <;> first | rfl | exact this.elim
theorem famL_mv : List.map (mvO a b) (famL F n) = famL F n := by
  refine famL_ext _ _ (by simp [famL_len]) fun j hj => ?_
  rw [List.getElem?_map, famL_at hj]
  simp [mvO, rowV_mv]
theorem rowsC_mv {a b B n : Nat} (h : a < B) : List.map (CV.mv a b) (rowsC B n) = rowsC B n := by
  unfold rowsC
  rw [List.map_map]
  refine List.map_congr_left fun j hj => ?_
  simp only [Function.comp, CV.mv]
  rw [if_neg (by omega)]
theorem rowsC_pur {a B n : Nat} (h : a < B) : List.map (CV.purge a) (rowsC B n) = rowsC B n := by
  unfold rowsC
  rw [List.map_map]
  refine List.map_congr_left fun j hj => ?_
  have : (j + B == a) = false := beq_eq_false_iff_ne.2 (by omega)
  simp only [Function.comp, CV.purge, CV.has, this, cond_false]
theorem wkH_fam {ok : Nat → Prop} {F G : Nat → Nat → IV} (h : ∀ k, k < n → ∀ j, j < 64 → (F k j).eqv (G k j)) : wkH ok (famL F n) (famL G n) := by
  have key : ∀ (l : List Nat), (∀ k, k ∈ l → k < n) → wkH ok (l.map fun k => some (rowV (F k) 64)) (l.map fun k => some (rowV (G k) 64)) := fun l => by
    induction l with
    | nil => intro _; trivial
    | cons x l ih => exact fun hl => ⟨wkC_row 64 (h x (hl x (by simp))), ih fun k hk => hl k (by simp [hk])⟩
  exact key _ fun k hk => List.mem_range.1 hk
theorem wkH_famR {ok : Nat → Prop} : wkH ok (famL F n) (famL F n) := wkH_fam n fun k _ j _ => IV.eqv_refl _
/-- The outer block, weakened to itself. -/
theorem wkC_rows {H : List (Option (List CV))} {b n : Nat} (h : ∀ k, k < n → (hget H (k + b)).isSome = true) : wkC (okB H) (rowsC b n) (rowsC b n) := by
  refine wkC_refl _ fun c hc => ?_
  obtain ⟨k, hk, rfl⟩ := List.mem_map.1 hc
  exact h k (List.mem_range.1 hk)
theorem okB_fam {F : Nat → Nat → IV} {n k : Nat} (h : k < n) : (hget (famL F n) k).isSome = true := by rw [famL_get h]; rfl
end
def nextF {ι : Type} (N : Nat) (lp : LP) (g : List (Nat × List (Nat × AV))) (C : ι → List (Nat × AV)) (H : ι → List (Option (List CV))) (I : ι → Prop) (μ : ι → Nat) (e : List (Nat × AV)) (U : List Nat) (i j : ι) (s' : AS) : Prop :=
  N = s'.N ∧ lp = s'.lp ∧ g = s'.gh ∧ I j ∧ μ j < μ i ∧ okL (H j) s'.env (C j ++ keepE e U) ∧ wkH (okB (H j)) s'.heap (H j)
/-- A loop; the whole own memory is told. -/
theorem AW_loopF {P : Program} {s : AS} {Q : Exit → AS → Prop} {c : Code} {ι : Type} (U : List Nat) (C : ι → List (Nat × AV)) (H : ι → List (Option (List CV))) (I : ι → Prop) (μ : ι → Nat) (i0 : ι)
    (hg : ∀ i, I i → Told (okGL (H i) s.gh s.gh)) (h1 : Told (okL (H i0) s.env (C i0 ++ keepE s.env U))) (h2 : Told (wkH (okB (H i0)) s.heap (H i0))) (hi : I i0)
    (round : ∀ i, I i → ∀ K : AS → Prop, (∀ s' j, Told (nextF s.N s.lp s.gh C H I μ s.env U i j s') → K s') → AW P c ⟨C i ++ keepE s.env U, H i, s.N, s.gh, s.lp⟩ (thenA K Q)) : AW P (.loop c) s Q := by
  refine AW_loopG (fun i => C i ++ keepE s.env U) (fun _ => s.gh) H I μ i0 rfl rfl (hg i0 hi).out h1.out h2.out hi fun i hI => ?_
  refine round i hI _ fun s' j h => ?_
  obtain ⟨g1, g2, g3, g4, g5, g6, g7⟩ := h.out
  exact ⟨g1, g2, j, g4, g5, g3 ▸ (hg j g4).out, g6, g7⟩
/-- Slots and blocks are forgotten. -/
theorem AW_lit {P : Program} {s : AS} {Q : Exit → AS → Prop} {c : Code} (U : List Nat) (H : List (Option (List CV))) (hg : Told (okGL H s.gh s.gh)) (h1 : Told (okL H s.env (keepE s.env U))) (h2 : Told (wkH (okB H) s.heap H)) (h : AW P c ⟨keepE s.env U, H, s.N, s.gh, s.lp⟩ Q) : AW P c s Q :=
  AW_weak (Weak.lit rfl rfl hg.out h1.out h2.out) h
/-- Waiting frames that name blocks of H alone. -/
def GOk (H : List (Option (List CV))) (g : List (Nat × List (Nat × AV))) : Prop := ∀ p, p ∈ g → ∀ q, q ∈ p.2 → q.2.ok (okB H)
theorem LV.ok_mono {p q : Nat → Prop} (h : ∀ i, p i → q i) {c : LV} (hc : c.ok p) : c.ok q := by cases c <;> first | trivial | exact h _ hc
theorem CV.ok_mono {p q : Nat → Prop} (h : ∀ i, p i → q i) {c : CV} (hc : c.ok p) : c.ok q := by
  cases c <;> first | trivial | exact h _ hc | exact ⟨fun l hl => LV.ok_mono h (hc.1 l hl), fun l hl => LV.ok_mono h (hc.2 l hl)⟩ | exact fun x hx => ⟨fun l hl => LV.ok_mono h ((hc x hx).1 l hl), fun l hl => LV.ok_mono h ((hc x hx).2 l hl)⟩
theorem TV.ok_mono {p q : Nat → Prop} (h : ∀ i, p i → q i) {c : TV} (hc : c.ok p) : c.ok q := by
  cases c with
  | one c => exact CV.ok_mono h hc
  | agg cs => exact fun c hm => CV.ok_mono h (hc c hm)
theorem AV.ok_mono {p q : Nat → Prop} (h : ∀ i, p i → q i) {c : AV} (hc : c.ok p) : c.ok q := by
  cases c with
  | t x => exact TV.ok_mono h hc
  | tup xs => exact fun c hm => TV.ok_mono h (hc c hm)
  | mb b x => exact TV.ok_mono h hc
  | any => trivial
theorem GOk.mono {H H' : List (Option (List CV))} {g : List (Nat × List (Nat × AV))} (h : GOk H g) (hs : ∀ i, okB H i → okB H' i) : GOk H' g := fun p hp q hq => AV.ok_mono hs (h p hp q hq)
/-- All blocks of the one are blocks of the other. -/
def subH : List (Option (List CV)) → List (Option (List CV)) → Prop
  | [], _ => True
  | none :: h, [] => subH h []
  | some _ :: _, [] => False
  | none :: h, _ :: h' => subH h h'
  | some _ :: h, some _ :: h' => subH h h'
  | some _ :: _, none :: _ => False
theorem subH_spec : ∀ {h h' : List (Option (List CV))}, subH h h' → ∀ i, okB h i → okB h' i
  | [], _, _, i, hi => by simp [okB, hget] at hi
  | none :: h, [], H, 0, hi => by simp [okB, hget] at hi
  | none :: h, [], H, i + 1, hi => by
    unfold okB at hi
    rw [hget_succ] at hi
    have := subH_spec (h := h) (h' := []) H i hi
    simp [okB, hget] at this
  | some _ :: _, [], H, _, _ => H.elim
  | none :: h, y :: h', H, 0, hi => by simp [okB, hget] at hi
  | none :: h, y :: h', H, i + 1, hi => by unfold okB at hi ⊢; rw [hget_succ] at hi ⊢; exact subH_spec (h := h) (h' := h') H i hi
  | some _ :: h, some _ :: h', H, 0, hi => by simp [okB, hget]
  | some _ :: h, some _ :: h', H, i + 1, hi => by unfold okB at hi ⊢; rw [hget_succ] at hi ⊢; exact subH_spec (h := h) (h' := h') H i hi
  | some _ :: _, none :: _, H, _, _ => H.elim
theorem subH_fam {F G : Nat → Nat → IV} (n : Nat) : subH (famL F n) (famL G n) := by
  have key : ∀ l : List Nat, subH (l.map fun k => some (rowV (F k) 64)) (l.map fun k => some (rowV (G k) 64)) := fun l => by
    induction l with
    | nil => trivial
    | cons x l ih => exact ih
  exact key _
theorem CV.no_has {p : Nat → Prop} {i : Nat} (hi : ¬ p i) {c : CV} (hc : c.ok p) : c.has i = false := by
  cases c with
  | slc j off n E => exact beq_eq_false_iff_ne.2 fun e => hi (e ▸ hc)
  | ptr j o => exact beq_eq_false_iff_ne.2 fun e => hi (e ▸ hc)
  | mp j => exact beq_eq_false_iff_ne.2 fun e => hi (e ▸ hc)
  | it j => exact beq_eq_false_iff_ne.2 fun e => hi (e ▸ hc)
  | mt j c p q => exact beq_eq_false_iff_ne.2 fun e => hi (e ▸ hc)
  | ml l =>
    refine List.any_eq_false.2 fun x hx => ?_
    rw [Bool.not_eq_true]
    refine Bool.or_eq_false_iff.2 ⟨List.any_eq_false.2 fun l hl => ?_, List.any_eq_false.2 fun l hl => ?_⟩
    · have := (hc x hx).1 l hl
      cases l with
      | iv c => simp [LV.has]
      | ptr j o => simp only [LV.has, beq_iff_eq]; exact fun e => hi (e ▸ this)
      | mp j => simp only [LV.has, beq_iff_eq]; exact fun e => hi (e ▸ this)
    · have := (hc x hx).2 l hl
      cases l with
      | iv c => simp [LV.has]
      | ptr j o => simp only [LV.has, beq_iff_eq]; exact fun e => hi (e ▸ this)
      | mp j => simp only [LV.has, beq_iff_eq]; exact fun e => hi (e ▸ this)
  | fn f a b =>
    refine Bool.or_eq_false_iff.2 ⟨List.any_eq_false.2 fun l hl => ?_, List.any_eq_false.2 fun l hl => ?_⟩
    · have := hc.1 l hl
      cases l with
      | iv c => simp [LV.has]
      | ptr j o => simp only [LV.has, beq_iff_eq]; exact fun e => hi (e ▸ this)
      | mp j => simp only [LV.has, beq_iff_eq]; exact fun e => hi (e ▸ this)
    · have := hc.2 l hl
      cases l with
      | iv c => simp [LV.has]
      | ptr j o => simp only [LV.has, beq_iff_eq]; exact fun e => hi (e ▸ this)
      | mp j => simp only [LV.has, beq_iff_eq]; exact fun e => hi (e ▸ this)
  | _ => rfl
theorem TV.no_has {p : Nat → Prop} {i : Nat} (hi : ¬ p i) {c : TV} (hc : c.ok p) : c.has i = false := by
  cases c with
  | one c => exact CV.no_has hi hc
  | agg cs => exact List.any_eq_false.2 fun c hm => by simp [CV.no_has hi (hc c hm)]
theorem AV.no_has {p : Nat → Prop} {i : Nat} (hi : ¬ p i) {c : AV} (hc : c.ok p) : c.has i = false := by
  cases c with
  | t x => exact TV.no_has hi hc
  | tup xs => exact List.any_eq_false.2 fun c hm => by simp [TV.no_has hi (hc c hm)]
  | mb b x => exact TV.no_has hi hc
  | any => rfl
theorem LV.mv_no {p : Nat → Prop} {i b : Nat} (hi : ¬ p i) {c : LV} (hc : c.ok p) : c.mv i b = c := by
  cases c with
  | iv c => rfl
  | ptr k o => simp only [LV.mv]; rw [if_neg]; rintro rfl; exact hi hc
  | mp k => simp only [LV.mv]; rw [if_neg]; rintro rfl; exact hi hc
theorem CV.mv_no {p : Nat → Prop} {i b : Nat} (hi : ¬ p i) {c : CV} (hc : c.ok p) : c.mv i b = c := by
  cases c with
  | slc k off n E => simp only [CV.mv]; rw [if_neg]; rintro rfl; exact hi hc
  | ptr k o => simp only [CV.mv]; rw [if_neg]; rintro rfl; exact hi hc
  | mp k => simp only [CV.mv]; rw [if_neg]; rintro rfl; exact hi hc
  | it k => simp only [CV.mv]; rw [if_neg]; rintro rfl; exact hi hc
  | mt k c p q => simp only [CV.mv]; rw [if_neg]; rintro rfl; exact hi hc
  | ml l =>
    simp only [CV.mv]
    congr 1
    refine (List.map_congr_left fun x hx => ?_).trans (List.map_id _)
    rw [(List.map_congr_left fun l hl => LV.mv_no hi ((hc x hx).1 l hl)).trans (List.map_id _), (List.map_congr_left fun l hl => LV.mv_no hi ((hc x hx).2 l hl)).trans (List.map_id _)]
    rfl
  | fn f x y =>
    simp only [CV.mv]
    rw [(List.map_congr_left fun l hl => LV.mv_no hi (hc.1 l hl)).trans (List.map_id _), (List.map_congr_left fun l hl => LV.mv_no hi (hc.2 l hl)).trans (List.map_id _)]
  | _ => rfl
theorem TV.mv_no {p : Nat → Prop} {i b : Nat} (hi : ¬ p i) {c : TV} (hc : c.ok p) : c.mv i b = c := by
  cases c with
  | one c => simp only [TV.mv]; rw [CV.mv_no hi hc]
  | agg cs => simp only [TV.mv]; rw [(List.map_congr_left fun l hl => CV.mv_no hi (hc l hl)).trans (List.map_id _)]
theorem AV.mv_no {p : Nat → Prop} {i b : Nat} (hi : ¬ p i) {c : AV} (hc : c.ok p) : c.mv i b = c := by
  cases c with
  | t x => simp only [AV.mv]; rw [TV.mv_no hi hc]
  | tup xs => simp only [AV.mv]; rw [(List.map_congr_left fun l hl => TV.mv_no hi (hc l hl)).trans (List.map_id _)]
  | mb b x => simp only [AV.mv]; rw [TV.mv_no hi hc]
  | any => rfl
theorem GOk.purge {H : List (Option (List CV))} {g : List (Nat × List (Nat × AV))} (h : GOk H g) {i : Nat} (hi : hget H i = none) : purgeG i g = g := by
  refine (List.map_congr_left fun p hp => ?_).trans (List.map_id _)
  have : purgeE i p.2 = p.2 := (List.map_congr_left fun q hq => by
    have hn : ¬ okB H i := by unfold okB; rw [hi]; simp
    simp only [AV.purge, AV.no_has hn (h p hp q hq), cond_false]
    rfl).trans (List.map_id _)
  rw [this]; rfl
theorem GOk.mv {H : List (Option (List CV))} {g : List (Nat × List (Nat × AV))} (h : GOk H g) {i : Nat} (hi : hget H i = none) (b : Nat) : mvG i b g = g := by
  refine (List.map_congr_left fun p hp => ?_).trans (List.map_id _)
  have : mvE i b p.2 = p.2 := (List.map_congr_left fun q hq => by
    have hn : ¬ okB H i := by unfold okB; rw [hi]; simp
    rw [AV.mv_no hn (h p hp q hq)]
    rfl).trans (List.map_id _)
  rw [this]; rfl
theorem purgeG_nil (i : Nat) : purgeG i [] = [] := rfl
theorem purgeG_cons (i f : Nat) (e : List (Nat × AV)) (g : List (Nat × List (Nat × AV))) : purgeG i ((f, e) :: g) = (f, purgeE i e) :: purgeG i g := rfl
theorem mvG_nil (a b : Nat) : mvG a b [] = [] := rfl
theorem mvG_cons (a b f : Nat) (e : List (Nat × AV)) (g : List (Nat × List (Nat × AV))) : mvG a b ((f, e) :: g) = (f, mvE a b e) :: mvG a b g := rfl
theorem lk_mem : ∀ (e : List (Nat × AV)) (t : Nat), lk e t = .any ∨ ∃ p, p ∈ e ∧ lk e t = p.2
  | [], _ => Or.inl rfl
  | (k, v) :: r, t => by
    simp only [lk]
    split
    · exact Or.inr ⟨(k, v), by simp, rfl⟩
    · rcases lk_mem r t with h | ⟨p, hp, h⟩
      · exact Or.inl h
      · exact Or.inr ⟨p, by simp [hp], h⟩
theorem gf_mem : ∀ (g : List (Nat × List (Nat × AV))) (f : Nat), gf g f = [] ∨ ∃ p, p ∈ g ∧ gf g f = p.2
  | [], _ => Or.inl rfl
  | (k, v) :: r, t => by
    simp only [gf]
    split
    · exact Or.inr ⟨(k, v), by simp, rfl⟩
    · rcases gf_mem r t with h | ⟨p, hp, h⟩
      · exact Or.inl h
      · exact Or.inr ⟨p, by simp [hp], h⟩
theorem GOk.wk {H : List (Option (List CV))} {g : List (Nat × List (Nat × AV))} (h : GOk H g) (f t : Nat) : wkA (fun i => (hget H i).isSome = true) (gk g f t) (gk g f t) := by
  refine Or.inr (Or.inl ⟨rfl, ?_⟩)
  show (lk (gf g f) t).ok _
  rcases gf_mem g f with e | ⟨p, hp, e⟩
  · rw [e]; trivial
  · rw [e]
    rcases lk_mem p.2 t with e' | ⟨q, hq, e'⟩
    · rw [e']; trivial
    · rw [e']; exact h p hp q hq
theorem Weak.litG {s : AS} {E : List (Nat × AV)} {H : List (Option (List CV))} (hg : GOk H s.gh) (h1 : okL H s.env E) (h2 : wkH (okB H) s.heap H) : Weak s ⟨E, H, s.N, s.gh, s.lp⟩ :=
  ⟨rfl, okE_lk (okL_E h1), fun f t => hg.wk f t, rfl, wkH_spec h2⟩
/-- A loop; the whole own memory is told; the waiting frames name blocks that stay. -/
theorem AW_loopF' {P : Program} {s : AS} {Q : Exit → AS → Prop} {c : Code} {ι : Type} (U : List Nat) (C : ι → List (Nat × AV)) (H : ι → List (Option (List CV))) (I : ι → Prop) (μ : ι → Nat) (i0 : ι)
    (hg : ∀ i, I i → GOk (H i) s.gh) (h1 : Told (okL (H i0) s.env (C i0 ++ keepE s.env U))) (h2 : Told (wkH (okB (H i0)) s.heap (H i0))) (hi : I i0)
    (round : ∀ i, I i → ∀ K : AS → Prop, (∀ s' j, Told (nextF s.N s.lp s.gh C H I μ s.env U i j s') → K s') → AW P c ⟨C i ++ keepE s.env U, H i, s.N, s.gh, s.lp⟩ (thenA K Q)) : AW P (.loop c) s Q := by
  refine AW_loop (fun n s' => ∃ i, I i ∧ n = μ i ∧ s' = ⟨C i ++ keepE s.env U, H i, s.N, s.gh, s.lp⟩) (μ i0) ⟨_, Weak.litG (hg i0 hi) h1.out h2.out, i0, hi, rfl, rfl⟩ ?_
  rintro n s' ⟨i, hI, rfl, rfl⟩
  refine (round i hI (fun s' => ∃ m s1, m < μ i ∧ Weak s' s1 ∧ ∃ i, I i ∧ m = μ i ∧ s1 = ⟨C i ++ keepE s.env U, H i, s.N, s.gh, s.lp⟩) fun s' j h => ?_)
  obtain ⟨g1, g2, g3, g4, g5, g6, g7⟩ := h.out
  refine ⟨μ j, _, g5, ?_, j, g4, rfl, rfl⟩
  have := Weak.litG (s := s') (E := C j ++ keepE s.env U) (H := H j) (g3 ▸ hg j g4) g6 g7
  rw [← g1, ← g2, ← g3] at this
  exact this
theorem AW_litG {P : Program} {s : AS} {Q : Exit → AS → Prop} {c : Code} (U : List Nat) (H : List (Option (List CV))) (hg : GOk H s.gh) (h1 : Told (okL H s.env (keepE s.env U))) (h2 : Told (wkH (okB H) s.heap H)) (h : AW P c ⟨keepE s.env U, H, s.N, s.gh, s.lp⟩ Q) : AW P c s Q :=
  AW_weak (Weak.litG hg h1.out h2.out) h
/-- References to blocks that are not there are forgotten. -/
def LV.here (H : List (Option (List CV))) : LV → Bool
  | .ptr i _ | .mp i => (hget H i).isSome
  | _ => true
def CV.cl (H : List (Option (List CV))) : CV → CV
  | .slc i off n E => if (hget H i).isSome = true then .slc i off n E else .any
  | .ptr i o => if (hget H i).isSome = true then .ptr i o else .any
  | .mp i => if (hget H i).isSome = true then .mp i else .any
  | .it i => if (hget H i).isSome = true then .it i else .any
  | .ml _ | .mt _ _ _ _ => .any
  | .fn f a b => if (a.all (LV.here H) && b.all (LV.here H)) = true then .fn f a b else .any
  | c => c
def TV.cl (H : List (Option (List CV))) : TV → TV
  | .one c => .one (c.cl H)
  | .agg cs => .agg (cs.map (CV.cl H))
def AV.cl (H : List (Option (List CV))) : AV → AV
  | .t x => .t (x.cl H)
  | .tup xs => .tup (xs.map (TV.cl H))
  | .mb b x => .mb b (x.cl H)
  | .any => .any
theorem LV.here_ok {H : List (Option (List CV))} {l : LV} (h : l.here H = true) : l.ok (okB H) := by cases l <;> first | trivial | exact h
theorem CV.cl_ok (H : List (Option (List CV))) (c : CV) : (c.cl H).ok (okB H) := by
  cases c with
  | slc i off n E => simp only [CV.cl]; split <;> first | assumption | trivial
  | ptr i o => simp only [CV.cl]; split <;> first | assumption | trivial
  | mp i => simp only [CV.cl]; split <;> first | assumption | trivial
  | it i => simp only [CV.cl]; split <;> first | assumption | trivial
  | fn f a b =>
    simp only [CV.cl]
    split
    · rename_i h
      rw [Bool.and_eq_true, List.all_eq_true, List.all_eq_true] at h
      exact ⟨fun l hl => LV.here_ok (h.1 l hl), fun l hl => LV.here_ok (h.2 l hl)⟩
    · trivial
  | _ => trivial
theorem TV.cl_ok (H : List (Option (List CV))) (c : TV) : (c.cl H).ok (okB H) := by
  cases c with
  | one c => exact c.cl_ok H
  | agg cs =>
    intro c hc
    obtain ⟨d, _, rfl⟩ := List.mem_map.1 hc
    exact d.cl_ok H
theorem AV.cl_ok (H : List (Option (List CV))) (c : AV) : (c.cl H).ok (okB H) := by
  cases c with
  | t x => exact x.cl_ok H
  | tup xs =>
    intro c hc
    obtain ⟨d, _, rfl⟩ := List.mem_map.1 hc
    exact d.cl_ok H
  | mb b x => exact x.cl_ok H
  | any => trivial
def clE (H : List (Option (List CV))) (e : List (Nat × AV)) : List (Nat × AV) := e.map fun p => (p.1, p.2.cl H)
def clG (H : List (Option (List CV))) (g : List (Nat × List (Nat × AV))) : List (Nat × List (Nat × AV)) := g.map fun p => (p.1, clE H p.2)
theorem lk_cl (H : List (Option (List CV))) (t : Nat) : ∀ e : List (Nat × AV), lk (clE H e) t = (lk e t).cl H
  | [] => rfl
  | (k, v) :: r => by
    simp only [clE, List.map_cons, lk]
    split
    · rfl
    · exact lk_cl H t r
theorem gf_cl (H : List (Option (List CV))) (f : Nat) : ∀ g : List (Nat × List (Nat × AV)), gf (clG H g) f = clE H (gf g f)
  | [] => rfl
  | (k, v) :: r => by
    simp only [clG, List.map_cons, gf]
    split
    · rfl
    · exact gf_cl H f r
theorem GOk.cl (H : List (Option (List CV))) (g : List (Nat × List (Nat × AV))) : GOk H (clG H g) := fun p hp q hq => by
  obtain ⟨p', _, rfl⟩ := List.mem_map.1 hp
  obtain ⟨q', _, rfl⟩ := List.mem_map.1 hq
  exact q'.2.cl_ok H
section
variable {H : List (Option (List CV))} {w w' : World} {J J' : Nat → Option Nat} {Z Z' : Nat → Prop}
theorem CRel.cl {v : Value} {c : CV} (h : CRel w J Z v c) : CRel w J Z v (c.cl H) := by
  cases c with
  | slc i off n E => simp only [CV.cl]; split <;> first | exact h | exact CRel.one h
  | ptr i o => simp only [CV.cl]; split <;> first | exact h | exact CRel.one h
  | mp i => simp only [CV.cl]; split <;> first | exact h | exact CRel.one h
  | it i => simp only [CV.cl]; split <;> first | exact h | exact CRel.one h
  | ml => exact h.elim
  | mt => exact h.elim
  | fn f a b => simp only [CV.cl]; split <;> first | exact h | exact CRel.one h
  | _ => exact h
theorem TRel.cl {v : Value} {c : TV} (h : TRel w J Z v c) : TRel w J Z v (c.cl H) := by
  cases c with
  | one c => exact CRel.cl h
  | agg cs => obtain ⟨A, e, h⟩ := h; exact ⟨A, e, All2.map_right.2 (h.mono fun _ _ => CRel.cl)⟩
theorem ARel.cl {v : Value} {c : AV} (h : ARel w J Z v c) : ARel w J Z v (c.cl H) := by
  cases c with
  | t x => exact TRel.cl h
  | tup xs => obtain ⟨A, e, h⟩ := h; exact ⟨A, e, All2.map_right.2 (h.mono fun _ _ => TRel.cl)⟩
  | mb b x => exact ⟨fun hb => TRel.cl (h.1 hb), h.2⟩
  | any => trivial
theorem All2.both {α β : Type} {R S T : α → β → Prop} (h : ∀ a b, R a b → S a b → T a b) : ∀ {l : List α} {m : List β}, All2 R l m → All2 S l m → All2 T l m
  | [], [], _, _ => trivial
  | _ :: _, _ :: _, ⟨h1, h2⟩, ⟨g1, g2⟩ => ⟨h _ _ h1 g1, All2.both h h2 g2⟩
theorem lv_here (hole : ∀ i, hget H i = none → J i = none) : ∀ {l : List Value} {m : List LV}, All2 (LRel w J Z) l m → m.all (LV.here H) = true
  | [], [], _ => rfl
  | v :: l, c :: m, ⟨h1, h2⟩ => by
    rw [List.all_cons, lv_here hole h2, Bool.and_true]
    cases c with
    | iv c => rfl
    | ptr i o =>
      obtain ⟨b, _, hj, _⟩ := h1
      cases hh : hget H i with
      | none => rw [hole i hh] at hj; cases hj
      | some cs => simp [LV.here, hh]
    | mp i =>
      obtain ⟨b, _, hj⟩ := h1
      cases hh : hget H i with
      | none => rw [hole i hh] at hj; cases hj
      | some cs => simp [LV.here, hh]
theorem CRel.uncl (hole : ∀ i, hget H i = none → J i = none) {v : Value} {c : CV} (h : CRel w J Z v c) (h' : CRel w' J' Z' v (c.cl H)) : CRel w' J' Z' v c := by
  cases c with
  | slc i off n E =>
    simp only [CV.cl] at h'
    split at h'
    · exact h'
    · rename_i hn
      rcases h with h | ⟨b, cap, c, e, hv, hj, r⟩
      · exact Or.inl h
      · rw [hole i (by simpa using hn)] at hj; cases hj
  | ptr i o =>
    simp only [CV.cl] at h'
    split at h'
    · exact h'
    · rename_i hn
      obtain ⟨b, hv, hj, _⟩ := h
      rw [hole i (by simpa using hn)] at hj; cases hj
  | mp i =>
    simp only [CV.cl] at h'
    split at h'
    · exact h'
    · rename_i hn
      obtain ⟨b, hv, hj⟩ := h
      rw [hole i (by simpa using hn)] at hj; cases hj
  | it i =>
    simp only [CV.cl] at h'
    split at h'
    · exact h'
    · rename_i hn
      obtain ⟨b, hv, hj⟩ := h
      rw [hole i (by simpa using hn)] at hj; cases hj
  | ml => exact h.elim
  | mt => exact h.elim
  | fn f a b =>
    simp only [CV.cl] at h'
    split at h'
    · exact h'
    · rename_i hn
      obtain ⟨A, B, e, h1, h2⟩ := h
      exact absurd (by rw [lv_here hole h1, lv_here hole h2]; rfl) hn
  | _ => exact h'
theorem TRel.uncl (hole : ∀ i, hget H i = none → J i = none) {v : Value} {c : TV} (h : TRel w J Z v c) (h' : TRel w' J' Z' v (c.cl H)) : TRel w' J' Z' v c := by
  cases c with
  | one c => exact CRel.uncl hole h h'
  | agg cs =>
    obtain ⟨A, e, h⟩ := h
    obtain ⟨A', e', h'⟩ := h'
    subst e
    cases e'
    exact ⟨A, rfl, All2.both (fun _ _ => CRel.uncl hole) h (All2.map_right.1 h')⟩
theorem ARel.uncl (hole : ∀ i, hget H i = none → J i = none) {v : Value} {c : AV} (h : ARel w J Z v c) (h' : ARel w' J' Z' v (c.cl H)) : ARel w' J' Z' v c := by
  cases c with
  | t x => exact TRel.uncl hole h h'
  | tup xs =>
    obtain ⟨A, e, h⟩ := h
    obtain ⟨A', e', h'⟩ := h'
    subst e
    cases e'
    exact ⟨A, rfl, All2.both (fun _ _ => TRel.uncl hole) h (All2.map_right.1 h')⟩
  | mb b x => exact ⟨fun hb => TRel.uncl hole (h.1 hb) (h'.1 hb), h'.2⟩
  | any => trivial
end
def FrOk (g : List (Nat × List (Nat × AV))) (ls : List LS) (fr : Nat) : Prop := ∀ f, fr ≤ f → lsF ls f ∧ gdrop g f = g
theorem fresh_gd : ∀ g : List (Nat × List (Nat × AV)), ∃ n, ∀ f, n ≤ f → gdrop g f = g
  | [] => ⟨0, fun _ _ => rfl⟩
  | (k, e) :: r => by
    obtain ⟨n, h⟩ := fresh_gd r
    refine ⟨n + k + 1, fun f hf => ?_⟩
    simp only [gdrop]
    rw [if_neg (by omega), h f (by omega)]
theorem CallsH_ofG {P : Program} {k : FuncId} {fn : Func} {c : Code} {args : List TV} {H H' : List (Option (List CV))} {r : AV} (hf : P.funcs[k]? = some fn) (hb : fn.body = some c) (hl : args.length ≤ fn.ntmps)
    (h : ∀ g ls fr, GOk H g → FrOk g ls fr → AW P c ⟨argEnv args 0, H, fn.ntmps, g, ⟨ls, fr, none⟩⟩ (retH P fn r H' g ⟨ls, fr, none⟩)) : CallsH P k args H r H' := by
  intro w0 Z0 J Z s a w vs R hH ha
  subst hH
  refine callsIn_wide.1 (callsIn_of_wp_marks (F := Fence.wide) (n := 0) hf hb trivial ?_)
  have hlen := ha.length
  simp only [Array.length_toList] at hlen
  obtain ⟨n1, f1⟩ := fresh_gf s.gh
  obtain ⟨n2, f2⟩ := fresh_ls s.lp.ls
  obtain ⟨fid, hfid⟩ : ∃ fid, fid = n1 + n2 := ⟨_, rfl⟩
  obtain ⟨n3, f3⟩ := fresh_gd (clG s.heap ((fid, s.env) :: s.gh))
  have e1 : gf s.gh fid = [] := f1 _ (by omega)
  have e2 := lsF_mem (f2 fid (by omega))
  obtain ⟨M, m1, m2, m3⟩ := R.nodef
  let Z1 : Fr := ⟨Z0.z, fun f t => if f = fid then a.tmps.getD t undef else Z0.g f t, none, M ++ Z0.pin⟩
  have hg0 : ∀ f t, gk (clG s.heap ((fid, s.env) :: s.gh)) f t = (if f = fid then s.get t else gk s.gh f t).cl s.heap := fun f t => by
    show lk (gf (clG s.heap ((fid, s.env) :: s.gh)) f) t = _
    rw [gf_cl, lk_cl]
    congr 1
    exact gk_push _ _ _ _ _
  have R1 : Rel w0 Z1 J Z ⟨argEnv args 0, s.heap, fn.ntmps, clG s.heap ((fid, s.env) :: s.gh), ⟨s.lp.ls, n2 + n3, none⟩⟩ { tmps := vs ++ Array.replicate (fn.ntmps - vs.size) undef, defers := [] } w := by
    refine ⟨⟨[], rfl, by simpa [Z1] using m2, fun b hb => m3 b (by simpa [Z1] using hb)⟩, ?_, R.below, R.zfrom, R.zlt, R.jlt, R.inj, R.hole, R.blk, fun t => ?_, fun f t => ?_, fun y hy => ?_, R.lnd, rfl⟩
    · simp; omega
    · simp only [AS.get, argEnv_lk, Nat.zero_le, if_true, Nat.sub_zero]
      cases hx : args[t]? with
      | none => simp; trivial
      | some x =>
        obtain ⟨u, hu, hr⟩ := ha.get hx
        have : (vs ++ Array.replicate (fn.ntmps - vs.size) undef).getD t undef = u := by
          rw [Array.getElem?_toList] at hu
          have hlt : t < vs.size := (Array.getElem?_eq_some_iff.1 hu).1
          simp only [Array.getD_eq_getD_getElem?, Array.getElem?_append_left hlt, hu, Option.getD_some]
        rw [this]
        exact hr
    · rw [hg0]
      refine ARel.cl ?_
      by_cases hf : f = fid
      · simp only [Z1, if_pos hf]; exact R.slots t
      · simp only [Z1, if_neg hf]; exact R.ghost f t
    · obtain ⟨fn', tmps', dd', k0, k1, k2, k3⟩ := R.loops y hy
      refine ⟨fn', tmps', dd', k0, k1, k2, fun t => ?_⟩
      simp only [Z1, if_neg (e2 y hy)]; exact k3 t
  refine wpIn_mono (h _ _ _ (GOk.cl _ _) (fun f hf => ⟨f2 f (by omega), f3 f (by omega)⟩) w0 Z1 _ w 0 ⟨_, _, R1⟩) fun e a' w' ⟨s', ⟨J', Z', R'⟩, he, hh, hgg, hlp, q⟩ => ?_
  have fin : LeavesInM Fence.wide 0 P fn a'.tmps (fun e w' => ∃ v J' Z', e = .returned v ∧ Rel w0 Z0 J' Z' { s with heap := H' } a w' ∧ ARel w' J' Z' v r) a'.defers .returning w' := by
    obtain ⟨M', m1', _⟩ := R'.nodef
    refine R'.leaves M' m1' fun a2 w2 R2 h2 h3 => ?_
    split at q
    · rename_i nd l h1
      obtain ⟨hn, rfl⟩ := q
      obtain ⟨vs', hvs, hr⟩ := run_results R2 h1 hn
      rw [h2] at hvs
      have hres : (results fn a'.tmps).run P w2 = .ok (if h : vs'.toArray.size = 1 then vs'.toArray[0] else .tuple vs'.toArray) w2 := by
        rw [results_eq, ← Array.toArray_toList (xs := fn.results), List.mapM_toArray]
        simp only [Sem.run_bind, Sem.run_map, hvs, Result.andThen_ok, Sem.run_pure]
      refine ⟨_, hres, _, J', Z', rfl, ?_, tupA_rel hr⟩
      subst hh
      refine ⟨⟨M, m1, m2, fun b hb => ?_⟩, R.size, R2.below, R2.zfrom, R2.zlt, R2.jlt, R2.inj, R2.hole, R2.blk, fun t => ?_, fun f t => ?_, fun y hy => ?_, R.lnd, R.ro⟩
      · obtain ⟨M4, _, _, n3⟩ := R2.nodef
        exact n3 b (List.mem_append_right _ hb)
      · have := R2.ghost fid t
        rw [hgg, hg0] at this
        simp only [Z1, if_true] at this
        exact ARel.uncl R.hole (R.slots t) this
      · have := R2.ghost f t
        rw [hgg, hg0] at this
        by_cases hf : f = fid
        · subst hf
          show ARel _ _ _ _ (lk (gf s.gh f) t)
          rw [e1]; trivial
        · simp only [Z1, if_neg hf] at this
          exact ARel.uncl R.hole (R.ghost f t) this
      · obtain ⟨fn', tmps', dd', k0, k1, k2, k3⟩ := R2.loops y (by rw [hlp]; exact hy)
        refine ⟨fn', tmps', dd', k0, k1, k2, fun t => ?_⟩
        have := k3 t
        simpa only [Z1, if_neg (e2 y hy)] using this
    · exact q.elim
  cases e <;> simp at he <;> exact fin
theorem GOk.cons {H : List (Option (List CV))} {g : List (Nat × List (Nat × AV))} {f : Nat} {e : List (Nat × AV)} (he : ∀ q, q ∈ e → q.2.ok (okB H)) (h : GOk H g) : GOk H ((f, e) :: g) := fun p hp => by
  rcases List.mem_cons.1 hp with rfl | hp
  · exact he
  · exact h p hp
theorem GOk.nil (H : List (Option (List CV))) : GOk H [] := fun p hp => by cases hp
theorem wkH_snoc {ok : Nat → Prop} {F : Nat → Nat → IV} {n : Nat} {f : Nat → IV} (h : ∀ j, j < 64 → f j = F n j) : wkH ok (famL F n ++ [some (rowV f 64)]) (famL F (n + 1)) := by
  rw [rowV_congr h, famL_snoc]
  exact wkH_famR _ _
/-- A family's block, by value. -/
def famI (F : Nat → Nat → IV) (k : Nat) : IV := .lst 1 64 fun p o => civ ((rowV (F k) 64).getD (0 + p * 1 + o) .any)
/-- The cells that name a family of which k blocks are read by value. -/
def famR (F : Nat → Nat → IV) (b n k : Nat) : List CV := (List.range n).map fun j => if j < k then .iv (famI F j) else .slc (j + b) 0 64 1
def famK (F : Nat → Nat → IV) (n k : Nat) : List (Option (List CV)) := (List.range n).map fun j => if j < k then none else some (rowV (F j) 64)
def famS (E : List (Nat × AV)) (A B : List (Option (List CV))) (F : Nat → Nat → IV) (b n N : Nat) (g : List (Nat × List (Nat × AV))) (lp : LP) (k : Nat) : AS := ⟨E, A ++ some (famR F b n k) :: B ++ famK F n k, N, g, lp⟩
theorem hdel_app : ∀ (l m : List (Option (List CV))) (i : Nat), hdel (l ++ m) (l.length + i) = l ++ hdel m i
  | [], m, i => by simp
  | x :: l, m, i => by
    rw [List.cons_append, List.length_cons, show l.length + 1 + i = (l.length + i) + 1 by omega]
    simp only [hdel, hdel_app l m i, List.cons_append]
theorem hget_app (l m : List (Option (List CV))) (i : Nat) : hget (l ++ m) (l.length + i) = hget m i := by
  unfold hget
  rw [List.getElem?_append_right (by omega), Nat.add_sub_cancel_left]
theorem hdel_at : ∀ (h : List (Option (List CV))) (i k : Nat), (hdel h i)[k]? = if k = i then (h[k]?).map fun _ => none else h[k]?
  | [], i, k => by simp [hdel]
  | x :: h, 0, 0 => by simp [hdel]
  | x :: h, 0, k + 1 => by simp [hdel]
  | x :: h, i + 1, 0 => by simp [hdel]
  | x :: h, i + 1, k + 1 => by simp [hdel, hdel_at h i k]
theorem frzC_row (i : Nat) (cs : List CV) (f : Nat → IV) (n : Nat) : List.map (frzC i cs) (rowV f n) = rowV f n := rowV_frz ..
theorem famS_step {E : List (Nat × AV)} {A B : List (Option (List CV))} {F : Nat → Nat → IV} {b n N : Nat} {g : List (Nat × List (Nat × AV))} {lp : LP} (hb : A.length + (B.length + 1) = b)
    (hE : ∀ i cs, b ≤ i → frzE i cs E = E) (hA : ∀ i cs, b ≤ i → frzH i cs A = A) (hB : ∀ i cs, b ≤ i → frzH i cs B = B) (hg : ∀ i cs, b ≤ i → frzG i cs g = g) {k : Nat} (hk : k < n) :
    frzOk (k + b) (famS E A B F b n N g lp k) (hget (famS E A B F b n N g lp k).heap (k + b)) ∧ (famS E A B F b n N g lp k).frz (k + b) = famS E A B F b n N g lp (k + 1) := by
  have e0 : (A ++ some (famR F b n k) :: B).length = b := by simp; omega
  have h0 : hget (famS E A B F b n N g lp k).heap (k + b) = some (rowV (F k) 64) := by
    show hget ((A ++ some (famR F b n k) :: B) ++ famK F n k) (k + b) = _
    rw [show k + b = (A ++ some (famR F b n k) :: B).length + k by omega, hget_app]
    simp [hget, famK, hk]
  refine ⟨?_, ?_⟩
  · rw [h0]; exact rowV_iv _ _
  · unfold AS.frz
    rw [h0]
    show AS.mk (frzE _ _ E) (hdel (frzH (k + b) (rowV (F k) 64) ((A ++ some (famR F b n k) :: B) ++ famK F n k)) (k + b)) N (frzG _ _ g) lp = famS E A B F b n N g lp (k + 1)
    rw [hE _ _ (by omega), hg _ _ (by omega)]
    unfold famS
    congr 1
    have e1 : frzH (k + b) (rowV (F k) 64) ((A ++ some (famR F b n k) :: B) ++ famK F n k) = (A ++ some (famR F b n (k + 1)) :: B) ++ famK F n k := by
      have s1 : ∀ l m, frzH (k + b) (rowV (F k) 64) (l ++ m) = frzH (k + b) (rowV (F k) 64) l ++ frzH (k + b) (rowV (F k) 64) m := fun l m => by simp [frzH]
      have s2 : ∀ x l, frzH (k + b) (rowV (F k) 64) (some x :: l) = some (x.map (frzC (k + b) (rowV (F k) 64))) :: frzH (k + b) (rowV (F k) 64) l := fun x l => rfl
      rw [s1, s1, s2, hA _ _ (by omega), hB _ _ (by omega)]
      congr 1
      · congr 3
        unfold famR
        rw [List.map_map]
        refine List.map_congr_left fun j _ => ?_
        simp only [Function.comp]
        by_cases h1 : j < k
        · rw [if_pos h1, if_pos (by omega)]; rfl
        · rw [if_neg h1]
          by_cases h2 : j = k
          · subst h2
            rw [if_pos (by omega)]
            simp only [frzC, if_true]
            rw [if_pos (by simp [rowV])]
            rfl
          · rw [if_neg (by omega)]
            simp only [frzC]
            rw [if_neg (by omega)]
      · unfold famK frzH
        rw [List.map_map]
        refine List.map_congr_left fun j _ => ?_
        simp only [Function.comp]
        split
        · rfl
        · simp only [Option.map_some]; rw [frzC_row]
    have e2 : (A ++ some (famR F b n (k + 1)) :: B).length = b := by simp; omega
    rw [e1, show k + b = (A ++ some (famR F b n (k + 1)) :: B).length + k by omega, hdel_app]
    congr 1
    refine List.ext_getElem? fun j => ?_
    rw [hdel_at]
    unfold famK
    simp only [List.getElem?_map, List.getElem?_range']
    by_cases hj : j < n
    · simp only [List.getElem?_range hj, Option.map_some]
      by_cases h1 : j = k
      · rw [if_pos h1, if_pos (by omega)]
      · rw [if_neg h1]
        by_cases h2 : j < k
        · rw [if_pos h2, if_pos (by omega)]
        · rw [if_neg h2, if_neg (by omega)]
    · rw [List.getElem?_eq_none (by simp; omega)]; simp
theorem Rel.hext {w0 : World} {Z0 : Fr} {J : Nat → Option Nat} {Z : Nat → Prop} {s : AS} {a : Act} {w : World} (R : Rel w0 Z0 J Z s a w) {H' : List (Option (List CV))} (h : ∀ i, hget H' i = hget s.heap i) : Rel w0 Z0 J Z { s with heap := H' } a w :=
  { R with hole := fun i hi => R.hole i ((h i).symm.trans hi), blk := fun i cs hi hn => R.blk i cs ((h i).symm.trans hi) hn }
theorem AW_fam {P : Program} {c : Code} {Q : Exit → AS → Prop} {E : List (Nat × AV)} {A B : List (Option (List CV))} {F : Nat → Nat → IV} {b n N : Nat} {g : List (Nat × List (Nat × AV))} {lp : LP} (hb : A.length + (B.length + 1) = b)
    (hE : ∀ i cs, b ≤ i → frzE i cs E = E) (hA : ∀ i cs, b ≤ i → frzH i cs A = A) (hB : ∀ i cs, b ≤ i → frzH i cs B = B) (hg : ∀ i cs, b ≤ i → frzG i cs g = g)
    (h : AW P c ⟨E, A ++ some (rowV (famI F) n) :: B, N, g, lp⟩ Q) : AW P c ⟨E, A ++ some (rowsC b n) :: B ++ famL F n, N, g, lp⟩ Q := by
  have key : ∀ k, k ≤ n → AW P c (famS E A B F b n N g lp k) Q → AW P c (famS E A B F b n N g lp 0) Q := fun k => by
    induction k with
    | zero => exact fun _ h => h
    | succ k ih =>
      intro hk h
      refine ih (by omega) fun w0 Z0 ac w q R => ?_
      obtain ⟨s1, s2⟩ := famS_step (E := E) (A := A) (B := B) (F := F) (N := N) (g := g) (lp := lp) hb hE hA hB hg (show k < n by omega)
      have := Rep.frz R s1
      rw [s2] at this
      exact h w0 Z0 ac w q this
  have e0 : famS E A B F b n N g lp 0 = ⟨E, A ++ some (rowsC b n) :: B ++ famL F n, N, g, lp⟩ := by
    unfold famS famR famK rowsC famL
    simp
  rw [← e0]
  refine key n (Nat.le_refl n) ?_
  have e1 : famR F b n n = rowV (famI F) n := by
    unfold famR rowV
    refine List.map_congr_left fun j hj => ?_
    rw [if_pos (List.mem_range.1 hj)]
  unfold famS
  rw [e1]
  intro w0 Z0 ac w q ⟨J, Z, R⟩
  refine h w0 Z0 ac w q ⟨J, Z, R.hext fun i => ?_⟩
  show hget (A ++ some (rowV (famI F) n) :: B) i = hget ((A ++ some (rowV (famI F) n) :: B) ++ famK F n n) i
  by_cases hi : i < (A ++ some (rowV (famI F) n) :: B).length
  · unfold hget; rw [List.getElem?_append_left hi]
  · unfold hget
    rw [List.getElem?_eq_none (by omega), List.getElem?_append_right (by omega)]
    unfold famK
    rw [List.getElem?_map]
    generalize i - (A ++ some (rowV (famI F) n) :: B).length = q
    by_cases hj : q < n
    · rw [List.getElem?_range hj]; simp [hj]
    · rw [List.getElem?_eq_none (by simp; omega)]; rfl
end Go.Sea
/- Calls with arguments that read own blocks: the result is told as far as it names no block, or a new block. -/
namespace Go.Sea
open Go.RowKit
def IV.fl (c : IV) : CV := bif flatI c then .iv c else .any
def PT.fl : PT → TV
  | .one c => .one c.fl
  | .agg cs => .agg (cs.map IV.fl)
def PV.fl : PV → AV
  | .t x => .t x.fl
  | .tup xs => .tup (xs.map PT.fl)
section
variable {w0 : World} {Z0 : Fr} {J : Nat → Option Nat} {Z Z' : Nat → Prop} {s : AS} {a : Act} {w w' : World}
theorem Rd.fl {v : Value} {c : IV} (h : Rd w Z' v c) : CRel w J Z v c.fl := by
  unfold IV.fl
  cases hf : flatI c with
  | true => exact Rd.flat h hf
  | false => exact Rd.one h
theorem PTRel.fl {v : Value} {x : PT} (h : PTRel w Z' v x) : TRel w J Z v x.fl := by
  cases x with
  | one c => exact Rd.fl h
  | agg cs => obtain ⟨A, e, h⟩ := h; exact ⟨A, e, All2.map_right.2 (h.mono fun _ _ => Rd.fl)⟩
theorem PRel.fl {v : Value} {x : PV} (h : PRel w Z' v x) : ARel w J Z v x.fl := by
  cases x with
  | t x => exact PTRel.fl h
  | tup xs => obtain ⟨A, e, h⟩ := h; exact ⟨A, e, All2.map_right.2 (h.mono fun _ _ => PTRel.fl)⟩
theorem ownZ_lt (R : Rel w0 Z0 J Z s a w) (own : Bool) : ∀ b, (if own then OwnZ J Z else Z) b → b < w.heap.size := fun b hb => by
  cases own with
  | false => exact R.zlt b hb
  | true =>
    rcases hb with hb | ⟨i, hi⟩
    · exact R.zlt b hb
    · exact (R.jlt i b hi).2.1
end
/-- A call by value with arguments that read own blocks. -/
theorem CallsP.own {P : Program} {k : FuncId} {ps ps' : List PT} {r : PV} (hc : CallsP P k ps r) {H : List (Option (List CV))} {ts : List TV} {nd : Prop} {own : Bool} (ht : toPTs (hget H) ts = some (nd, ps', own)) (he : All2 PT.eqv ps' ps) (hn : nd) : CallsH P k ts H r.fl H := by
  intro w0 Z0 J Z s a w vs R hs hv
  subst hs
  have ha := toPTs_rel R hv ht hn
  have ha' := All2.trans2 (S := PT.eqv) (T := PTRel w _) (fun _ _ _ h he => PTRel.eqv h he) ha he
  exact (hc w _ vs (ownZ_lt R own) ha').mono fun e w' ⟨v, h1, h2, h3⟩ => ⟨v, _, _, h1, R.callX h2 (fun _ => True), PRel.fl h3⟩
/-- A call by value that lays one new block of cells that name no block; its arguments may read own blocks. -/
def CallsO (P : Program) (k : FuncId) (args : List PT) (cs : List CV) (off n E : Nat) : Prop :=
  ∀ (w : World) (Z : Nat → Prop) (vs : Array Value), (∀ b, Z b → b < w.heap.size) → All2 (PTRel w Z) vs.toList args →
    Calls P k vs w fun e w' => ∃ v b0 c e0, e = .returned v ∧ Below w.heap.size w w' ∧ w.heap.size ≤ b0 ∧ b0 < w'.heap.size ∧ w'.heap[b0]? = some (.cells c e0 (0, 0)) ∧ All2 (CRel w' (fun _ => none) (fun _ => False)) (c.toList.take cs.length) cs ∧
      ∀ (J : Nat → Option Nat) (i : Nat) (Z : Nat → Prop), J i = some b0 → ARel w' J Z v (.t (.one (.slc i off n E)))
theorem CallsO_of {P : Program} {k : FuncId} {fn : Func} {c : Code} {args : List PT} {cs : List CV} {off m E : Nat} (j : Nat) (hf : P.funcs[k]? = some fn) (hb : fn.body = some c) (hl : args.length ≤ fn.ntmps) (hiv : ∀ c, c ∈ cs → ∃ v, c = .iv (.g v)) (hne : cs ≠ [])
    (h : AW P c ⟨argEnv (args.map PT.tv) 0, [], fn.ntmps, [], .top⟩ (retO P fn j cs fun i => .t (.one (.slc i off m E)))) : CallsO P k args cs off m E := by
  intro w Z vs hZ ha
  refine callsIn_wide.1 (callsIn_of_wp_marks (F := Fence.wide) (n := 0) hf hb trivial ?_)
  have hlen := ha.length
  simp only [Array.length_toList] at hlen
  have R0 : Rel w ⟨Z, fun _ _ => undef, none, []⟩ (fun _ => none) Z ⟨argEnv (args.map PT.tv) 0, [], fn.ntmps, [], .top⟩ { tmps := vs ++ Array.replicate (fn.ntmps - vs.size) undef, defers := [] } w := by
    refine ⟨⟨[], rfl, by simp, fun b hb => by cases hb⟩, ?_, Below.refl _ _, fun b h => Or.inl h, hZ, (fun i b h => by cases h), (fun i j b h => by cases h), fun _ _ => rfl, (fun i cs h => by simp [hget] at h), fun t => ?_, fun f t => trivial, (fun x hx => by cases hx), by simp, rfl⟩
    · simp; omega
    · simp only [AS.get, argEnv_lk, Nat.zero_le, if_true, Nat.sub_zero]
      rw [List.getElem?_map]
      cases hx : args[t]? with
      | none => simp; trivial
      | some x =>
        obtain ⟨u, hu, hr⟩ := ha.get hx
        have : (vs ++ Array.replicate (fn.ntmps - vs.size) undef).getD t undef = u := by
          rw [Array.getElem?_toList] at hu
          have hlt : t < vs.size := (Array.getElem?_eq_some_iff.1 hu).1
          simp only [Array.getD_eq_getD_getElem?, Array.getElem?_append_left hlt, hu, Option.getD_some]
        rw [this]
        exact PTRel.tv hr
  refine wpIn_mono (h w ⟨Z, fun _ _ => undef, none, []⟩ _ w 0 ⟨_, _, R0⟩) fun e a' w' ⟨s', ⟨J', Z', R'⟩, he, hj, q⟩ => ?_
  have fin : LeavesInM Fence.wide 0 P fn a'.tmps (fun e w' => ∃ v b0 c e0, e = .returned v ∧ Below w.heap.size w w' ∧ w.heap.size ≤ b0 ∧ b0 < w'.heap.size ∧ w'.heap[b0]? = some (.cells c e0 (0, 0)) ∧ All2 (CRel w' (fun _ => none) (fun _ => False)) (c.toList.take cs.length) cs ∧
      ∀ (J : Nat → Option Nat) (i : Nat) (Z : Nat → Prop), J i = some b0 → ARel w' J Z v (.t (.one (.slc i off m E)))) a'.defers .returning w' := by
    obtain ⟨M, m1, _⟩ := R'.nodef
    refine R'.leaves M m1 fun a2 w2 R2 h2 h3 => ?_
    split at q
    · rename_i nd l h1
      obtain ⟨hn, hto⟩ := q
      obtain ⟨vs', hvs, hr⟩ := run_results R2 h1 hn
      rw [h2] at hvs
      have hres : (results fn a'.tmps).run P w2 = .ok (if h : vs'.toArray.size = 1 then vs'.toArray[0] else .tuple vs'.toArray) w2 := by
        rw [results_eq, ← Array.toArray_toList (xs := fn.results), List.mapM_toArray]
        simp only [Sem.run_bind, Sem.run_map, hvs, Result.andThen_ok, Sem.run_pure]
      have hA := tupA_rel hr
      obtain ⟨b0, g1, g2'⟩ := R2.blk j cs hj hne
      obtain ⟨c0, e0, g2, g3⟩ := g2'.cells_iv hne fun c hc => by obtain ⟨v, h⟩ := hiv c hc; exact ⟨_, h⟩
      have hjl := R2.jlt j b0 g1
      refine ⟨_, hres, _, b0, c0, e0, rfl, R2.below, hjl.1, hjl.2.1, g2, g3.mono' fun x y hy hxy => ?_, fun J i Z1 hJ => ?_⟩
      · obtain ⟨v, rfl⟩ := hiv y hy
        exact Rd.flat hxy rfl
      · have h0 := hto i
        generalize (if h : vs'.toArray.size = 1 then vs'.toArray[0] else Value.tuple vs'.toArray) = vv at hA ⊢
        generalize tupA l = t at hA h0
        cases t with
        | t x =>
          cases x with
          | one cv =>
            cases cv with
            | slc k off' n' E' =>
              simp only [AV.to, TV.to, CV.to] at h0
              by_cases hk : k = j
              · subst hk
                simp at h0
                obtain ⟨rfl, rfl, rfl⟩ := h0
                rcases hA with hA | ⟨bb, cap, c1, e1, k1, k2, k3⟩
                · exact Or.inl hA
                · rw [g1] at k2; cases k2
                  exact Or.inr ⟨b0, cap, c1, e1, k1, hJ, k3⟩
              · simp [hk] at h0
            | _ => simp [AV.to, TV.to, CV.to] at h0 <;> (try split at h0) <;> simp at h0
          | agg cs => simp [AV.to, TV.to] at h0
        | tup xs => simp [AV.to] at h0
        | mb b x => simp [AV.to] at h0
        | any => simp [AV.to] at h0
    · exact q.elim
  cases e <;> simp at he <;> exact fin
theorem CallsO.h {P : Program} {k : FuncId} {ps ps' : List PT} {cs : List CV} {off n E : Nat} (hc : CallsO P k ps cs off n E) {H : List (Option (List CV))} {ts : List TV} {nd : Prop} {own : Bool} (i : Nat) (hi : hget H i = none) (ht : toPTs (hget H) ts = some (nd, ps', own)) (he : All2 PT.eqv ps' ps) (hn : nd) (hiv : ∀ c, c ∈ cs → ∃ v, c = .iv (.g v)) : CallsH P k ts H (.t (.one (.slc i off n E))) (hset H i cs) := by
  intro w0 Z0 J Z s a w vs R hs hv
  subst hs
  have ha := toPTs_rel R hv ht hn
  have ha' := All2.trans2 (S := PT.eqv) (T := PTRel w _) (fun _ _ _ h he => PTRel.eqv h he) ha he
  refine (hc w _ vs (ownZ_lt R own) ha').mono fun e w' ⟨v, b0, c0, e0, h1, h2, h3, h4, h5, h6, h7⟩ => ?_
  have R3 := R.callX h2 (fun b => b ≠ b0)
  have R4 := R3.own (i := i) (b0 := b0) (cs := cs) hi (by have := R.below.size; omega) h4 (fun hz => by
    rcases hz with hz | hz
    · have := R.zlt b0 hz; omega
    · exact hz.2.2 rfl) (fun q hq => by have := (R.jlt q b0 hq).2.1; omega) (Blk.of h5 (h6.mono' fun x y hy hxy => by
      obtain ⟨u, rfl⟩ := hiv y hy
      exact Rd.flat hxy rfl))
  exact ⟨v, _, _, h1, R4, h7 _ i _ (by simp [jset])⟩
end Go.Sea
namespace Go.Sea
open Go.RowKit Go.Sea
attribute [go_sem] callK_N gf gk gdrop lkL setL lsF ltAll rdyL bodyF roundQ roundS loopQ loopS jumpOf inLs yV yA bAV zipPut purgeG List.tail_cons Option.isNone_none Option.isNone_some callGK_f callDK_f callDGK_f retN retHN blockA arun_nil arun_plain arun_guard plainF guardF guardB arunD_nil arunD_plain arunD_guard plainDF guardDF guardDB AS.ent Eff.noApp Eff.tgt ftF AV.refs TV.refs CV.refs LV.refs Op.operands Call.operands List.append_toArray List.push_toArray List.flatMap_cons List.flatMap_nil List.toList_toArray Option.toArray nidF nidA List.reverse_cons List.reverse_nil opF AS.ev constA lk AS.get AV.tv AV.nd AS.eff AS.put argEnv PT.tv PV.av AV.mbOf hset hget TV.cells dstOk thenA gB isB toB TV.bool? TV.int? intF loadF storeF fieldF indexF lenF sliceF optI appF minmaxF ipCells fillF repC partsF lvsF TV.lv LV.tv purgeE purgeC purgeH AV.purge CV.purge AV.has TV.has CV.has LV.has calleeF argsF tvsF toPT toIV toIVs toPTs toPV civ isIv iA bA List.map_cons List.map_nil List.length_nil List.length_cons List.getElem?_cons_zero List.getElem?_cons_succ List.getElem?_nil Option.getD_some Option.getD_none Option.bind_some Option.bind_none List.take_succ_cons List.take_zero List.drop_succ_cons List.drop_zero List.take_nil List.drop_nil List.cons_append List.nil_append List.append_nil List.getD_cons_zero List.getD_cons_succ Option.map_some Option.map_none Option.isSome_some Option.isSome_none List.size_toArray List.any_cons List.any_nil List.mem_cons if_true if_false ite_true ite_false cond_true cond_false Nat.zero_add Nat.add_zero Nat.sub_zero Nat.le_refl Nat.zero_mul Nat.mul_zero Nat.one_mul Nat.mul_one Int.toNat_zero Int.toNat_natCast Bool.or_false Bool.false_or Bool.or_true Bool.true_or Bool.and_true Bool.true_and Bool.and_false Bool.false_and beq_self_eq_true beq_true beq_false Bool.not_true Bool.not_false and_true true_and and_false false_and and_self imp_self Bool.cond_false_right Bool.cond_true_left implies_true forall_const true_implies false_implies Option.some.injEq Prod.mk.injEq ne_eq not_false_eq_true not_true_eq_false eq_self Nat.lt_irrefl Nat.not_lt_zero scopeA yOp op3F lookF lookR putF delF mlenF i64? tvPT ivsF findM op2F ncF slice3F offF slArrF copyF clearF toArrF callDK_t calleeT eqN barOp boF seaMin seaMax seaNat1 seaNat2 Value.bool.injEq Value.int.injEq srcF lstC TV.dp IV.eqv PT.eqv PV.eqv All2 keepE hupd callZ_N AS.frz AS.frzW frzs frzsOk frzOk frzE frzA frzT frzC frzG frzH hdel cmpS eqF eqC gvs eqVs eqV decide_true resF tupA inlQ okL okGL okG nextL nextF barOpN AS.mv mvE mvG mvH mvO AV.mv TV.mv CV.mv LV.mv famL_mv famL_purge famL_snoc famL_zero wkH wkC wkV nilA nilC AV.ok TV.ok CV.ok LV.ok okB forall_eq_or_imp forall_eq List.not_mem_nil List.mem_singleton true_or or_true or_false false_or or_self exists_prop AV.t.injEq TV.one.injEq CV.iv.injEq IV.g.injEq TV.agg.injEq List.cons.injEq
end Go.Sea
