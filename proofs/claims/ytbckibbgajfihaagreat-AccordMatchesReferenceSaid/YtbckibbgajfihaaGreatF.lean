/- F: walks on abstract states. -/
import Derived.Test.YtbckibbgajfihaaGreatE
set_option linter.unusedVariables false
set_option linter.unusedSimpArgs false
namespace Go.Proofs.YtbckibbgajfihaaGreat
open Go.RowKit Go.Sea
theorem ar_91 : arD Tryz.prog 91 = some (21, 1) := by kernel_rfl
theorem fnok_39 : fnOk Tryz.prog 39 = true := by kernel_rfl
theorem fnok_65 : fnOk Tryz.prog 65 = true := by kernel_rfl
theorem fnok_84 : fnOk Tryz.prog 84 = true := by kernel_rfl
theorem fnok_85 : fnOk Tryz.prog 85 = true := by kernel_rfl
theorem fnok_88 : fnOk Tryz.prog 88 = true := by kernel_rfl
theorem fo_28 : fieldsOk Tryz.prog 28 = true := by kernel_rfl
theorem ix_91 : ixD Tryz.prog 91 = some (21, false, 1) := by kernel_rfl
theorem pl_28_0 : placeF Tryz.prog 28 0 = some (0, 1) := by kernel_rfl
theorem pl_28_1 : placeF Tryz.prog 28 1 = some (1, 1) := by kernel_rfl
theorem sl_91 : slD Tryz.prog 91 = none := by kernel_rfl
theorem ty_4 : tyD Tryz.prog 4 = some (false, 1) := by kernel_rfl
theorem ty_91 : tyD Tryz.prog 91 = some (true, 21) := by kernel_rfl
theorem zc_28 : zeroC Tryz.prog 28 = some [.iv (.g (.int .i64 0)), .iv (.g (.int .i64 0))] := by kernel_rfl
theorem zc_23 : zeroC Tryz.prog 23 = some [.iv (.g (.slice none 0 0))] := by kernel_rfl
theorem zc_24 : zeroC Tryz.prog 24 = some [.iv (.g (.slice none 0 0))] := by kernel_rfl
theorem zc_91 : zeroC Tryz.prog 91 = some [.iv (.g (.bool false)), .iv (.g (.bool false)), .iv (.g (.bool false)), .iv (.g (.bool false)), .iv (.g (.bool false)), .iv (.g (.bool false)), .iv (.g (.bool false)), .iv (.g (.bool false)), .iv (.g (.bool false)), .iv (.g (.bool false)), .iv (.g (.bool false)), .iv (.g (.bool false)), .iv (.g (.bool false)), .iv (.g (.bool false)), .iv (.g (.bool false)), .iv (.g (.bool false)), .iv (.g (.bool false)), .iv (.g (.bool false)), .iv (.g (.bool false)), .iv (.g (.bool false)), .iv (.g (.bool false))] := by kernel_rfl

theorem once_q (zs : List Int) (n : Nat) (hn : zs.length = n) (hz : n < 4611686018427387904) (i : Nat) : CallsT Tryz.prog 85 [.one (.slc i 0 n 1)] i (rowI zs) (.t (.one (.slc i 0 (onceZ zs).length 1))) (rowI (onceR zs)) := by
  subst hn
  exact once_t zs hz i
theorem concat_f (m1 : Nat) (g1 : Nat → Nat → Int) (m2 : Nat) (g2 : Nat → Nat → Int) (h1 : m1 ≤ 100) (h2 : m2 ≤ 100) {f : Nat → Nat → IV} (hf : ∀ i o, i < 2 → o < 1 → (f i o).eqv (twoF m1 g1 m2 g2 i o)) : CallsP Tryz.prog 84 [.one (.lst 1 2 f)] (.t (.one (.lst 5 (m1 + m2) (cellI (catG g1 m1 g2))))) :=
  (concat_p m1 g1 m2 g2 h1 h2).eqv ⟨⟨rfl, rfl, hf⟩, trivial⟩ (PV.eqv_refl _)
def endL (g : Nat → Nat → Int) (p q : Nat) : Nat → List Int
  | 0 => []
  | k + 1 => (endL g p q k ++ [g k p, g k q]) ++ [g k p + 1, g k q + 1]
def endQ (g : Nat → Nat → Int) (p q k : Nat) : Nat → List Int
  | 0 => endL g p q k
  | 1 => endL g p q k ++ [g k p, g k q]
  | _ + 2 => endL g p q (k + 1)
theorem endQ0 (g : Nat → Nat → Int) (p q k : Nat) : endQ g p q k 0 = endL g p q k := rfl
theorem endQ1 (g : Nat → Nat → Int) (p q k : Nat) : endQ g p q k 1 = endL g p q k ++ [g k p, g k q] := rfl
theorem endQ2 (g : Nat → Nat → Int) (p q k : Nat) : endQ g p q k 2 = (endL g p q k ++ [g k p, g k q]) ++ [g k p + 1, g k q + 1] := rfl
theorem endL_len (g : Nat → Nat → Int) (p q : Nat) : ∀ k, (endL g p q k).length = 4 * k
  | 0 => rfl
  | k + 1 => by simp only [endL, List.length_append, endL_len g p q k, List.length_cons, List.length_nil]; omega
theorem rowI_two (zs : List Int) (a b : Int) (i : Nat) : List.map (CV.purge i) (rowI zs ++ [.iv (.g (.int .i64 a)), .iv (.g (.int .i64 b))]) = rowI (zs ++ [a, b]) := by
  rw [rowI_app]
  exact purge_iv i fun c hc => by
    rw [← show rowI [a, b] = [.iv (.g (.int .i64 a)), .iv (.g (.int .i64 b))] from rfl, ← rowI_app] at hc
    exact rowI_iv _ c hc
theorem rowI_one (zs : List Int) (a : Int) (i : Nat) : List.map (CV.purge i) (rowI zs ++ [.iv (.g (.int .i64 a))]) = rowI (zs ++ [a]) := by
  rw [rowI_app]
  exact purge_iv i fun c hc => by
    rw [← show rowI [a] = [.iv (.g (.int .i64 a))] from rfl, ← rowI_app] at hc
    exact rowI_iv _ c hc
theorem rowI_pur (zs : List Int) (i : Nat) : List.map (CV.purge i) (rowI zs) = rowI zs := purge_iv i (rowI_iv zs)
structure Bd (a : Acc) : Prop where
  m : a.m ≤ 60
  q : a.q ≤ 9223372036854775807
  o : ∀ i, i < a.m → 1 ≤ a.sh i 0 ∧ a.sh i 0 ≤ 20
  c : ∀ i, i < a.m → (-1000000 ≤ a.sh i 1 ∧ a.sh i 1 ≤ 1000000) ∧ (-1000000 ≤ a.sh i 2 ∧ a.sh i 2 ≤ 1000000) ∧ (-1000000 ≤ a.sh i 3 ∧ a.sh i 3 ≤ 1000000) ∧ (-1000000 ≤ a.sh i 4 ∧ a.sh i 4 ≤ 1000000)
theorem ofF_bd {sh : Nat → Nat → Int} {x y : Int} : ∀ k, (∀ i, i < k → 1 ≤ sh i 0 ∧ sh i 0 ≤ 20) → 0 ≤ ofF sh x y k ∧ ofF sh x y k ≤ 20
  | 0, _ => ⟨Int.le_refl 0, (by omega : (0 : Int) ≤ 20)⟩
  | k + 1, h => by
    have h1 := ofF_bd (sh := sh) (x := x) (y := y) k fun i hi => h i (by omega)
    have h2 := h k (by omega)
    simp only [ofF]
    split <;> omega
theorem ofV_bd {a : Acc} (h : Bd a) (x y : Int) : 0 ≤ ofV a x y ∧ ofV a x y ≤ 20 := ofF_bd a.m h.o
theorem cat_bd {a b : Acc} (ha : Bd a) (hb : Bd b) (k : Nat) (hk : k < a.m + b.m) : (-1000000 ≤ catG a.sh a.m b.sh k 1 ∧ catG a.sh a.m b.sh k 1 ≤ 1000000) ∧ (-1000000 ≤ catG a.sh a.m b.sh k 2 ∧ catG a.sh a.m b.sh k 2 ≤ 1000000) ∧ (-1000000 ≤ catG a.sh a.m b.sh k 3 ∧ catG a.sh a.m b.sh k 3 ≤ 1000000) ∧ (-1000000 ≤ catG a.sh a.m b.sh k 4 ∧ catG a.sh a.m b.sh k 4 ≤ 1000000) := by
  unfold catG
  by_cases h : k < a.m
  · simp only [h, if_true]; exact ha.c k h
  · simp only [h, if_false]; exact hb.c (k - a.m) (by omega)
def rowB (f : Nat → Bool) : List CV := (List.range 21).map fun n => .iv (.g (.bool (f n)))
theorem rowB_len (f : Nat → Bool) : (rowB f).length = 21 := by simp [rowB]
theorem rowB_iv (f : Nat → Bool) : ∀ c, c ∈ rowB f → isIv c := by
  intro c hc
  simp only [rowB, List.mem_map] at hc
  obtain ⟨z, _, rfl⟩ := hc
  trivial
theorem rowB_pur (f : Nat → Bool) (i : Nat) : List.map (CV.purge i) (rowB f) = rowB f := purge_iv i (rowB_iv f)
theorem rowB_has (f : Nat → Bool) (i : Nat) : (rowB f).any (CV.has i) = false := by
  rw [List.any_eq_false]
  intro c hc
  have := rowB_iv f c hc
  cases c <;> first | exact this.elim | simp [CV.has]
def markF (f : Nat → Bool) (a : Int) : Nat → Bool := fun n => f n || decide ((n : Int) = a)
def stepF (A B : Acc) (f : Nat → Bool) (x y : Int) : Nat → Bool := if x ≤ 1000000 ∧ y ≤ 1000000 ∧ ofV A x y ≠ ofV B x y then markF (markF f (ofV A x y)) (ofV B x y) else f
def chIn (A B : Acc) (ys : List Int) (x : Int) (f : Nat → Bool) : Nat → Nat → Bool
  | 0 => f
  | j + 1 => stepF A B (chIn A B ys x f j) x (ys.getD j 0)
def chOut (A B : Acc) (xs ys : List Int) : Nat → Nat → Bool
  | 0 => fun _ => false
  | i + 1 => chIn A B ys (xs.getD i 0) (chOut A B xs ys i) ys.length
def outL (f : Nat → Bool) : Nat → List Int
  | 0 => []
  | k + 1 => if f k = true ∧ 0 < k then outL f k ++ [(k : Int)] else outL f k
def endsX (A B : Acc) : List Int := onceZ (endL (catG A.sh A.m B.sh) 1 2 (A.m + B.m))
def endsY (A B : Acc) : List Int := onceZ (endL (catG A.sh A.m B.sh) 3 4 (A.m + B.m))
def restX (A B : Acc) : List Int := onceR (endL (catG A.sh A.m B.sh) 1 2 (A.m + B.m))
def restY (A B : Acc) : List Int := onceR (endL (catG A.sh A.m B.sh) 3 4 (A.m + B.m))
theorem rest_len (zs : List Int) : (onceZ zs).length ≤ (onceR zs).length := by simp [onceR]
theorem rest_get {zs : List Int} {k : Nat} (h : k < (onceZ zs).length) : (rowI (onceR zs)).getD k .any = .iv (.g (.int .i64 ((onceZ zs).getD k 0))) := by
  rw [rowI_get _ _ (by have := rest_len zs; omega)]
  simp [onceR, List.getD, List.getElem?_append_left h]
theorem ends_le {A B : Acc} (hA : A.m ≤ 60) (hB : B.m ≤ 60) : (endsX A B).length ≤ 480 ∧ (endsY A B).length ≤ 480 := by
  have h := fun p q => compact_le ((endL (catG A.sh A.m B.sh) p q (A.m + B.m)).mergeSort fun x y => decide (x ≤ y))
  have h1 := h 1 2
  have h2 := h 3 4
  rw [sort_len, endL_len] at h1 h2
  exact ⟨by show (Lib.compact _).length ≤ 480; omega, by show (Lib.compact _).length ≤ 480; omega⟩
theorem rowX_get {A B : Acc} {k : Nat} (h : k < (endsX A B).length) : (rowI (restX A B)).getD k .any = .iv (.g (.int .i64 ((endsX A B).getD k 0))) := rest_get h
theorem rowY_get {A B : Acc} {k : Nat} (h : k < (endsY A B).length) : (rowI (restY A B)).getD k .any = .iv (.g (.int .i64 ((endsY A B).getD k 0))) := rest_get h
theorem rowB_get {f : Nat → Bool} {k : Nat} (h : k < 21) : (rowB f).getD k .any = .iv (.g (.bool (f k))) := by simp [rowB, List.getD, h]
theorem rowB_take (f : Nat → Bool) : List.take 21 (rowB f) = rowB f := List.take_of_length_le (by rw [rowB_len]; exact Nat.le_refl 21)
theorem rowB_upd {f : Nat → Bool} {a : Int} (h : 0 ≤ a) : (rowB f).set a.toNat (.iv (.g (.bool true))) = rowB (markF f a) := by
  refine List.ext_getElem? fun k => ?_
  simp only [rowB, List.getElem?_set, List.length_map, List.length_range, List.getElem?_map]
  by_cases hk : k < 21
  · by_cases e : a.toNat = k
    · subst e
      have : ((a.toNat : Nat) : Int) = a := by omega
      simp [hk, markF, this]
    · have : ¬ ((k : Int) = a) := by omega
      simp [hk, e, markF, this]
  · by_cases e : a.toNat = k
    · subst e; simp [hk]
    · simp [hk, e]
theorem rowB_set {a : Int} (h : 0 ≤ a ∧ a ≤ 20) (f : Nat → Bool) : List.take a.toNat (rowB f) ++ [CV.iv (.g (.bool true))] ++ List.drop (a.toNat + 1) (rowB f) = rowB (markF f a) := by
  rw [← rowB_upd h.1, List.set_eq_take_append_cons_drop, if_pos (by rw [rowB_len]; omega), List.append_assoc]; rfl
theorem chIn_1 {A B : Acc} {ys : List Int} {x : Int} {f : Nat → Bool} {j : Nat} (h1 : x ≤ 1000000) (h2 : ys.getD j 0 ≤ 1000000) (h3 : ofV A x (ys.getD j 0) ≠ ofV B x (ys.getD j 0)) : chIn A B ys x f (j + 1) = markF (markF (chIn A B ys x f j) (ofV A x (ys.getD j 0))) (ofV B x (ys.getD j 0)) := by simp only [chIn, stepF]; rw [if_pos ⟨h1, h2, h3⟩]
theorem chIn_2 {A B : Acc} {ys : List Int} {x : Int} {f : Nat → Bool} {j : Nat} (h : 1000000 < x ∨ 1000000 < ys.getD j 0 ∨ ofV A x (ys.getD j 0) = ofV B x (ys.getD j 0)) : chIn A B ys x f (j + 1) = chIn A B ys x f j := by
  simp only [chIn, stepF]; rw [if_neg]; rintro ⟨h1, h2, h3⟩; omega
theorem outL_1 {f : Nat → Bool} {k : Nat} (h : f k = true ∧ 0 < k) : outL f (k + 1) = outL f k ++ [(k : Int)] := by simp only [outL]; rw [if_pos h]
theorem outL_2 {f : Nat → Bool} {k : Nat} (h : f k = false ∨ (k : Int) ≤ 0) : outL f (k + 1) = outL f k := by
  simp only [outL]; rw [if_neg]; rintro ⟨h1, h2⟩
  rcases h with h | h
  · rw [h] at h1; cases h1
  · omega
theorem outL_le (f : Nat → Bool) : ∀ k, (outL f k).length ≤ k
  | 0 => Nat.le_refl _
  | k + 1 => by
    have := outL_le f k
    simp only [outL]; split
    · simp; omega
    · omega
theorem callGK_s {P : Program} {gs : List (Option Nat)} {b : Bool} {o : Oper} {os : List Oper} {s : AS} {K : AS → Prop} (h1 : b = true → callK P gs o os s K) (h2 : b = false → arun P gs os (s.put o.dst .any) K) : callGK P gs b o os s K := Or.inr ⟨h1, h2⟩
theorem outL_0 (f : Nat → Bool) : outL f 0 = [] := rfl
def conL (A B : Acc) : List Int := outL (chOut A B (endsX A B) (endsY A B) (endsX A B).length) 21

set_option maxRecDepth 100000 in
set_option maxHeartbeats 16000000 in
theorem con_p (a b : Acc) (ha : Bd a) (hb : Bd b) : CallsP Tryz.prog 45 [accP a, accP b] (.t (.one (.lst 1 (conL a b).length (intI fun i => (conL a b).getD i 0)))) := by
  have hz : True := trivial
  have s1 : True := trivial
  have s2 : True := trivial
  have hma := ha.m
  have hmb := hb.m
  have eX : onceZ (endL (catG a.sh a.m b.sh) 1 2 (a.m + b.m)) = endsX a b := rfl
  have eY : onceZ (endL (catG a.sh a.m b.sh) 3 4 (a.m + b.m)) = endsY a b := rfl
  have rX : onceR (endL (catG a.sh a.m b.sh) 1 2 (a.m + b.m)) = restX a b := rfl
  have rY : onceR (endL (catG a.sh a.m b.sh) 3 4 (a.m + b.m)) = restY a b := rfl
  have lX : (endsX a b).length ≤ (restX a b).length := rest_len _
  have lY : (endsY a b).length ≤ (restY a b).length := rest_len _
  have nXY := ends_le hma hmb
  refine CallsP_of Tryz.func45 rfl (by rw [Tryz.ntmps45]; simp) ?_
  simp only [Tryz.ntmps45, List.map_cons, List.map_nil, PT.tv, argEnv, Nat.zero_add, Nat.reduceAdd]
  repeat' (first
 | ((refine callGK_s ?_ ?_) <;> (intro hc; (try rw [hc]); (try simp only [Bool.and_eq_true, Bool.or_eq_true, Bool.not_eq_true', Bool.and_eq_false_iff, Bool.or_eq_false_iff, decide_eq_true_eq, decide_eq_false_iff_not, bne_iff_ne, beq_iff_eq, reduceCtorEq, bne_eq_false_iff_eq, beq_eq_false_iff_ne, Bool.not_eq_false', Int.not_le, Int.not_lt, Bool.not_not] at hc); (try (exfalso; first | contradiction | omega))))
 | ((with_reducible show AW _ _ _ _); first
 | (with_reducible refine AW_seq_k fun K hK => ?_)
 | (with_reducible refine AW_skip ?_)
 | (with_reducible refine AW_exit ?_)
 | (with_reducible refine AW_ret ?_)
 | (with_reducible refine AW_condI ?_)
 | (with_reducible refine AW_block ?_)
 | ((refine AW_rangeFuncH (k := 88) rfl Tryz.func88 rfl fnok_88 (by rw [Tryz.ntmps88]; simp) ?_ ?_ (fun l hlne A B hA hB => ?_)); (focus (simp (maxSteps := 2000000) only [go_sem, reduceIte, reduceCtorEq, Nat.reduceAdd, Nat.reduceLT, Nat.reduceLeDiff, Nat.reduceEqDiff, Nat.reduceMul, Nat.reduceSub, Nat.reduceBEq, Tryz.f45, Tryz.f88, Tryz.f65, zc_91, ty_26, fnok_65, zc_28, ty_28, fnok_39, sl_91, ar_91, ty_4, ty_91, ix_91, sl_24, zc_3, ty_24, le_24, ar_24, ty_3, fo_28, pl_28_0, pl_28_1, zc_24, of_26_2, ty_23, sl_116, zc_23, fnok_84, le_23, sl_23, ar_23, ty_67, zc_67, of_67_1, of_65_0, of_63_0, of_63_1, of_65_1, cellI, intI, accF0, accF1, accF2, accF3, hz, rowI_len, endL_len, endQ0, endQ1, endQ2, rowI_two, rowI_one, rowI_pur, rowB_pur, rowB_len, List.length_append, maxLen, Int.add_zero, eX, eY, rX, rY, rowB_take, rowB_has, cond_false, outL_0, s1, s2]; try exact True.intro)); (focus (simp (maxSteps := 2000000) only [go_sem, reduceIte, reduceCtorEq, Nat.reduceAdd, Nat.reduceLT, Nat.reduceLeDiff, Nat.reduceEqDiff, Nat.reduceMul, Nat.reduceSub, Nat.reduceBEq, Tryz.f45, Tryz.f88, Tryz.f65, zc_91, ty_26, fnok_65, zc_28, ty_28, fnok_39, sl_91, ar_91, ty_4, ty_91, ix_91, sl_24, zc_3, ty_24, le_24, ar_24, ty_3, fo_28, pl_28_0, pl_28_1, zc_24, of_26_2, ty_23, sl_116, zc_23, fnok_84, le_23, sl_23, ar_23, ty_67, zc_67, of_67_1, of_65_0, of_63_0, of_63_1, of_65_1, cellI, intI, accF0, accF1, accF2, accF3, hz, rowI_len, endL_len, endQ0, endQ1, endQ2, rowI_two, rowI_one, rowI_pur, rowB_pur, rowB_len, List.length_append, maxLen, Int.add_zero, eX, eY, rX, rY, rowB_take, rowB_has, cond_false, outL_0, s1, s2]; try exact True.intro)); simp only [Tryz.ntmps88, List.map_cons, List.map_nil, LV.tv, argEnv, yV, Nat.zero_add, Nat.reduceAdd]; clear hlne)
 | (with_reducible refine AW_eq (by assumption) ?_)
 | ((with_reducible show AW _ (Code.region _ _ _) _ _); first
 | (with_reducible refine AW_regionP 0 [0, 1, 2, 15] ?_)
 | (with_reducible refine AW_regionP 1 [0, 2, 3, 8, 9, 10, 15] ?_)
 | (with_reducible refine AW_regionP 2 [0, 2, 3, 5, 6, 8, 9, 10, 15] ?_)
 | (with_reducible refine AW_regionP 3 [0, 2, 3, 5, 6, 8, 9, 10, 15, 17, 18, 19] ?_)
 | (with_reducible refine AW_regionP 4 [0, 2, 5, 6, 8, 9, 10, 14, 15, 16, 17, 18, 19] ?_)
 | ((with_reducible refine AW_prune (c := Code.region 4 _ true) [2, 3, 5, 6, 15] ?_); (with_reducible refine AW_regionD ?_ ?_ ?_ ?_); (focus kernel_rfl); (focus kernel_rfl); (focus kernel_rfl))
 | (with_reducible refine AW_regionP 5 [0, 2, 3, 5, 6, 7, 8, 9, 10, 14, 15, 16, 17, 18, 19] ?_)
 | (with_reducible refine AW_regionP 6 [0, 2, 3, 5, 6, 7, 8, 9, 10, 14, 15, 16, 17, 18, 19, 23, 24, 25] ?_)
 | (with_reducible refine AW_regionP 7 [0, 2, 5, 6, 8, 9, 10, 14, 15, 16, 17, 18, 19, 23, 24, 25] ?_)
 | (with_reducible refine AW_regionP 8 [0, 2, 5, 6, 8, 9, 10, 17, 18, 19, 23, 24, 25] ?_)
 | (with_reducible refine AW_regionP 9 [5, 6, 8, 9, 10, 17, 18, 19, 23, 24, 25, 29, 30] ?_)
 | (with_reducible refine AW_regionP 10 [5, 6, 8, 9, 17, 18, 19, 23, 24, 25, 29, 30] ?_)
 | (with_reducible refine AW_regionP 11 [5, 6, 9, 10, 11, 17, 18, 19, 29, 30] ?_)
 | (with_reducible refine AW_regionP 12 [5, 6, 9, 10, 29, 30] ?_)
 | (with_reducible refine AW_regionP 13 [9, 29, 30] ?_)
 | ((with_reducible refine AW_prune (c := Code.region 13 _ true) [5, 6, 11] ?_); (with_reducible refine AW_regionD ?_ ?_ ?_ ?_); (focus kernel_rfl); (focus kernel_rfl); (focus kernel_rfl))
 | (with_reducible refine AW_regionP 14 [5, 6, 9] ?_))
 | ((with_reducible show AW _ (Code.loop _) _ _); first
 | ((with_reducible refine AW_loopQ (c := (Code.seq (Code.region 3 _ _) _)) (ι := Nat) [5, 6, 17, 18] (fun k => [(19, iA .i64 (k : Int))]) (fun k => [(5, [.slc 8 0 (4 * k) 1]), (6, [.slc 9 0 (4 * k) 1]), (8, rowI (endL (catG a.sh a.m b.sh) 1 2 k)), (9, rowI (endL (catG a.sh a.m b.sh) 3 4 k))]) (fun k => k ≤ a.m + b.m) (fun k => a.m + b.m - k) 0 ?lg3 ?l13 ?l23 ?li3 ?lr3); (case' lg3 => rintro k _); (case' li3 => try (first | trivial | omega | (simp; done) | (simp; omega))); (case' lr3 => rintro k hk KR hR3; skip; simp only [keepE, hupd, hset, lk, if_true, if_false, Nat.reduceEqDiff, reduceIte, List.cons_append, List.nil_append, cellI, intI, accF0, accF1, accF2, accF3, hz, rowI_len, endL_len, endQ0, endQ1, endQ2, rowI_two, rowI_one, rowI_pur, rowB_pur, rowB_len, List.length_append, maxLen, Int.add_zero, eX, eY, rX, rY, rowB_take, rowB_has, cond_false, outL_0, s1, s2]))
 | ((with_reducible refine AW_loopQ (c := (Code.seq (Code.region 6 _ _) _)) (ι := Nat) [5, 6, 8, 17, 18, 19, 23, 24] (fun j => [(25, iA .i64 (j : Int))]) (fun j => [(5, [.slc 8 0 (4 * k + 2 * j) 1]), (6, [.slc 9 0 (4 * k + 2 * j) 1]), (8, rowI (endQ (catG a.sh a.m b.sh) 1 2 k j)), (9, rowI (endQ (catG a.sh a.m b.sh) 3 4 k j))]) (fun j => j ≤ 2) (fun j => 2 - j) 0 ?lg6 ?l16 ?l26 ?li6 ?lr6); (case' lg6 => rintro j _); (case' li6 => try (first | trivial | omega | (simp; done) | (simp; omega))); (case' lr6 => rintro j hj KR hR6; (clear hz; rcases (by omega : j = 0 ∨ j = 1 ∨ j = 2) with hz | hz | hz); simp only [keepE, hupd, hset, lk, if_true, if_false, Nat.reduceEqDiff, reduceIte, List.cons_append, List.nil_append, cellI, intI, accF0, accF1, accF2, accF3, hz, rowI_len, endL_len, endQ0, endQ1, endQ2, rowI_two, rowI_one, rowI_pur, rowB_pur, rowB_len, List.length_append, maxLen, Int.add_zero, eX, eY, rX, rY, rowB_take, rowB_has, cond_false, outL_0, s1, s2]))
 | ((with_reducible refine AW_loopQ (c := (Code.seq (Code.region 1 _ _) _)) (ι := Nat) [0, 2, 8, 9] (fun i => [(10, iA .i64 (i : Int))]) (fun i => [(2, rowB (chOut a b (endsX a b) (endsY a b) i))]) (fun i => i ≤ (endsX a b).length) (fun i => (endsX a b).length - i) 0 ?lg1 ?l11 ?l21 ?li1 ?lr1); (case' lg1 => rintro i _); (case' li1 => try (first | trivial | omega | (simp; done) | (simp; omega))); (case' lr1 => rintro i hi KR hR1; skip; simp only [keepE, hupd, hset, lk, if_true, if_false, Nat.reduceEqDiff, reduceIte, List.cons_append, List.nil_append, cellI, intI, accF0, accF1, accF2, accF3, hz, rowI_len, endL_len, endQ0, endQ1, endQ2, rowI_two, rowI_one, rowI_pur, rowB_pur, rowB_len, List.length_append, maxLen, Int.add_zero, eX, eY, rX, rY, rowB_take, rowB_has, cond_false, outL_0, s1, s2]))
 | ((with_reducible refine AW_loopQ (c := (Code.seq (Code.region 4 _ _) _)) (ι := Nat) [0, 2, 5, 8, 9, 10, 14, 15] (fun j => [(16, iA .i64 (j : Int))]) (fun j => [(2, rowB (chIn a b (endsY a b) ((endsX a b).getD i 0) (chOut a b (endsX a b) (endsY a b) i) j))]) (fun j => j ≤ (endsY a b).length) (fun j => (endsY a b).length - j) 0 ?lg4 ?l14 ?l24 ?li4 ?lr4); (case' lg4 => rintro j _); (case' li4 => try (first | trivial | omega | (simp; done) | (simp; omega))); (case' lr4 => rintro j hj KR hR4; have o1 := ofV_bd ha ((endsX a b).getD i 0) ((endsY a b).getD j 0); have o2 := ofV_bd hb ((endsX a b).getD i 0) ((endsY a b).getD j 0); clear s1 s2; have s1 := rowB_set o1; have s2 := rowB_set o2; simp only [keepE, hupd, hset, lk, if_true, if_false, Nat.reduceEqDiff, reduceIte, List.cons_append, List.nil_append, cellI, intI, accF0, accF1, accF2, accF3, hz, rowI_len, endL_len, endQ0, endQ1, endQ2, rowI_two, rowI_one, rowI_pur, rowB_pur, rowB_len, List.length_append, maxLen, Int.add_zero, eX, eY, rX, rY, rowB_take, rowB_has, cond_false, outL_0, s1, s2]))
 | ((with_reducible refine AW_loopQ (c := (Code.seq (Code.region 9 _ _) _)) (ι := Nat) [29] (fun k => [(9, .t (.one (.slc 3 0 (outL (chOut a b (endsX a b) (endsY a b) (endsX a b).length) k).length 1))), (30, iA .i64 (k : Int))]) (fun k => [(3, rowI (outL (chOut a b (endsX a b) (endsY a b) (endsX a b).length) k))]) (fun k => k ≤ 21) (fun k => 21 - k) 0 ?lg9 ?l19 ?l29 ?li9 ?lr9); (case' lg9 => rintro k _); (case' li9 => try (first | trivial | omega | (simp; done) | (simp; omega))); (case' lr9 => rintro k hk KR hR9; have oL := outL_le (chOut a b (endsX a b) (endsY a b) (endsX a b).length) k; simp only [keepE, hupd, hset, lk, if_true, if_false, Nat.reduceEqDiff, reduceIte, List.cons_append, List.nil_append, cellI, intI, accF0, accF1, accF2, accF3, hz, rowI_len, endL_len, endQ0, endQ1, endQ2, rowI_two, rowI_one, rowI_pur, rowB_pur, rowB_len, List.length_append, maxLen, Int.add_zero, eX, eY, rX, rY, rowB_take, rowB_has, cond_false, outL_0, s1, s2]))))
 | ((first | (with_reducible refine And.intro ?_ ?_) | (with_reducible refine Need.mk ?_)); focus (first | exact True.intro | (with_reducible assumption) | omega | (refine ⟨?_, ?_⟩ <;> omega) | (intro _; first | exact True.intro | (with_reducible assumption) | omega) | (intros; (repeat' (first | exact True.intro | omega | (with_reducible assumption) | (with_reducible refine And.intro ?_ ?_))); done) | (simp (disch := omega) only [Bool.and_eq_true, Bool.or_eq_true, decide_eq_true_eq, bne_iff_ne, ne_eq] at *; first | done | omega | (intros; omega)) | (simp; done) | (simp; omega) | (simp +contextual; done) | (intro h; rw [h]; rfl) | (intros; simp_all; done)))
 | (with_reducible refine retK_n ?_)
 | (with_reducible refine retK_n' ?_)
 | (with_reducible refine retH_n rfl rfl rfl ?_)
 | (with_reducible refine retH_n' rfl rfl rfl ?_)
 | ((with_reducible show condN _ _ _ _ _ _); first
 | ((with_reducible refine condN_t ?_ ?_) <;> (intro hc; (try simp only [Bool.and_eq_true, Bool.or_eq_true, Bool.not_eq_true', Bool.and_eq_false_iff, Bool.or_eq_false_iff, decide_eq_true_eq, decide_eq_false_iff_not, bne_iff_ne, beq_iff_eq, reduceCtorEq, bne_eq_false_iff_eq, beq_eq_false_iff_ne, Bool.not_eq_false', Int.not_le, Int.not_lt, Bool.not_not] at hc); ((try have hg := cat_bd ha hb k (by omega)); (try (have e0 : k = a.m + b.m := (by omega); subst e0)); (try (have e0 : k = 21 := (by omega); subst e0)); (try (have e0 : j = (endsY a b).length := (by omega); subst e0)); (try (have e0 : i = (endsX a b).length := (by omega); subst e0))); (try (exfalso; first | contradiction | omega)))))
 | ((with_reducible refine And.intro ?_ ?_); focus ((with_reducible show chkR _ _ _ = true); kernel_rfl))
 | ((with_reducible show callN _ _ _ _ _ _ _ _ _ _); first
 | (refine callN_q (k := 39) fnok_39 (of_p _ _ _ (by have := ha.m; have := hb.m; omega)) ?_ ?_)
 | (refine callN_q (k := 84) fnok_84 (concat_f a.m a.sh b.m b.sh (by have := ha.m; omega) (by have := hb.m; omega) (fun i o hi ho => by (obtain rfl : o = 0 := by omega); rcases i with _ | _ | i <;> first | omega | exact IV.eqv_refl _)) ?_ ?_)
 | (refine callN_zq (k := 84) [7] ?_ ?_)
 | ((refine callN_i (k := 65) Tryz.func65 rfl fnok_65 (by rw [Tryz.ntmps65]; simp) ?_ ?_ (fun K hK => ?_)); (focus (first | exact True.intro | (with_reducible assumption) | omega | (refine ⟨?_, ?_⟩ <;> omega) | (intro _; first | exact True.intro | (with_reducible assumption) | omega) | (intros; (repeat' (first | exact True.intro | omega | (with_reducible assumption) | (with_reducible refine And.intro ?_ ?_))); done) | (simp (disch := omega) only [Bool.and_eq_true, Bool.or_eq_true, decide_eq_true_eq, bne_iff_ne, ne_eq] at *; first | done | omega | (intros; omega)) | (simp; done) | (simp; omega) | (simp +contextual; done) | (intro h; rw [h]; rfl) | (intros; simp_all; done))); (focus (simp [lsF])); simp only [Tryz.ntmps65, List.map_cons, List.map_nil, List.nil_append, List.cons_append, List.append_nil, LV.tv, argEnv, Nat.zero_add, Nat.reduceAdd]))
 | ((with_reducible show callDN _ _ _ _ _ _ _ _ _ _ _ _ _); first
 | (refine callDN_q (k := 39) fnok_39 (of_p _ _ _ (by have := ha.m; have := hb.m; omega)) ?_ ?_)
 | (refine callDN_tq (k := 85) fnok_85 (once_q _ _ (endL_len _ _ _ _) (by omega) _) ?_ rfl ?_ ?_))
 | ((with_reducible refine hR3 _ (k + 1) ?_); (try clear hR3 KR))
 | ((with_reducible refine hR6 _ (j + 1) ?_); (try clear hR6 KR))
 | ((with_reducible refine hR1 _ (i + 1) ?_); (try clear hR1 KR))
 | ((with_reducible refine hR4 _ (j + 1) ?_); (try clear hR4 KR))
 | ((with_reducible refine hR9 _ (k + 1) ?_); (try clear hR9 KR))
 | ((with_reducible refine Told.mk ?_); simp only [go_sem, reduceIte, reduceCtorEq, Nat.reduceAdd, Nat.reduceLT, Nat.reduceLeDiff, Nat.reduceEqDiff, Nat.reduceMul, Nat.reduceSub, Nat.reduceBEq, cellI, intI, accF0, accF1, accF2, accF3, hz, rowI_len, endL_len, endQ0, endQ1, endQ2, rowI_two, rowI_one, rowI_pur, rowB_pur, rowB_len, List.length_append, maxLen, Int.add_zero, eX, eY, rX, rY, rowB_take, rowB_has, cond_false, outL_0, s1, s2] <;> (first | exact True.intro | (((try simp (disch := omega) only [seaWrap, Int.natCast_add, Int.cast_ofNat_Int, and_true, true_and, and_self]); (repeat' (first | exact True.intro | omega | rfl | (with_reducible assumption) | (with_reducible refine And.intro ?_ ?_) | (exact all_succ (by assumption) (by assumption)) | ((exact wkC_eq rfl (rowI_iv _))) | ((exact wkC_eq rfl (rowB_iv _))) | ((intro c hc'; have := rowB_iv _ c hc'; cases c <;> first | trivial | exact this.elim)) | ((first | rw [chIn_1 (by omega) (by omega) (by omega)] | rw [chIn_2 (by omega)])) | ((first | rw [outL_1 ⟨hc.1, by omega⟩] | rw [outL_2 hc])) | ((simp only [List.length_append, List.length_cons, List.length_nil, Nat.zero_add]; done)))); done)) | (refine Stuck.out ?_)))
 | ((fail_if_success (with_reducible show AW _ _ _ _)); simp (maxSteps := 2000000) only [go_sem, reduceIte, reduceCtorEq, Nat.reduceAdd, Nat.reduceLT, Nat.reduceLeDiff, Nat.reduceEqDiff, Nat.reduceMul, Nat.reduceSub, Nat.reduceBEq, Tryz.f45, Tryz.f88, Tryz.f65, zc_91, ty_26, fnok_65, zc_28, ty_28, fnok_39, sl_91, ar_91, ty_4, ty_91, ix_91, sl_24, zc_3, ty_24, le_24, ar_24, ty_3, fo_28, pl_28_0, pl_28_1, zc_24, of_26_2, ty_23, sl_116, zc_23, fnok_84, le_23, sl_23, ar_23, ty_67, zc_67, of_67_1, of_65_0, of_63_0, of_63_1, of_65_1, cellI, intI, accF0, accF1, accF2, accF3, hz, rowI_len, endL_len, endQ0, endQ1, endQ2, rowI_two, rowI_one, rowI_pur, rowB_pur, rowB_len, List.length_append, maxLen, Int.add_zero, eX, eY, rX, rY, rowB_take, rowB_has, cond_false, outL_0, s1, s2])
 | ((fail_if_success (with_reducible show AW _ _ _ _)); simp (disch := omega) only [seaWrap, seaDiv, seaMod, rowX_get, rowY_get, rowB_get])
 | ((with_reducible show callN _ _ _ _ _ _ (.yld _) _ _ _); (refine callN_y (by simp only [lkL, if_true]; exact rfl) ?_ (by simp) ?_ ?_ (fun K hK => ?_)); (focus (first | exact True.intro | (with_reducible assumption) | omega | (refine ⟨?_, ?_⟩ <;> omega) | (intro _; first | exact True.intro | (with_reducible assumption) | omega) | (intros; (repeat' (first | exact True.intro | omega | (with_reducible assumption) | (with_reducible refine And.intro ?_ ?_))); done) | (simp (disch := omega) only [Bool.and_eq_true, Bool.or_eq_true, decide_eq_true_eq, bne_iff_ne, ne_eq] at *; first | done | omega | (intros; omega)) | (simp; done) | (simp; omega) | (simp +contextual; done) | (intro h; rw [h]; rfl) | (intros; simp_all; done))); (focus (simp [ltAll])); (focus (simp [lsF])); simp only [zipPut, gf, if_true, Nat.reduceAdd])
 | ((with_reducible refine hK _ ?_); clear hK K)
 | (with_reducible apply_assumption -exfalso only [*]))
  all_goals (try exact ⟨rowI_iv _, rfl, fun i o hi ho => by (obtain rfl : o = 0 := by omega); rw [Nat.add_zero, rowI_get _ _ hi]; exact IV.eqv_refl _⟩)

end Go.Proofs.YtbckibbgajfihaaGreat
