/- Ic: walks on abstract states. -/
import Derived.Test.YtbckibbgajfihaaGreatIb
set_option linter.unusedVariables false
set_option linter.unusedSimpArgs false
namespace Go.Proofs.YtbckibbgajfihaaGreat
open Go.RowKit Go.Sea
theorem ar_97 : arD Tryz.prog 97 = none := by kernel_rfl
theorem fnok_42 : fnOk Tryz.prog 42 = true := by kernel_rfl
theorem fnok_67 : fnOk Tryz.prog 67 = true := by kernel_rfl
theorem sl_97 : slD Tryz.prog 97 = some (1, 1, 4) := by kernel_rfl
theorem zc_4 : zeroC Tryz.prog 4 = some [.iv (.g (.bool false))] := by kernel_rfl
theorem mem_endL {g : Nat → Nat → Int} {p q : Nat} {z : Int} : ∀ m, z ∈ endL g p q m ↔ ∃ k, k < m ∧ (z = g k p ∨ z = g k q ∨ z = g k p + 1 ∨ z = g k q + 1)
  | 0 => ⟨fun h => by simp [endL] at h, fun ⟨k, hk, _⟩ => absurd hk (Nat.not_lt_zero _)⟩
  | m + 1 => by
    simp only [endL, List.mem_append, List.mem_cons, List.not_mem_nil, or_false]
    rw [mem_endL m]
    constructor
    · rintro ((⟨k, hk, h⟩ | h) | h)
      · exact ⟨k, by omega, h⟩
      · exact ⟨m, by omega, by omega⟩
      · exact ⟨m, by omega, by omega⟩
    · rintro ⟨k, hk, h⟩
      rcases Nat.lt_or_ge k m with h1 | h1
      · exact Or.inl (Or.inl ⟨k, h1, h⟩)
      · obtain rfl : k = m := by omega
        rcases h with h | h | h | h
        · exact Or.inl (Or.inr (Or.inl h))
        · exact Or.inl (Or.inr (Or.inr h))
        · exact Or.inr (Or.inl h)
        · exact Or.inr (Or.inr h)

theorem ofn_le {A : Acc} (hA : Bd A) {x y : Int} (h : ofV A x y ≠ 0) : x ≤ 1000000 ∧ y ≤ 1000000 := by
  obtain ⟨i, hi, h1, _⟩ := of_ex A.m h
  have := of_decide_eq_true h1
  have := hA.c i hi
  omega
theorem ne_le {A B : Acc} (hA : Bd A) (hB : Bd B) {x y : Int} (h : ofV A x y ≠ ofV B x y) : x ≤ 1000000 ∧ y ≤ 1000000 := by
  by_cases h0 : ofV A x y = 0
  · exact ofn_le hB (by omega)
  · exact ofn_le hA h0
def twoC (g : Nat → Nat → Int) (p q : Nat) (k o : Nat) : Int := if o = 0 then g k p else g k q
def spL (g : Nat → Nat → Int) (p q : Nat) : Nat → List Int
  | 0 => []
  | k + 1 => spL g p q k ++ [g k p, g k q]
theorem spL_0 (g : Nat → Nat → Int) (p q : Nat) : spL g p q 0 = [] := rfl
theorem spL_s (g : Nat → Nat → Int) (p q k : Nat) : spL g p q (k + 1) = spL g p q k ++ [g k p, g k q] := rfl
theorem spL_len (g : Nat → Nat → Int) (p q : Nat) : ∀ k, (spL g p q k).length = 2 * k
  | 0 => rfl
  | k + 1 => by simp only [spL, List.length_append, spL_len g p q k, List.length_cons, List.length_nil]; omega
theorem spL_get (g : Nat → Nat → Int) (p q : Nat) : ∀ n i, i < n → (spL g p q n).getD (i * 2) 0 = g i p ∧ (spL g p q n).getD (i * 2 + 1) 0 = g i q
  | 0, i, h => absurd h (Nat.not_lt_zero _)
  | n + 1, i, h => by
    have hl := spL_len g p q n
    simp only [spL, List.getD]
    by_cases hi : i < n
    · have := spL_get g p q n i hi
      simp only [List.getD] at this
      rw [List.getElem?_append_left (by omega), List.getElem?_append_left (by omega)]
      exact this
    · obtain rfl : i = n := by omega
      rw [List.getElem?_append_right (by omega), List.getElem?_append_right (by omega), show i * 2 - (spL g p q i).length = 0 by omega, show i * 2 + 1 - (spL g p q i).length = 1 by omega]
      exact ⟨rfl, rfl⟩
theorem sp_eqv (g : Nat → Nat → Int) (p q n : Nat) : ∀ i o, i < n → o < 2 → (civ ((rowI (spL g p q n)).getD (i * 2 + o) .any)).eqv (cellI (twoC g p q) i o) := fun i o hi ho => by
  have hl := spL_len g p q n
  have hg := spL_get g p q n i hi
  rw [rowI_get _ _ (by omega)]
  rcases o with _ | _ | o
  · rw [Nat.add_zero, hg.1]; exact IV.eqv_refl _
  · rw [hg.2]; exact IV.eqv_refl _
  · omega
theorem coords_f (n : Nat) (g : Nat → Nat → Int) (p q : Nat) (hn : n ≤ 200) (hg : ∀ i, i < n → (-1000000 ≤ g i p ∧ g i p ≤ 1000000) ∧ (-1000000 ≤ g i q ∧ g i q ≤ 1000000)) {F : Nat → Nat → IV} (hF : ∀ i o, i < n → o < 2 → (F i o).eqv (cellI (twoC g p q) i o)) : CallsP Tryz.prog 67 [.one (.lst 2 n F)] (.t (.one (.lst 1 (4 * n) (intI fun i => (crdL (twoC g p q) n).getD i 0)))) :=
  (coords_p n (twoC g p q) hn fun i hi => hg i hi).eqv ⟨⟨rfl, rfl, hF⟩, trivial⟩ (PV.eqv_refl _)
theorem mem_crd {g : Nat → Nat → Int} {z : Int} : ∀ m, z ∈ crdL g m ↔ ∃ k, k < m ∧ (z = g k 0 ∨ z = g k 0 + 1 ∨ z = g k 1 ∨ z = min 1000000 (g k 1 + 1))
  | 0 => ⟨fun h => by simp [crdL] at h, fun ⟨k, hk, _⟩ => absurd hk (Nat.not_lt_zero _)⟩
  | m + 1 => by
    simp only [crdL, List.mem_append, List.mem_cons, List.not_mem_nil, or_false]
    rw [mem_crd m]
    constructor
    · rintro (⟨k, hk, h⟩ | h)
      · exact ⟨k, by omega, h⟩
      · exact ⟨m, by omega, h⟩
    · rintro ⟨k, hk, h⟩
      rcases Nat.lt_or_ge k m with h1 | h1
      · exact Or.inl ⟨k, h1, h⟩
      · obtain rfl : k = m := by omega
        exact Or.inr h
def crX (A B : Acc) : List Int := crdL (twoC (catG A.sh A.m B.sh) 1 2) (A.m + B.m)
def crY (A B : Acc) : List Int := crdL (twoC (catG A.sh A.m B.sh) 3 4) (A.m + B.m)
theorem crX_len (A B : Acc) : (crX A B).length = 4 * (A.m + B.m) := crdL_len _ _
theorem crY_len (A B : Acc) : (crY A B).length = 4 * (A.m + B.m) := crdL_len _ _
theorem cr_raw {g : Nat → Nat → Int} {p q m : Nat} (hg : ∀ i, i < m → g i q ≤ 1000000) {z : Int} (hz : z ≤ 1000000) : z ∈ crdL (twoC g p q) m ↔ z ∈ endL g p q m := by
  rw [mem_crd, mem_endL]
  constructor
  · rintro ⟨k, hk, h⟩
    have := hg k hk
    simp only [twoC, if_true, Nat.one_ne_zero, if_false] at h
    refine ⟨k, hk, ?_⟩
    omega
  · rintro ⟨k, hk, h⟩
    have := hg k hk
    refine ⟨k, hk, ?_⟩
    simp only [twoC, if_true, Nat.one_ne_zero, if_false]
    omega
def conQ (A B : Acc) : List Int := outL (chOut A B (crX A B) (crY A B) (crX A B).length) 21
theorem outL_cg {f g : Nat → Bool} : ∀ k, (∀ n, n < k → f n = g n) → outL f k = outL g k
  | 0, _ => rfl
  | k + 1, h => by
    simp only [outL]
    rw [outL_cg k fun n hn => h n (by omega), h k (by omega)]
theorem conQ_eq {A B : Acc} (hA : Bd A) (hB : Bd B) : conQ A B = conL A B := by
  rw [con_raw]
  unfold conQ
  refine outL_cg 21 fun n hn => Bool.eq_iff_iff.2 ?_
  rw [chAll_iff, chAll_iff]
  have hc := cat_bd hA hB
  have e1 : ∀ {x : Int}, x ≤ 1000000 → (x ∈ crX A B ↔ x ∈ rawX A B) := fun hx => cr_raw (fun i hi => (hc i hi).2.1.2) hx
  have e2 : ∀ {y : Int}, y ≤ 1000000 → (y ∈ crY A B ↔ y ∈ rawY A B) := fun hy => cr_raw (fun i hi => (hc i hi).2.2.2.2) hy
  constructor
  · rintro ⟨x, hx, y, hy, h⟩; exact ⟨x, (e1 h.1.1).1 hx, y, (e2 h.1.2.1).1 hy, h⟩
  · rintro ⟨x, hx, y, hy, h⟩; exact ⟨x, (e1 h.1.1).2 hx, y, (e2 h.1.2.1).2 hy, h⟩
theorem outL_10 (f : Nat → Bool) : outL f 1 = [] := by simp [outL]
theorem rowI_duo (zs : List Int) (a b : Int) (i : Nat) : List.map (CV.purge i) (rowI zs ++ [.iv (.g (.int .i64 a)), .iv (.g (.int .i64 b))]) = rowI (zs ++ [a, b]) := rowI_two zs a b i
theorem cell_pur (g : Nat → Nat → Int) (E n i : Nat) : List.map (CV.purge i) (Go.Sea.lstC (cellI g) E n 0) = Go.Sea.lstC (cellI g) E n 0 := purge_iv i (lstC_iv _ _ _ _)
theorem all_pur (g1 g2 : Nat → Nat → Int) (E n m i : Nat) : List.map (CV.purge i) (Go.Sea.lstC (cellI g1) E n 0 ++ Go.Sea.lstC (cellI g2) E m 0) = Go.Sea.lstC (cellI g1) E n 0 ++ Go.Sea.lstC (cellI g2) E m 0 := by rw [List.map_append, cell_pur, cell_pur]
theorem all_iv (g1 g2 : Nat → Nat → Int) (E n m : Nat) : ∀ c, c ∈ Go.Sea.lstC (cellI g1) E n 0 ++ Go.Sea.lstC (cellI g2) E m 0 → isIv c := fun c hc => by
  rcases List.mem_append.1 hc with h | h
  · exact lstC_iv _ _ _ _ _ h
  · exact lstC_iv _ _ _ _ _ h
theorem frz_iv {i : Nat} {cs : List CV} : ∀ l : List CV, (∀ c, c ∈ l → isIv c) → List.map (frzC i cs) l = l
  | [], _ => rfl
  | c :: l, h => by
    have h1 := h c (List.mem_cons_self ..)
    rw [List.map_cons, frz_iv l fun c hc => h c (List.mem_cons_of_mem _ hc)]
    cases c with
    | iv c => rfl
    | _ => exact h1.elim
theorem rowI_frz (zs : List Int) (i : Nat) (cs : List CV) : List.map (frzC i cs) (rowI zs) = rowI zs := frz_iv _ (rowI_iv zs)
theorem all_get (g1 g2 : Nat → Nat → Int) (m1 m2 : Nat) : ∀ i o, i < m1 + m2 → o < 5 → (civ ((Go.Sea.lstC (cellI g1) 5 m1 0 ++ Go.Sea.lstC (cellI g2) 5 m2 0).getD (i * 5 + o) .any)).eqv (cellI (catG g1 m1 g2) i o) := fun i o hi ho => by
  have l1 := lstC_len (cellI g1) 5 m1 0
  by_cases h : i < m1
  · have := lstC_get (cellI g1) 5 m1 0 i o h ho
    rw [List.getD, List.getElem?_append_left (by rw [l1]; omega), this]
    have e : cellI g1 (0 + i) o = cellI (catG g1 m1 g2) i o := by unfold cellI catG; rw [if_pos h, Nat.zero_add]
    show (cellI g1 (0 + i) o).eqv _
    rw [e]; exact IV.eqv_refl _
  · have := lstC_get (cellI g2) 5 m2 0 (i - m1) o (by omega) ho
    rw [List.getD, List.getElem?_append_right (by rw [l1]; omega), l1, show i * 5 + o - m1 * 5 = (i - m1) * 5 + o by omega, this]
    have e : cellI g2 (0 + (i - m1)) o = cellI (catG g1 m1 g2) i o := by unfold cellI catG; rw [if_neg h, Nat.zero_add]
    show (cellI g2 (0 + (i - m1)) o).eqv _
    rw [e]; exact IV.eqv_refl _

set_option maxRecDepth 100000 in
set_option maxHeartbeats 16000000 in
theorem rcon_p (a b : Acc) (ha : Bd a) (hb : Bd b) : CallsP Tryz.prog 47 [accP a, accP b] (.t (.one (.lst 1 (conQ a b).length (intI fun i => (conQ a b).getD i 0)))) := by
  have f1 : (a.m + b.m) * 5 ≤ a.m * 5 + b.m * 5 := (by omega)
  have f2 : (a.m + b.m) * 2 ≤ 2 * (a.m + b.m) := (by omega)
  have eX : crdL (twoC (catG a.sh a.m b.sh) 1 2) (a.m + b.m) = crX a b := rfl
  have eY : crdL (twoC (catG a.sh a.m b.sh) 3 4) (a.m + b.m) = crY a b := rfl
  have lX := crX_len a b
  have lY := crY_len a b
  have s1 : True := trivial
  have s2 : True := trivial
  have hma := ha.m
  have hmb := hb.m
  refine CallsP_of Tryz.func47 rfl (by rw [Tryz.ntmps47]; simp) ?_
  simp only [Tryz.ntmps47, List.map_cons, List.map_nil, PT.tv, argEnv, Nat.zero_add, Nat.reduceAdd]
  repeat' (first
 | ((with_reducible show callN _ _ _ _ _ _ _ _ _ _); first
 | ((refine callN_q (k := 67) fnok_67 (coords_f (a.m + b.m) (catG a.sh a.m b.sh) 1 2 (by omega) (fun i hi => by have := cat_bd ha hb i hi; omega) ?_) ?_ ?_); (focus (exact fun i o hi ho => sp_eqv _ _ _ _ i o hi ho)))
 | ((refine callN_q (k := 67) fnok_67 (coords_f (a.m + b.m) (catG a.sh a.m b.sh) 3 4 (by omega) (fun i hi => by have := cat_bd ha hb i hi; omega) ?_) ?_ ?_); (focus (exact fun i o hi ho => sp_eqv _ _ _ _ i o hi ho))))
 | ((with_reducible show AW _ _ _ _); first
 | (with_reducible refine AW_seq_k fun K hK => ?_)
 | (with_reducible refine AW_skip ?_)
 | (with_reducible refine AW_exit ?_)
 | (with_reducible refine AW_ret ?_)
 | (with_reducible refine AW_condI ?_)
 | (with_reducible refine AW_block ?_)
 | ((with_reducible show AW _ (Code.region _ _ _) _ _); first
 | (with_reducible refine AW_regionP 0 [0, 1] ?_)
 | (with_reducible refine AW_regionP 1 [2, 3] ?_)
 | (with_reducible refine AW_regionP 2 [2, 3, 5] ?_)
 | ((with_reducible refine AW_prune (c := Code.region 3 _ true) [2, 3, 5, 6] ?_); (with_reducible refine AW_regionA (.alt 0 (.alt 1 (.alt 2 (.alt 3 (.alt 4 (.alt 5 (.alt 6 (.alt 7 (.fin) (.non)) (.non)) (.non)) (.non)) (.alt 4 (.alt 3 (.alt 5 (.alt 6 (.alt 7 (.fin) (.non)) (.non)) (.non)) (.alt 5 (.alt 3 (.alt 6 (.alt 7 (.fin) (.non)) (.non)) (.non)) (.non))) (.non))) (.alt 4 (.alt 2 (.alt 3 (.alt 5 (.alt 6 (.alt 7 (.fin) (.non)) (.non)) (.non)) (.alt 5 (.alt 3 (.alt 6 (.alt 7 (.fin) (.non)) (.non)) (.non)) (.non))) (.alt 5 (.alt 2 (.alt 3 (.alt 6 (.alt 7 (.fin) (.non)) (.non)) (.non)) (.non)) (.non))) (.non))) (.alt 4 (.alt 1 (.alt 2 (.alt 3 (.alt 5 (.alt 6 (.alt 7 (.fin) (.non)) (.non)) (.non)) (.alt 5 (.alt 3 (.alt 6 (.alt 7 (.fin) (.non)) (.non)) (.non)) (.non))) (.alt 5 (.alt 2 (.alt 3 (.alt 6 (.alt 7 (.fin) (.non)) (.non)) (.non)) (.non)) (.non))) (.alt 5 (.alt 1 (.alt 2 (.alt 3 (.alt 6 (.alt 7 (.fin) (.non)) (.non)) (.non)) (.non)) (.non)) (.non))) (.non))) (.alt 1 (.alt 0 (.alt 2 (.alt 3 (.alt 4 (.alt 5 (.alt 6 (.alt 7 (.fin) (.non)) (.non)) (.non)) (.non)) (.alt 4 (.alt 3 (.alt 5 (.alt 6 (.alt 7 (.fin) (.non)) (.non)) (.non)) (.alt 5 (.alt 3 (.alt 6 (.alt 7 (.fin) (.non)) (.non)) (.non)) (.non))) (.non))) (.alt 4 (.alt 2 (.alt 3 (.alt 5 (.alt 6 (.alt 7 (.fin) (.non)) (.non)) (.non)) (.alt 5 (.alt 3 (.alt 6 (.alt 7 (.fin) (.non)) (.non)) (.non)) (.non))) (.alt 5 (.alt 2 (.alt 3 (.alt 6 (.alt 7 (.fin) (.non)) (.non)) (.non)) (.non)) (.non))) (.non))) (.alt 2 (.alt 0 (.alt 3 (.alt 4 (.alt 5 (.alt 6 (.alt 7 (.fin) (.non)) (.non)) (.non)) (.non)) (.alt 4 (.alt 3 (.alt 5 (.alt 6 (.alt 7 (.fin) (.non)) (.non)) (.non)) (.alt 5 (.alt 3 (.alt 6 (.alt 7 (.fin) (.non)) (.non)) (.non)) (.non))) (.non))) (.alt 4 (.alt 0 (.alt 3 (.alt 5 (.alt 6 (.alt 7 (.fin) (.non)) (.non)) (.non)) (.alt 5 (.alt 3 (.alt 6 (.alt 7 (.fin) (.non)) (.non)) (.non)) (.non))) (.alt 5 (.alt 0 (.alt 3 (.alt 6 (.alt 7 (.fin) (.non)) (.non)) (.non)) (.non)) (.non))) (.non))) (.alt 4 (.alt 0 (.alt 2 (.alt 3 (.alt 5 (.alt 6 (.alt 7 (.fin) (.non)) (.non)) (.non)) (.alt 5 (.alt 3 (.alt 6 (.alt 7 (.fin) (.non)) (.non)) (.non)) (.non))) (.alt 5 (.alt 2 (.alt 3 (.alt 6 (.alt 7 (.fin) (.non)) (.non)) (.non)) (.non)) (.non))) (.alt 2 (.alt 0 (.alt 3 (.alt 5 (.alt 6 (.alt 7 (.fin) (.non)) (.non)) (.non)) (.alt 5 (.alt 3 (.alt 6 (.alt 7 (.fin) (.non)) (.non)) (.non)) (.non))) (.alt 5 (.alt 0 (.alt 3 (.alt 6 (.alt 7 (.fin) (.non)) (.non)) (.non)) (.non)) (.non))) (.alt 5 (.alt 0 (.alt 2 (.alt 3 (.alt 6 (.alt 7 (.fin) (.non)) (.non)) (.non)) (.non)) (.alt 2 (.alt 0 (.alt 3 (.alt 6 (.alt 7 (.fin) (.non)) (.non)) (.non)) (.non)) (.non))) (.non)))) (.non)))) (.alt 4 (.alt 0 (.alt 1 (.alt 2 (.alt 3 (.alt 5 (.alt 6 (.alt 7 (.fin) (.non)) (.non)) (.non)) (.alt 5 (.alt 3 (.alt 6 (.alt 7 (.fin) (.non)) (.non)) (.non)) (.non))) (.alt 5 (.alt 2 (.alt 3 (.alt 6 (.alt 7 (.fin) (.non)) (.non)) (.non)) (.non)) (.non))) (.alt 5 (.alt 1 (.alt 2 (.alt 3 (.alt 6 (.alt 7 (.fin) (.non)) (.non)) (.non)) (.non)) (.non)) (.non))) (.alt 1 (.alt 0 (.alt 2 (.alt 3 (.alt 5 (.alt 6 (.alt 7 (.fin) (.non)) (.non)) (.non)) (.alt 5 (.alt 3 (.alt 6 (.alt 7 (.fin) (.non)) (.non)) (.non)) (.non))) (.alt 5 (.alt 2 (.alt 3 (.alt 6 (.alt 7 (.fin) (.non)) (.non)) (.non)) (.non)) (.non))) (.alt 2 (.alt 0 (.alt 3 (.alt 5 (.alt 6 (.alt 7 (.fin) (.non)) (.non)) (.non)) (.alt 5 (.alt 3 (.alt 6 (.alt 7 (.fin) (.non)) (.non)) (.non)) (.non))) (.alt 5 (.alt 0 (.alt 3 (.alt 6 (.alt 7 (.fin) (.non)) (.non)) (.non)) (.non)) (.non))) (.alt 5 (.alt 0 (.alt 2 (.alt 3 (.alt 6 (.alt 7 (.fin) (.non)) (.non)) (.non)) (.non)) (.alt 2 (.alt 0 (.alt 3 (.alt 6 (.alt 7 (.fin) (.non)) (.non)) (.non)) (.non)) (.non))) (.non)))) (.alt 5 (.alt 0 (.alt 1 (.alt 2 (.alt 3 (.alt 6 (.alt 7 (.fin) (.non)) (.non)) (.non)) (.non)) (.non)) (.alt 1 (.alt 0 (.alt 2 (.alt 3 (.alt 6 (.alt 7 (.fin) (.non)) (.non)) (.non)) (.non)) (.alt 2 (.alt 0 (.alt 3 (.alt 6 (.alt 7 (.fin) (.non)) (.non)) (.non)) (.non)) (.non))) (.non))) (.non)))) (.non)))) [2, 3, 5, 6, 7] (⟨[(2, .t (.one (.ptr 0 0))), (3, .t (.one (.ptr 1 0))), (5, .t (.one (.iv (.g (.slice none 0 0))))), (6, .t (.one (.iv (.g (.slice none 0 0))))), (7, .t (.one (.slc 2 0 (a.m + b.m) 5)))], [some [.iv (.g (.int .i64 a.ver)), .iv (.g (.int .i64 a.frm)), .iv (.lst 5 a.m (cellI a.sh)), .iv (.lst 1 a.q (intI a.sg))], some [.iv (.g (.int .i64 b.ver)), .iv (.g (.int .i64 b.frm)), .iv (.lst 5 b.m (cellI b.sh)), .iv (.lst 1 b.q (intI b.sg))], some (Go.Sea.lstC (cellI a.sh) 5 a.m 0 ++ Go.Sea.lstC (cellI b.sh) 5 b.m 0)], 110, [], LP.top⟩) ?hm3 ?hb3 ?hd3 ?hc3 ?hh3 ?hq3); (case' hm3 => kernel_rfl); (case' hb3 => kernel_rfl); (case' hd3 => kernel_rfl); (case' hc3 => kernel_rfl); (case' hh3 => (simp only [List.toList_toArray, List.length_cons, List.length_nil, Nat.reduceAdd]; repeat' (first | ((with_reducible show runTr _ _ _ _ _ _); first | exact runTr_nonI | (with_reducible refine runTr_finI ?_) | (with_reducible refine runTr_altI (fun K hK => ?_) ?_)) | ((with_reducible show opTr _ _ _ _ _ _); simp (maxSteps := 2000000) only [go_sem, reduceIte, reduceCtorEq, Nat.reduceAdd, Nat.reduceLT, Nat.reduceLeDiff, Nat.reduceEqDiff, Nat.reduceMul, Nat.reduceSub, Nat.reduceBEq, Tryz.f47, sl_23, zc_67, of_26_2, ty_23, le_23, ar_23, of_67_1, of_65_0, ty_63, sl_95, zc_63, of_65_1, fnok_67, sl_97, zc_4, le_24, ty_26, sl_24, ar_24, ty_3, zc_28, fo_28, pl_28_0, pl_28_1, fnok_42, ar_97, ty_4, zc_3, cellI, intI, accF0, accF1, accF2, accF3, rowI_len, spL_len, spL_0, rowI_duo, rowI_one, rowI_pur, rowB_pur, rowB_len, List.length_append, maxLen, eX, eY, Int.reduceToNat, rowB_take, rowB_has, cond_false, outL_10, cell_pur, all_pur, Go.Sea.lstC_len, rowI_frz, f1, f2, s1, s2]) | ((with_reducible refine hK _ ?_); clear hK K) | ((with_reducible show Leaf _ _); (try simp only [keepE, lk, if_true, if_false, Nat.reduceEqDiff, reduceIte]); exact ⟨rfl⟩) | exact True.intro | (with_reducible refine And.intro ?_ ?_) | omega))))
 | (with_reducible refine AW_frz (c := Code.region 4 _ false) [2] ?_ (AW_regionP 4 [2, 3, 5, 6, 7] ?_))
 | (with_reducible refine AW_regionP 5 [2, 3, 5, 6, 7, 8] ?_)
 | (with_reducible refine AW_regionP 6 [2, 3, 5, 6, 7, 8] ?_)
 | (with_reducible refine AW_regionP 7 [2, 3, 5, 6, 7, 8] ?_)
 | (with_reducible refine AW_regionP 8 [2, 3, 5, 6, 7, 8] ?_)
 | (with_reducible refine AW_frz (c := Code.region 9 _ false) [3, 4] ?_ (AW_regionP 9 [2, 3, 5, 6] ?_))
 | (with_reducible refine AW_regionP 10 [2, 3, 6, 9] ?_)
 | (with_reducible refine AW_regionP 11 [2, 3, 9, 10] ?_)
 | (with_reducible refine AW_regionP 12 [2, 3, 9, 10, 11] ?_)
 | (with_reducible refine AW_regionP 13 [2, 3, 9, 10, 11, 12] ?_)
 | (with_reducible refine AW_regionP 14 [2, 3, 9, 10, 11, 12] ?_)
 | (with_reducible refine AW_regionP 15 [2, 3, 9, 10, 11, 12] ?_)
 | (with_reducible refine AW_regionP 16 [2, 3, 9, 10, 11, 12, 13] ?_)
 | (with_reducible refine AW_regionP 17 [2, 3, 9, 10, 11, 12, 13] ?_)
 | ((with_reducible refine AW_prune (c := Code.region 18 _ true) [2, 3, 9, 10, 11, 12, 13] ?_); (with_reducible refine AW_regionD ?_ ?_ ?_ ?_); (focus kernel_rfl); (focus kernel_rfl); (focus kernel_rfl))
 | ((with_reducible refine AW_prune (c := Code.region 19 _ true) [2, 3, 9, 10, 11, 12, 13, 14] ?_); (with_reducible refine AW_regionD ?_ ?_ ?_ ?_); (focus kernel_rfl); (focus kernel_rfl); (focus kernel_rfl))
 | (with_reducible refine AW_regionP 20 [2, 3, 9, 10, 11, 12, 13, 14, 15] ?_)
 | (with_reducible refine AW_regionP 21 [2, 3, 9, 10, 11, 12, 13, 14, 15] ?_)
 | (with_reducible refine AW_regionP 22 [2, 3, 9, 10, 11, 12, 13, 15] ?_)
 | (with_reducible refine AW_regionP 23 [11] ?_)
 | (with_reducible refine AW_regionP 24 [11, 16] ?_)
 | (with_reducible refine AW_regionP 25 [11, 16, 17] ?_)
 | (with_reducible refine AW_regionP 26 [11, 16, 17] ?_)
 | (with_reducible refine AW_regionP 27 [11, 16, 17] ?_)
 | (with_reducible refine AW_regionP 28 [11, 16, 17] ?_)
 | (with_reducible refine AW_regionP 29 [16] ?_))
 | ((with_reducible show AW _ (Code.loop _) _ _); first
 | ((with_reducible refine AW_loopQ (c := (Code.seq (Code.seq (Code.region 5 _ _) _) _)) (ι := Nat) [2, 3] (fun k => [(5, .t (.one (.slc 3 0 k 2))), (6, .t (.one (.slc 4 0 k 2))), (7, .t (.one (.iv (.lst 5 (a.m + b.m) (cellI (catG a.sh a.m b.sh)))))), (8, iA .i64 (k : Int))]) (fun k => [(3, rowI (spL (catG a.sh a.m b.sh) 1 2 k)), (4, rowI (spL (catG a.sh a.m b.sh) 3 4 k))]) (fun k => k ≤ a.m + b.m) (fun k => a.m + b.m - k) 0 ?lg5 ?l15 ?l25 ?li5 ?lr5); (case' lg5 => rintro k _); (case' li5 => try (first | trivial | omega | (simp; done) | (simp; omega))); (case' lr5 => rintro k hk KR hR5; skip; simp only [keepE, hupd, hset, lk, if_true, if_false, Nat.reduceEqDiff, reduceIte, List.cons_append, List.nil_append, cellI, intI, accF0, accF1, accF2, accF3, rowI_len, spL_len, spL_0, rowI_duo, rowI_one, rowI_pur, rowB_pur, rowB_len, List.length_append, maxLen, eX, eY, Int.reduceToNat, rowB_take, rowB_has, cond_false, outL_10, cell_pur, all_pur, Go.Sea.lstC_len, rowI_frz, f1, f2, s1, s2]))
 | ((with_reducible refine AW_loopQ (c := (Code.seq (Code.seq (Code.region 13 _ _) _) _)) (ι := Nat) [2, 3, 9, 10, 11] (fun i => [(12, iA .i64 (i : Int))]) (fun i => [(5, rowB (chOut a b (crX a b) (crY a b) i))]) (fun i => i ≤ (crX a b).length) (fun i => (crX a b).length - i) 0 ?lg13 ?l113 ?l213 ?li13 ?lr13); (case' lg13 => rintro i _); (case' li13 => try (first | trivial | omega | (simp; done) | (simp; omega))); (case' lr13 => rintro i hi KR hR13; skip; simp only [keepE, hupd, hset, lk, if_true, if_false, Nat.reduceEqDiff, reduceIte, List.cons_append, List.nil_append, cellI, intI, accF0, accF1, accF2, accF3, rowI_len, spL_len, spL_0, rowI_duo, rowI_one, rowI_pur, rowB_pur, rowB_len, List.length_append, maxLen, eX, eY, Int.reduceToNat, rowB_take, rowB_has, cond_false, outL_10, cell_pur, all_pur, Go.Sea.lstC_len, rowI_frz, f1, f2, s1, s2]))
 | ((with_reducible refine AW_loopQ (c := (Code.seq (Code.seq (Code.region 16 _ _) _) _)) (ι := Nat) [2, 3, 9, 10, 11, 12] (fun j => [(13, iA .i64 (j : Int))]) (fun j => [(5, rowB (chIn a b (crY a b) ((crX a b).getD i 0) (chOut a b (crX a b) (crY a b) i) j))]) (fun j => j ≤ (crY a b).length) (fun j => (crY a b).length - j) 0 ?lg16 ?l116 ?l216 ?li16 ?lr16); (case' lg16 => rintro j _); (case' li16 => try (first | trivial | omega | (simp; done) | (simp; omega))); (case' lr16 => rintro j hj KR hR16; have o1 := ofV_bd ha ((crX a b).getD i 0) ((crY a b).getD j 0); have o2 := ofV_bd hb ((crX a b).getD i 0) ((crY a b).getD j 0); clear s1 s2; have s1 := rowB_set o1; have s2 := rowB_set o2; simp only [keepE, hupd, hset, lk, if_true, if_false, Nat.reduceEqDiff, reduceIte, List.cons_append, List.nil_append, cellI, intI, accF0, accF1, accF2, accF3, rowI_len, spL_len, spL_0, rowI_duo, rowI_one, rowI_pur, rowB_pur, rowB_len, List.length_append, maxLen, eX, eY, Int.reduceToNat, rowB_take, rowB_has, cond_false, outL_10, cell_pur, all_pur, Go.Sea.lstC_len, rowI_frz, f1, f2, s1, s2]))
 | ((with_reducible refine AW_loopQ (c := (Code.seq (Code.seq (Code.region 25 _ _) _) _)) (ι := Nat) [11] (fun k => [(16, .t (.one (.slc 6 0 (outL (chOut a b (crX a b) (crY a b) (crX a b).length) k).length 1))), (17, iA .i64 (k : Int))]) (fun k => [(6, rowI (outL (chOut a b (crX a b) (crY a b) (crX a b).length) k))]) (fun k => 1 ≤ k ∧ k ≤ 21) (fun k => 21 - k) 1 ?lg25 ?l125 ?l225 ?li25 ?lr25); (case' lg25 => rintro k _); (case' li25 => try (first | trivial | omega | (simp; done) | (simp; omega))); (case' lr25 => rintro k hk KR hR25; have oL := outL_le (chOut a b (crX a b) (crY a b) (crX a b).length) k; simp only [keepE, hupd, hset, lk, if_true, if_false, Nat.reduceEqDiff, reduceIte, List.cons_append, List.nil_append, cellI, intI, accF0, accF1, accF2, accF3, rowI_len, spL_len, spL_0, rowI_duo, rowI_one, rowI_pur, rowB_pur, rowB_len, List.length_append, maxLen, eX, eY, Int.reduceToNat, rowB_take, rowB_has, cond_false, outL_10, cell_pur, all_pur, Go.Sea.lstC_len, rowI_frz, f1, f2, s1, s2]))))
 | ((first | (with_reducible refine And.intro ?_ ?_) | (with_reducible refine Need.mk ?_)); focus (first | exact all_iv _ _ _ _ _ | exact ⟨rowI_iv _, rowI_iv _⟩ | exact rowI_iv _ | first | exact True.intro | (with_reducible assumption) | omega | (refine ⟨?_, ?_⟩ <;> omega) | (intro _; first | exact True.intro | (with_reducible assumption) | omega) | (intros; (repeat' (first | exact True.intro | omega | (with_reducible assumption) | (with_reducible refine And.intro ?_ ?_))); done) | (simp (disch := omega) only [Bool.and_eq_true, Bool.or_eq_true, decide_eq_true_eq, bne_iff_ne, ne_eq] at *; first | done | omega | (intros; omega)) | (simp; done) | (simp; omega) | (simp +contextual; done) | (intro h; rw [h]; rfl) | (intro hq; have hq2 := hq; simp only [Bool.and_eq_true, Bool.or_eq_true, Bool.not_eq_true', Bool.not_not, Bool.not_eq_false', decide_eq_true_eq, decide_eq_false_iff_not] at hq2; (repeat' (first | exact hq | (with_reducible refine And.intro ?_ ?_) | omega | (simp_all; done))); done) | (intros; simp_all; done)))
 | (with_reducible refine retK_n ?_)
 | (with_reducible refine retK_n' ?_)
 | (with_reducible refine retH_n rfl rfl rfl ?_)
 | (with_reducible refine retH_n' rfl rfl rfl ?_)
 | ((with_reducible show condN _ _ _ _ _ _); first
 | ((with_reducible refine condN_t ?_ ?_) <;> (intro hc; (try simp only [Bool.and_eq_true, Bool.or_eq_true, Bool.not_eq_true', Bool.and_eq_false_iff, Bool.or_eq_false_iff, decide_eq_true_eq, decide_eq_false_iff_not, bne_iff_ne, beq_iff_eq, reduceCtorEq, bne_eq_false_iff_eq, beq_eq_false_iff_ne, Bool.not_eq_false', Int.not_le, Int.not_lt, Bool.not_not] at hc); ((try have hg := cat_bd ha hb k (by omega)); (try (have e0 : k = a.m + b.m := (by omega); subst e0)); (try (have e0 : k = 21 := (by omega); subst e0)); (try (have e0 : j = (crY a b).length := (by omega); subst e0)); (try (have e0 : i = (crX a b).length := (by omega); subst e0))); (try (exfalso; first | contradiction | omega)))))
 | ((with_reducible refine And.intro ?_ ?_); focus (first | ((with_reducible show chkS _ _ _ _ = true); kernel_rfl) | ((with_reducible show holesB _ _ _ = true); kernel_rfl)))
 | ((with_reducible refine And.intro ?_ ?_); focus ((with_reducible show chkR _ _ _ = true); kernel_rfl))
 | ((with_reducible show callDN _ _ _ _ _ _ _ _ _ _ _ _ _); first
 | (refine callDN_q (k := 42) fnok_42 (rof_p a _ _ (by omega)) ?_ ?_)
 | (refine callDN_q (k := 42) fnok_42 (rof_p b _ _ (by omega)) ?_ ?_))
 | ((with_reducible refine hR5 _ (k + 1) ?_); (try clear hR5 KR))
 | ((with_reducible refine hR13 _ (i + 1) ?_); (try clear hR13 KR))
 | ((with_reducible refine hR16 _ (j + 1) ?_); (try clear hR16 KR))
 | ((with_reducible refine hR25 _ (k + 1) ?_); (try clear hR25 KR))
 | ((with_reducible refine Told.mk ?_); simp only [go_sem, reduceIte, reduceCtorEq, Nat.reduceAdd, Nat.reduceLT, Nat.reduceLeDiff, Nat.reduceEqDiff, Nat.reduceMul, Nat.reduceSub, Nat.reduceBEq, cellI, intI, accF0, accF1, accF2, accF3, rowI_len, spL_len, spL_0, rowI_duo, rowI_one, rowI_pur, rowB_pur, rowB_len, List.length_append, maxLen, eX, eY, Int.reduceToNat, rowB_take, rowB_has, cond_false, outL_10, cell_pur, all_pur, Go.Sea.lstC_len, rowI_frz, f1, f2, s1, s2] <;> (first | exact True.intro | (((try simp (disch := omega) only [seaWrap, Int.natCast_add, Int.cast_ofNat_Int, and_true, true_and, and_self]); (repeat' (first | exact True.intro | omega | rfl | (with_reducible assumption) | (with_reducible refine And.intro ?_ ?_) | (exact all_succ (by assumption) (by assumption)) | ((exact wkC_eq rfl (rowI_iv _))) | ((exact wkC_eq rfl (rowB_iv _))) | ((intro c hc'; have := rowB_iv _ c hc'; cases c <;> first | trivial | exact this.elim)) | ((first | rw [chIn_1 (by have := ne_le ha hb hc; omega) (by have := ne_le ha hb hc; omega) hc] | rw [chIn_2 (by omega)])) | ((first | rw [outL_1 ⟨hc, by omega⟩] | rw [outL_2 (Or.inl hc)])) | ((rw [spL_s])) | ((simp only [List.length_append, List.length_cons, List.length_nil, Nat.zero_add]; done)) | ((exact Or.inr ⟨rfl, fun i o hi ho => all_get _ _ _ _ i o hi ho⟩)) | ((exact Or.inr fun i o hi ho => all_get _ _ _ _ i o hi ho)))); done)) | (refine Stuck.out ?_)))
 | ((fail_if_success (with_reducible show AW _ _ _ _)); simp (maxSteps := 2000000) only [go_sem, reduceIte, reduceCtorEq, Nat.reduceAdd, Nat.reduceLT, Nat.reduceLeDiff, Nat.reduceEqDiff, Nat.reduceMul, Nat.reduceSub, Nat.reduceBEq, Tryz.f47, sl_23, zc_67, of_26_2, ty_23, le_23, ar_23, of_67_1, of_65_0, ty_63, sl_95, zc_63, of_65_1, fnok_67, sl_97, zc_4, le_24, ty_26, sl_24, ar_24, ty_3, zc_28, fo_28, pl_28_0, pl_28_1, fnok_42, ar_97, ty_4, zc_3, cellI, intI, accF0, accF1, accF2, accF3, rowI_len, spL_len, spL_0, rowI_duo, rowI_one, rowI_pur, rowB_pur, rowB_len, List.length_append, maxLen, eX, eY, Int.reduceToNat, rowB_take, rowB_has, cond_false, outL_10, cell_pur, all_pur, Go.Sea.lstC_len, rowI_frz, f1, f2, s1, s2])
 | ((fail_if_success (with_reducible show AW _ _ _ _)); simp (disch := omega) only [seaWrap, seaDiv, seaMod, rowB_get])
 | ((with_reducible refine hK _ ?_); clear hK K)
 | (with_reducible apply_assumption -exfalso only [*]))
  all_goals (first | (refine ⟨rfl, fun i o hi ho => ?_⟩; obtain rfl : o = 0 := (by omega); rw [Nat.add_zero, rowI_get _ _ hi]; exact IV.eqv_refl _) | skip)

end Go.Proofs.YtbckibbgajfihaaGreat
