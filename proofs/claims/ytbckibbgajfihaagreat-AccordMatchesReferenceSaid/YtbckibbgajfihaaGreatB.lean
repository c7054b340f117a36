/- B: walks on abstract states. -/
import Derived.Test.YtbckibbgajfihaaGreatA
set_option linter.unusedVariables false
set_option linter.unusedSimpArgs false
namespace Go.Proofs.YtbckibbgajfihaaGreat
open Go.RowKit Go.Sea
theorem ar_22 : arD Tryz.prog 22 = none := by kernel_rfl
theorem ar_23 : arD Tryz.prog 23 = none := by kernel_rfl
theorem ar_24 : arD Tryz.prog 24 = none := by kernel_rfl
theorem fnok_36 : fnOk Tryz.prog 36 = true := by kernel_rfl
theorem fnok_64 : fnOk Tryz.prog 64 = true := by kernel_rfl
theorem fnok_63 : fnOk Tryz.prog 63 = true := by kernel_rfl
theorem fo_26 : fieldsOk Tryz.prog 26 = true := by kernel_rfl
theorem le_22 : lenD Tryz.prog 22 = some true := by kernel_rfl
theorem le_23 : lenD Tryz.prog 23 = some true := by kernel_rfl
theorem le_24 : lenD Tryz.prog 24 = some true := by kernel_rfl
theorem of_26_1 : offOf Tryz.prog 26 1 = some 1 := by kernel_rfl
theorem of_26_2 : offOf Tryz.prog 26 2 = some 2 := by kernel_rfl
theorem sl_22 : slD Tryz.prog 22 = some (4, 64, 26) := by kernel_rfl
theorem sl_23 : slD Tryz.prog 23 = some (5, 40, 67) := by kernel_rfl
theorem sl_24 : slD Tryz.prog 24 = some (1, 8, 3) := by kernel_rfl
theorem ty_28 : tyD Tryz.prog 28 = some (true, 2) := by kernel_rfl
theorem ty_23 : tyD Tryz.prog 23 = some (false, 1) := by kernel_rfl
theorem ty_26 : tyD Tryz.prog 26 = some (true, 4) := by kernel_rfl
theorem ty_67 : tyD Tryz.prog 67 = some (true, 5) := by kernel_rfl
theorem zc_26 : zeroC Tryz.prog 26 = some [.iv (.g (.int .i64 0)), .iv (.g (.int .i64 0)), .iv (.g (.slice none 0 0)), .iv (.g (.slice none 0 0))] := by kernel_rfl
theorem zc_67 : zeroC Tryz.prog 67 = some [.iv (.g (.int .i64 0)), .iv (.g (.int .i64 0)), .iv (.g (.int .i64 0)), .iv (.g (.int .i64 0)), .iv (.g (.int .i64 0))] := by kernel_rfl

structure Acc where
  ver : Int
  frm : Int
  m : Nat
  sh : Nat → Nat → Int
  q : Nat
  sg : Nat → Int
def acc0 : Acc := ⟨0, 0, 0, fun _ _ => 0, 0, fun _ => 0⟩
def cellI (g : Nat → Nat → Int) (i o : Nat) : IV := .g (.int .i64 (g i o))
def intI (s : Nat → Int) (i o : Nat) : IV := .g (.int .i64 (s i))
def accF (a : Nat → Acc) : Nat → Nat → IV
  | i, 0 => .g (.int .i64 (a i).ver)
  | i, 1 => .g (.int .i64 (a i).frm)
  | i, 2 => .lst 5 (a i).m (cellI (a i).sh)
  | i, _ + 3 => .lst 1 (a i).q (intI (a i).sg)
theorem accF0 (a : Nat → Acc) (i : Nat) : accF a i 0 = .g (.int .i64 (a i).ver) := rfl
theorem accF1 (a : Nat → Acc) (i : Nat) : accF a i 1 = .g (.int .i64 (a i).frm) := rfl
theorem accF2 (a : Nat → Acc) (i : Nat) : accF a i 2 = .lst 5 (a i).m (cellI (a i).sh) := rfl
theorem accF3 (a : Nat → Acc) (i : Nat) : accF a i 3 = .lst 1 (a i).q (intI (a i).sg) := rfl
abbrev accP (a : Acc) : PT := .agg [.g (.int .i64 a.ver), .g (.int .i64 a.frm), .lst 5 a.m (cellI a.sh), .lst 1 a.q (intI a.sg)]
abbrev accC (a : Acc) : List CV := [.iv (.g (.int .i64 a.ver)), .iv (.g (.int .i64 a.frm)), .iv (.lst 5 a.m (cellI a.sh)), .iv (.lst 1 a.q (intI a.sg))]
def M63 : Nat := 9223372036854775807
structure Acc.Ok (a : Acc) : Prop where
  m : a.m ≤ 9223372036854775807
  q : a.q ≤ 9223372036854775807
def ofF (sh : Nat → Nat → Int) (x y : Int) : Nat → Int
  | 0 => 0
  | k + 1 => if hasB (sh k 1) (sh k 2) (sh k 3) (sh k 4) x y = true ∧ (ofF sh x y k = 0 ∨ sh k 0 < ofF sh x y k) then sh k 0 else ofF sh x y k
def ofV (a : Acc) (x y : Int) : Int := ofF a.sh x y a.m
theorem ofF_1 {sh : Nat → Nat → Int} {x y : Int} {k : Nat} (h : hasB (sh k 1) (sh k 2) (sh k 3) (sh k 4) x y = true ∧ (ofF sh x y k = 0 ∨ sh k 0 < ofF sh x y k)) : ofF sh x y (k + 1) = sh k 0 := by simp only [ofF]; rw [if_pos h]
theorem ofF_2 {sh : Nat → Nat → Int} {x y : Int} {k : Nat} (h : hasB (sh k 1) (sh k 2) (sh k 3) (sh k 4) x y = false ∨ (ofF sh x y k ≠ 0 ∧ ofF sh x y k ≤ sh k 0)) : ofF sh x y (k + 1) = ofF sh x y k := by
  simp only [ofF]; rw [if_neg]
  rintro ⟨h1, h2⟩
  rcases h with h | h
  · rw [h] at h1; cases h1
  · omega
def lastA (n : Nat) (a : Nat → Acc) : Acc := if n = 0 then acc0 else a (n - 1)
def fN (a : Nat → Acc) (t : Int) : Nat → Nat
  | 0 => 0
  | k + 1 => if t < (a k).frm then fN a t k else k + 1
theorem fN_s {a : Nat → Acc} {t : Int} {k : Nat} (hk : 0 < k) (h : t < (a (k - 1)).frm) : fN a t (k - 1) = fN a t k := by
  obtain ⟨j, rfl⟩ : ∃ j, k = j + 1 := ⟨k - 1, by omega⟩
  simp only [Nat.add_sub_cancel] at h ⊢
  simp only [fN]; rw [if_pos h]
theorem fN_e {a : Nat → Acc} {t : Int} {k : Nat} (h : (k : Int) ≤ 0 ∨ (a (k - 1)).frm ≤ t) : fN a t k = k := by
  cases k with
  | zero => rfl
  | succ k =>
    simp only [Nat.add_sub_cancel] at h
    simp only [fN]; rw [if_neg (by omega)]
theorem fN_le (a : Nat → Acc) (t : Int) : ∀ n, fN a t n ≤ n
  | 0 => Nat.le_refl _
  | k + 1 => by
    simp only [fN]; split
    · exact Nat.le_succ_of_le (fN_le a t k)
    · exact Nat.le_refl _
def atA (a : Nat → Acc) (t : Int) : Nat → Acc
  | 0 => acc0
  | k + 1 => if (a k).frm ≤ t then a k else atA a t k
theorem atA_1 {a : Nat → Acc} {t : Int} {k : Nat} (h : (a k).frm ≤ t) : atA a t (k + 1) = a k := by simp only [atA]; rw [if_pos h]
theorem atA_2 {a : Nat → Acc} {t : Int} {k : Nat} (h : t < (a k).frm) : atA a t (k + 1) = atA a t k := by simp only [atA]; rw [if_neg (by omega)]
def fewM (a : Nat → Acc) (k : Nat) : Prop := ∀ i, i < k → ¬ (6 < (a i).m ∧ (a i).m ≤ 60)
def fewL (n : Nat) (a : Nat → Acc) : Bool := decide (¬ (6 < n ∧ n ≤ 20) ∧ ∀ i, i < n → ¬ (6 < (a i).m ∧ (a i).m ≤ 60))
def hasL (n : Nat) (s : Nat → Int) (x : Int) : Bool := decide (∃ i, i < n ∧ s i = x)
def eqL (n n' : Nat) (s s' : Nat → Int) : Bool := decide (n = n' ∧ ∀ i, i < n → s i = s' i)

set_option maxRecDepth 100000 in
set_option maxHeartbeats 4000000 in
theorem of_p (a : Acc) (x y : Int) (ha : a.m ≤ 9223372036854775807) : CallsP Tryz.prog 39 [accP a, .agg [.g (.int .i64 (x)), .g (.int .i64 (y))]] (.t (.one (.g (.int .i64 (ofV a x y))))) := by
  refine CallsP_of Tryz.func39 rfl (by rw [Tryz.ntmps39]; simp) ?_
  simp only [Tryz.ntmps39, List.map_cons, List.map_nil, PT.tv, argEnv, Nat.zero_add, Nat.reduceAdd]
  repeat' (first
 | ((with_reducible show AW _ _ _ _); first
 | (with_reducible refine AW_seq_k fun K hK => ?_)
 | (with_reducible refine AW_skip ?_)
 | (with_reducible refine AW_exit ?_)
 | (with_reducible refine AW_ret ?_)
 | (with_reducible refine AW_condI ?_)
 | (with_reducible refine AW_block ?_)
 | ((with_reducible show AW _ (Code.region _ _ _) _ _); first
 | (with_reducible refine AW_regionP 0 [0, 1] ?_)
 | (with_reducible refine AW_regionP 1 [2, 3] ?_)
 | (with_reducible refine AW_regionP 2 [2, 3, 5] ?_)
 | (with_reducible refine AW_regionP 3 [3, 5, 9, 10, 11] ?_)
 | (with_reducible refine AW_regionP 4 [3, 5, 9, 10, 11] ?_)
 | (with_reducible refine AW_regionP 5 [3, 5, 7, 9, 10, 11] ?_)
 | (with_reducible refine AW_regionP 6 [3, 7, 9, 10, 11] ?_)
 | (with_reducible refine AW_regionP 7 [3, 5, 9, 10, 11] ?_)
 | (with_reducible refine AW_regionP 8 [5] ?_))
 | ((with_reducible show AW _ (Code.loop _) _ _); first
 | ((with_reducible refine AW_loopQ (c := (Code.seq (Code.region 3 _ _) _)) (ι := Nat) [3, 9, 10] (fun k => [(5, iA .i64 (ofF a.sh x y k)), (11, iA .i64 (k : Int))]) (fun k => []) (fun k => k ≤ a.m) (fun k => a.m - k) 0 ?lg3 ?l13 ?l23 ?li3 ?lr3); (case' lg3 => rintro k _); (case' li3 => try (first | trivial | omega | (simp; done) | (simp; omega))); (case' lr3 => rintro k hk KR hR3; skip; simp only [keepE, hupd, hset, lk, if_true, if_false, Nat.reduceEqDiff, reduceIte, List.cons_append, List.nil_append, cellI, intI, accF0, accF1, accF2, accF3]))))
 | ((first | (with_reducible refine And.intro ?_ ?_) | (with_reducible refine Need.mk ?_)); focus (first | exact True.intro | (with_reducible assumption) | omega | (refine ⟨?_, ?_⟩ <;> omega) | (intro _; first | exact True.intro | (with_reducible assumption) | omega) | (intros; (repeat' (first | exact True.intro | omega | (with_reducible assumption) | (with_reducible refine And.intro ?_ ?_))); done) | (simp (disch := omega) only [Bool.and_eq_true, Bool.or_eq_true, decide_eq_true_eq, bne_iff_ne, ne_eq] at *; first | done | omega | (intros; omega)) | (simp; done) | (simp; omega) | (simp +contextual; done) | (intro h; rw [h]; rfl) | (intros; simp_all; done)))
 | (with_reducible refine retK_n ?_)
 | (with_reducible refine retK_n' ?_)
 | (with_reducible refine retH_n rfl rfl rfl ?_)
 | (with_reducible refine retH_n' rfl rfl rfl ?_)
 | ((with_reducible show condN _ _ _ _ _ _); first
 | ((with_reducible refine condN_t ?_ ?_) <;> (intro hc; (try simp only [Bool.and_eq_true, Bool.or_eq_true, Bool.not_eq_true', Bool.and_eq_false_iff, Bool.or_eq_false_iff, decide_eq_true_eq, decide_eq_false_iff_not, bne_iff_ne, beq_iff_eq, reduceCtorEq, bne_eq_false_iff_eq, beq_eq_false_iff_ne, Bool.not_eq_false', Int.not_le, Int.not_lt, Bool.not_not] at hc); (skip); (try (exfalso; first | contradiction | omega)))))
 | ((with_reducible show callN _ _ _ _ _ _ _ _ _ _); first
 | (refine callN_q (k := 63) fnok_63 (has_p _ _ _ _ _ _) ?_ ?_))
 | ((with_reducible refine hR3 _ (k + 1) ?_); (try clear hR3 KR))
 | ((with_reducible refine Told.mk ?_); simp only [go_sem, reduceIte, reduceCtorEq, Nat.reduceAdd, Nat.reduceLT, Nat.reduceLeDiff, Nat.reduceEqDiff, Nat.reduceMul, Nat.reduceSub, Nat.reduceBEq, cellI, intI, accF0, accF1, accF2, accF3] <;> (first | exact True.intro | (((try simp (disch := omega) only [seaWrap, Int.natCast_add, Int.cast_ofNat_Int, and_true, true_and, and_self]); (repeat' (first | exact True.intro | omega | rfl | (with_reducible assumption) | (with_reducible refine And.intro ?_ ?_) | (exact all_succ (by assumption) (by assumption)) | ((first | rw [ofF_1 (by assumption)] | rw [ofF_2 (by assumption)])))); done)) | (((try simp (disch := omega) only [seaWrap, Int.natCast_add, Int.cast_ofNat_Int, and_true, true_and, and_self]); (repeat' (first | exact True.intro | omega | rfl | (with_reducible assumption) | (with_reducible refine And.intro ?_ ?_) | (exact all_succ (by assumption) (by assumption)) )); done)) | (refine Stuck.out ?_)))
 | ((fail_if_success (with_reducible show AW _ _ _ _)); simp (maxSteps := 2000000) only [go_sem, reduceIte, reduceCtorEq, Nat.reduceAdd, Nat.reduceLT, Nat.reduceLeDiff, Nat.reduceEqDiff, Nat.reduceMul, Nat.reduceSub, Nat.reduceBEq, Tryz.f39, of_26_2, ty_23, le_23, sl_23, ar_23, ty_67, zc_67, of_67_1, ty_65, ty_28, fnok_63, of_67_0, ty_3, cellI, intI, accF0, accF1, accF2, accF3])
 | ((fail_if_success (with_reducible show AW _ _ _ _)); simp (disch := omega) only [seaWrap, seaDiv, seaMod])
 | ((with_reducible refine hK _ ?_); clear hK K)
 | (with_reducible apply_assumption -exfalso only [*]))
  all_goals (obtain rfl : k = a.m := (by omega); rfl)

set_option maxRecDepth 100000 in
set_option maxHeartbeats 4000000 in
theorem rof_p (a : Acc) (x y : Int) (ha : a.m ≤ 9223372036854775807) : CallsP Tryz.prog 42 [accP a, .agg [.g (.int .i64 (x)), .g (.int .i64 (y))]] (.t (.one (.g (.int .i64 (ofV a x y))))) := by
  refine CallsP_of Tryz.func42 rfl (by rw [Tryz.ntmps42]; simp) ?_
  simp only [Tryz.ntmps42, List.map_cons, List.map_nil, PT.tv, argEnv, Nat.zero_add, Nat.reduceAdd]
  repeat' (first
 | ((with_reducible show AW _ _ _ _); first
 | (with_reducible refine AW_seq_k fun K hK => ?_)
 | (with_reducible refine AW_skip ?_)
 | (with_reducible refine AW_exit ?_)
 | (with_reducible refine AW_ret ?_)
 | (with_reducible refine AW_condI ?_)
 | (with_reducible refine AW_block ?_)
 | ((with_reducible show AW _ (Code.region _ _ _) _ _); first
 | (with_reducible refine AW_regionP 0 [0, 1] ?_)
 | (with_reducible refine AW_regionP 1 [2, 3] ?_)
 | (with_reducible refine AW_regionP 2 [2, 3, 5] ?_)
 | (with_reducible refine AW_regionP 3 [2, 3, 5, 6] ?_)
 | (with_reducible refine AW_regionP 4 [2, 3, 5, 6] ?_)
 | ((with_reducible refine AW_prune (c := Code.region 5 _ true) [2, 3, 5, 6] ?_); (with_reducible refine AW_regionD ?_ ?_ ?_ ?_); (focus kernel_rfl); (focus kernel_rfl); (focus kernel_rfl))
 | (with_reducible refine AW_regionP 6 [2, 3, 5, 6, 7] ?_)
 | (with_reducible refine AW_regionP 7 [2, 3, 6] ?_)
 | (with_reducible refine AW_regionP 8 [5] ?_))
 | ((with_reducible show AW _ (Code.loop _) _ _); first
 | ((with_reducible refine AW_loopQ (c := (Code.seq (Code.seq (Code.region 3 _ _) _) _)) (ι := Nat) [2, 3] (fun k => [(5, iA .i64 (ofF a.sh x y k)), (6, iA .i64 (k : Int))]) (fun k => []) (fun k => k ≤ a.m) (fun k => a.m - k) 0 ?lg3 ?l13 ?l23 ?li3 ?lr3); (case' lg3 => rintro k _); (case' li3 => try (first | trivial | omega | (simp; done) | (simp; omega))); (case' lr3 => rintro k hk KR hR3; skip; simp only [keepE, hupd, hset, lk, if_true, if_false, Nat.reduceEqDiff, reduceIte, List.cons_append, List.nil_append, cellI, intI, accF0, accF1, accF2, accF3]))))
 | ((first | (with_reducible refine And.intro ?_ ?_) | (with_reducible refine Need.mk ?_)); focus (first | exact True.intro | (with_reducible assumption) | omega | (refine ⟨?_, ?_⟩ <;> omega) | (intro _; first | exact True.intro | (with_reducible assumption) | omega) | (intros; (repeat' (first | exact True.intro | omega | (with_reducible assumption) | (with_reducible refine And.intro ?_ ?_))); done) | (simp (disch := omega) only [Bool.and_eq_true, Bool.or_eq_true, decide_eq_true_eq, bne_iff_ne, ne_eq] at *; first | done | omega | (intros; omega)) | (simp; done) | (simp; omega) | (simp +contextual; done) | (intro h; rw [h]; rfl) | (intros; simp_all; done)))
 | (with_reducible refine retK_n ?_)
 | (with_reducible refine retK_n' ?_)
 | (with_reducible refine retH_n rfl rfl rfl ?_)
 | (with_reducible refine retH_n' rfl rfl rfl ?_)
 | ((with_reducible show condN _ _ _ _ _ _); first
 | ((with_reducible refine condN_t ?_ ?_) <;> (intro hc; (try simp only [Bool.and_eq_true, Bool.or_eq_true, Bool.not_eq_true', Bool.and_eq_false_iff, Bool.or_eq_false_iff, decide_eq_true_eq, decide_eq_false_iff_not, bne_iff_ne, beq_iff_eq, reduceCtorEq, bne_eq_false_iff_eq, beq_eq_false_iff_ne, Bool.not_eq_false', Int.not_le, Int.not_lt, Bool.not_not] at hc); (skip); (try (exfalso; first | contradiction | omega)))))
 | ((with_reducible refine And.intro ?_ ?_); focus ((with_reducible show chkR _ _ _ = true); kernel_rfl))
 | ((with_reducible show callDN _ _ _ _ _ _ _ _ _ _ _ _ _); first
 | (refine callDN_q (k := 64) fnok_64 (rholds_p _ _ _ _ _ _) ?_ ?_))
 | ((with_reducible refine hR3 _ (k + 1) ?_); (try clear hR3 KR))
 | ((with_reducible refine Told.mk ?_); simp only [go_sem, reduceIte, reduceCtorEq, Nat.reduceAdd, Nat.reduceLT, Nat.reduceLeDiff, Nat.reduceEqDiff, Nat.reduceMul, Nat.reduceSub, Nat.reduceBEq, cellI, intI, accF0, accF1, accF2, accF3] <;> (first | exact True.intro | (((try simp (disch := omega) only [seaWrap, Int.natCast_add, Int.cast_ofNat_Int, and_true, true_and, and_self]); (repeat' (first | exact True.intro | omega | rfl | (with_reducible assumption) | (with_reducible refine And.intro ?_ ?_) | (exact all_succ (by assumption) (by assumption)) | ((first | rw [ofF_1 (by assumption)] | rw [ofF_2 (by assumption)])))); done)) | (((try simp (disch := omega) only [seaWrap, Int.natCast_add, Int.cast_ofNat_Int, and_true, true_and, and_self]); (repeat' (first | exact True.intro | omega | rfl | (with_reducible assumption) | (with_reducible refine And.intro ?_ ?_) | (exact all_succ (by assumption) (by assumption)) )); done)) | (refine Stuck.out ?_)))
 | ((fail_if_success (with_reducible show AW _ _ _ _)); simp (maxSteps := 2000000) only [go_sem, reduceIte, reduceCtorEq, Nat.reduceAdd, Nat.reduceLT, Nat.reduceLeDiff, Nat.reduceEqDiff, Nat.reduceMul, Nat.reduceSub, Nat.reduceBEq, Tryz.f42, of_26_2, ty_23, le_23, sl_23, ar_23, of_67_1, ty_65, ty_28, fnok_64, of_67_0, ty_3, cellI, intI, accF0, accF1, accF2, accF3])
 | ((fail_if_success (with_reducible show AW _ _ _ _)); simp (disch := omega) only [seaWrap, seaDiv, seaMod])
 | ((with_reducible refine hK _ ?_); clear hK K)
 | (with_reducible apply_assumption -exfalso only [*]))
  all_goals (obtain rfl : k = a.m := (by omega); rfl)

set_option maxRecDepth 100000 in
set_option maxHeartbeats 4000000 in
theorem last_0 (a : Nat → Acc) : CallsP Tryz.prog 36 [.one (.lst 4 0 (accF a))] (.t (accP acc0)) := by
  refine CallsP_of Tryz.func36 rfl (by rw [Tryz.ntmps36]; simp) ?_
  simp only [Tryz.ntmps36, List.map_cons, List.map_nil, PT.tv, argEnv, Nat.zero_add, Nat.reduceAdd]
  repeat' (first
 | ((with_reducible show AW _ _ _ _); first
 | (with_reducible refine AW_seq_k fun K hK => ?_)
 | (with_reducible refine AW_skip ?_)
 | (with_reducible refine AW_exit ?_)
 | (with_reducible refine AW_ret ?_)
 | (with_reducible refine AW_condI ?_)
 | (with_reducible refine AW_block ?_)
 | ((with_reducible show AW _ (Code.region _ _ _) _ _); first
 | (with_reducible refine AW_regionP 0 [0] ?_)
 | (with_reducible refine AW_regionP 1 [0, 2] ?_)
 | (with_reducible refine AW_regionP 2 [2] ?_)
 | (with_reducible refine AW_regionP 3 [0, 2] ?_)))
 | ((first | (with_reducible refine And.intro ?_ ?_) | (with_reducible refine Need.mk ?_)); focus (first | exact True.intro | (with_reducible assumption) | omega | (refine ⟨?_, ?_⟩ <;> omega) | (intro _; first | exact True.intro | (with_reducible assumption) | omega) | (intros; (repeat' (first | exact True.intro | omega | (with_reducible assumption) | (with_reducible refine And.intro ?_ ?_))); done) | (simp (disch := omega) only [Bool.and_eq_true, Bool.or_eq_true, decide_eq_true_eq, bne_iff_ne, ne_eq] at *; first | done | omega | (intros; omega)) | (simp; done) | (simp; omega) | (simp +contextual; done) | (intro h; rw [h]; rfl) | (intros; simp_all; done)))
 | (with_reducible refine retK_n ?_)
 | (with_reducible refine retK_n' ?_)
 | (with_reducible refine retH_n rfl rfl rfl ?_)
 | (with_reducible refine retH_n' rfl rfl rfl ?_)
 | ((with_reducible show condN _ _ _ _ _ _); first
 | ((with_reducible refine condN_t ?_ ?_) <;> (intro hc; (try simp only [Bool.and_eq_true, Bool.or_eq_true, Bool.not_eq_true', Bool.and_eq_false_iff, Bool.or_eq_false_iff, decide_eq_true_eq, decide_eq_false_iff_not, bne_iff_ne, beq_iff_eq, reduceCtorEq, bne_eq_false_iff_eq, beq_eq_false_iff_ne, Bool.not_eq_false', Int.not_le, Int.not_lt, Bool.not_not] at hc); (try (exfalso; first | contradiction | omega)))))
 | ((fail_if_success (with_reducible show AW _ _ _ _)); simp (maxSteps := 2000000) only [go_sem, reduceIte, reduceCtorEq, Nat.reduceAdd, Nat.reduceLT, Nat.reduceLeDiff, Nat.reduceEqDiff, Nat.reduceMul, Nat.reduceSub, Nat.reduceBEq, Tryz.f36, zc_26, le_22, fo_26, ty_26, sl_22, ar_22, cellI, intI, accF0, accF1, accF2, accF3, acc0])
 | ((fail_if_success (with_reducible show AW _ _ _ _)); simp (disch := omega) only [seaWrap, seaDiv, seaMod])
 | ((with_reducible refine hK _ ?_); clear hK K))
  all_goals (first | exact ⟨rfl, rfl, IV.eqv_refl _, IV.eqv_refl _, trivial⟩ | exact ⟨IV.eqv_refl _, IV.eqv_refl _⟩ | exact ⟨rfl, rfl, ⟨rfl, rfl⟩, ⟨rfl, rfl⟩⟩ | skip)

set_option maxRecDepth 100000 in
set_option maxHeartbeats 4000000 in
theorem last_1 (n : Nat) (a : Nat → Acc) (h0 : 0 < n) (hn : n ≤ 9223372036854775807) : CallsP Tryz.prog 36 [.one (.lst 4 n (accF a))] (.t (accP (a (n - 1)))) := by
  refine CallsP_of Tryz.func36 rfl (by rw [Tryz.ntmps36]; simp) ?_
  simp only [Tryz.ntmps36, List.map_cons, List.map_nil, PT.tv, argEnv, Nat.zero_add, Nat.reduceAdd]
  repeat' (first
 | ((with_reducible show AW _ _ _ _); first
 | (with_reducible refine AW_seq_k fun K hK => ?_)
 | (with_reducible refine AW_skip ?_)
 | (with_reducible refine AW_exit ?_)
 | (with_reducible refine AW_ret ?_)
 | (with_reducible refine AW_condI ?_)
 | (with_reducible refine AW_block ?_)
 | ((with_reducible show AW _ (Code.region _ _ _) _ _); first
 | (with_reducible refine AW_regionP 0 [0] ?_)
 | (with_reducible refine AW_regionP 1 [0, 2] ?_)
 | (with_reducible refine AW_regionP 2 [2] ?_)
 | (with_reducible refine AW_regionP 3 [0, 2] ?_)))
 | ((first | (with_reducible refine And.intro ?_ ?_) | (with_reducible refine Need.mk ?_)); focus (first | exact True.intro | (with_reducible assumption) | omega | (refine ⟨?_, ?_⟩ <;> omega) | (intro _; first | exact True.intro | (with_reducible assumption) | omega) | (intros; (repeat' (first | exact True.intro | omega | (with_reducible assumption) | (with_reducible refine And.intro ?_ ?_))); done) | (simp (disch := omega) only [Bool.and_eq_true, Bool.or_eq_true, decide_eq_true_eq, bne_iff_ne, ne_eq] at *; first | done | omega | (intros; omega)) | (simp; done) | (simp; omega) | (simp +contextual; done) | (intro h; rw [h]; rfl) | (intros; simp_all; done)))
 | (with_reducible refine retK_n ?_)
 | (with_reducible refine retK_n' ?_)
 | (with_reducible refine retH_n rfl rfl rfl ?_)
 | (with_reducible refine retH_n' rfl rfl rfl ?_)
 | ((with_reducible show condN _ _ _ _ _ _); first
 | ((with_reducible refine condN_t ?_ ?_) <;> (intro hc; (try simp only [Bool.and_eq_true, Bool.or_eq_true, Bool.not_eq_true', Bool.and_eq_false_iff, Bool.or_eq_false_iff, decide_eq_true_eq, decide_eq_false_iff_not, bne_iff_ne, beq_iff_eq, reduceCtorEq, bne_eq_false_iff_eq, beq_eq_false_iff_ne, Bool.not_eq_false', Int.not_le, Int.not_lt, Bool.not_not] at hc); (try (exfalso; first | contradiction | omega)))))
 | ((fail_if_success (with_reducible show AW _ _ _ _)); simp (maxSteps := 2000000) only [go_sem, reduceIte, reduceCtorEq, Nat.reduceAdd, Nat.reduceLT, Nat.reduceLeDiff, Nat.reduceEqDiff, Nat.reduceMul, Nat.reduceSub, Nat.reduceBEq, Tryz.f36, zc_26, le_22, fo_26, ty_26, sl_22, ar_22, cellI, intI, accF0, accF1, accF2, accF3])
 | ((fail_if_success (with_reducible show AW _ _ _ _)); simp (disch := omega) only [seaWrap, seaDiv, seaMod])
 | ((with_reducible refine hK _ ?_); clear hK K))
  all_goals (first | exact ⟨fun i o _ _ => rfl, fun i o _ _ => rfl⟩ | (exfalso; omega) | skip)

theorem last_p (n : Nat) (a : Nat → Acc) (hn : n ≤ 9223372036854775807) : CallsP Tryz.prog 36 [.one (.lst 4 n (accF a))] (.t (accP (lastA n a))) := by
  unfold lastA
  by_cases h : n = 0
  · subst h; rw [if_pos rfl]; exact last_0 a
  · rw [if_neg h]; exact last_1 n a (by omega) hn

set_option maxRecDepth 100000 in
set_option maxHeartbeats 4000000 in
theorem force_p (n : Nat) (a : Nat → Acc) (t : Int) (hn : n ≤ 9223372036854775807) : CallsP Tryz.prog 40 [.one (.lst 4 n (accF a)), .one (.g (.int .i64 (t)))] (.t (accP (lastA (fN a t n) a))) := by
  refine CallsP_of Tryz.func40 rfl (by rw [Tryz.ntmps40]; simp) ?_
  simp only [Tryz.ntmps40, List.map_cons, List.map_nil, PT.tv, argEnv, Nat.zero_add, Nat.reduceAdd]
  repeat' (first
 | ((with_reducible show AW _ _ _ _); first
 | (with_reducible refine AW_seq_k fun K hK => ?_)
 | (with_reducible refine AW_skip ?_)
 | (with_reducible refine AW_exit ?_)
 | (with_reducible refine AW_ret ?_)
 | (with_reducible refine AW_condI ?_)
 | (with_reducible refine AW_block ?_)
 | ((with_reducible show AW _ (Code.region _ _ _) _ _); first
 | (with_reducible refine AW_regionP 0 [0, 1] ?_)
 | (with_reducible refine AW_regionP 1 [0, 1, 4] ?_)
 | (with_reducible refine AW_regionP 2 [0, 1, 4, 5] ?_)
 | (with_reducible refine AW_regionP 3 [0, 1, 4, 5] ?_)
 | (with_reducible refine AW_regionP 4 [0, 4, 5] ?_))
 | ((with_reducible show AW _ (Code.loop _) _ _); first
 | ((with_reducible refine AW_loopQ (c := (Code.seq (Code.seq (Code.region 2 _ _) _) _)) (ι := Nat) [0, 1, 4] (fun k => [(5, iA .i64 (k : Int))]) (fun k => []) (fun k => k ≤ n ∧ fN a t k = fN a t n) (fun k => k) n ?lg2 ?l12 ?l22 ?li2 ?lr2); (case' lg2 => rintro k _); (case' li2 => try exact ⟨Nat.le_refl _, rfl⟩); (case' lr2 => rintro k ⟨h1, h2⟩ KR hR2; skip; simp only [keepE, hupd, hset, lk, if_true, if_false, Nat.reduceEqDiff, reduceIte, List.cons_append, List.nil_append, cellI, intI, accF0, accF1, accF2, accF3, Int.sub_zero]))))
 | ((first | (with_reducible refine And.intro ?_ ?_) | (with_reducible refine Need.mk ?_)); focus (first | exact True.intro | (with_reducible assumption) | omega | (refine ⟨?_, ?_⟩ <;> omega) | (intro _; first | exact True.intro | (with_reducible assumption) | omega) | (intros; (repeat' (first | exact True.intro | omega | (with_reducible assumption) | (with_reducible refine And.intro ?_ ?_))); done) | (simp (disch := omega) only [Bool.and_eq_true, Bool.or_eq_true, decide_eq_true_eq, bne_iff_ne, ne_eq] at *; first | done | omega | (intros; omega)) | (simp; done) | (simp; omega) | (simp +contextual; done) | (intro h; rw [h]; rfl) | (intros; simp_all; done)))
 | (with_reducible refine retK_n ?_)
 | (with_reducible refine retK_n' ?_)
 | (with_reducible refine retH_n rfl rfl rfl ?_)
 | (with_reducible refine retH_n' rfl rfl rfl ?_)
 | ((with_reducible show condN _ _ _ _ _ _); first
 | ((with_reducible refine condN_t ?_ ?_) <;> (intro hc; (try simp only [Bool.and_eq_true, Bool.or_eq_true, Bool.not_eq_true', Bool.and_eq_false_iff, Bool.or_eq_false_iff, decide_eq_true_eq, decide_eq_false_iff_not, bne_iff_ne, beq_iff_eq, reduceCtorEq, bne_eq_false_iff_eq, beq_eq_false_iff_ne, Bool.not_eq_false', Int.not_le, Int.not_lt, Bool.not_not] at hc); (skip); (try (exfalso; first | contradiction | omega)))))
 | ((with_reducible show callN _ _ _ _ _ _ _ _ _ _); first
 | (refine callN_q (k := 36) fnok_36 (last_p _ _ (by omega)) ?_ ?_))
 | ((with_reducible refine hR2 _ (k - 1) ?_); (try clear hR2 KR))
 | ((with_reducible refine Told.mk ?_); simp only [go_sem, reduceIte, reduceCtorEq, Nat.reduceAdd, Nat.reduceLT, Nat.reduceLeDiff, Nat.reduceEqDiff, Nat.reduceMul, Nat.reduceSub, Nat.reduceBEq, cellI, intI, accF0, accF1, accF2, accF3, Int.sub_zero] <;> (first | exact True.intro | (((try simp (disch := omega) only [seaWrap, Int.natCast_add, Int.cast_ofNat_Int, and_true, true_and, and_self]); (repeat' (first | exact True.intro | omega | rfl | (with_reducible assumption) | (with_reducible refine And.intro ?_ ?_) | (exact all_succ (by assumption) (by assumption)) | (exact (fN_s (by omega) (by omega)).trans (by assumption)))); done)) | (refine Stuck.out ?_)))
 | ((fail_if_success (with_reducible show AW _ _ _ _)); simp (maxSteps := 2000000) only [go_sem, reduceIte, reduceCtorEq, Nat.reduceAdd, Nat.reduceLT, Nat.reduceLeDiff, Nat.reduceEqDiff, Nat.reduceMul, Nat.reduceSub, Nat.reduceBEq, Tryz.f40, zc_26, le_22, sl_22, ar_22, of_26_1, ty_3, fnok_36, ty_26, cellI, intI, accF0, accF1, accF2, accF3, Int.sub_zero])
 | ((fail_if_success (with_reducible show AW _ _ _ _)); simp (disch := omega) only [seaWrap, seaDiv, seaMod])
 | ((with_reducible refine hK _ ?_); clear hK K)
 | (with_reducible apply_assumption -exfalso only [*]))
  all_goals (rw [← h2, fN_e (by omega)]; exact ⟨rfl, rfl, ⟨rfl, fun _ _ _ _ => rfl⟩, rfl, fun _ _ _ _ => rfl⟩)

set_option maxRecDepth 100000 in
set_option maxHeartbeats 4000000 in
theorem at_p (n : Nat) (a : Nat → Acc) (t : Int) (hn : n ≤ 9223372036854775807) : CallsP Tryz.prog 43 [.one (.lst 4 n (accF a)), .one (.g (.int .i64 (t)))] (.t (accP (atA a t n))) := by
  refine CallsP_of Tryz.func43 rfl (by rw [Tryz.ntmps43]; simp) ?_
  simp only [Tryz.ntmps43, List.map_cons, List.map_nil, PT.tv, argEnv, Nat.zero_add, Nat.reduceAdd]
  repeat' (first
 | ((with_reducible show AW _ _ _ _); first
 | (with_reducible refine AW_seq_k fun K hK => ?_)
 | (with_reducible refine AW_skip ?_)
 | (with_reducible refine AW_exit ?_)
 | (with_reducible refine AW_ret ?_)
 | (with_reducible refine AW_condI ?_)
 | (with_reducible refine AW_block ?_)
 | ((with_reducible show AW _ (Code.region _ _ _) _ _); first
 | (with_reducible refine AW_regionP 0 [0, 1] ?_)
 | (with_reducible refine AW_regionP 1 [0, 1, 4] ?_)
 | (with_reducible refine AW_regionP 2 [0, 1, 4, 5] ?_)
 | (with_reducible refine AW_regionP 3 [0, 1, 4, 5, 6] ?_)
 | (with_reducible refine AW_regionP 4 [0, 1, 4, 5, 6] ?_)
 | (with_reducible refine AW_regionP 5 [0, 1, 4, 5, 6] ?_)
 | (with_reducible refine AW_regionP 6 [0, 1, 4, 5, 6] ?_)
 | (with_reducible refine AW_regionP 7 [4, 5] ?_))
 | ((with_reducible show AW _ (Code.loop _) _ _); first
 | ((with_reducible refine AW_loopQ (c := (Code.seq (Code.seq (Code.region 3 _ _) _) _)) (ι := Nat) [0, 1, 4, 5] (fun k => [(6, iA .i64 (k : Int))]) (fun k => [(1, accC (atA a t k))]) (fun k => k ≤ n) (fun k => n - k) 0 ?lg3 ?l13 ?l23 ?li3 ?lr3); (case' lg3 => rintro k _); (case' li3 => try (first | trivial | omega | (simp; done) | (simp; omega))); (case' lr3 => rintro k h1 KR hR3; skip; simp only [keepE, hupd, hset, lk, if_true, if_false, Nat.reduceEqDiff, reduceIte, List.cons_append, List.nil_append, cellI, intI, accF0, accF1, accF2, accF3]))))
 | ((first | (with_reducible refine And.intro ?_ ?_) | (with_reducible refine Need.mk ?_)); focus (first | exact True.intro | (with_reducible assumption) | omega | (refine ⟨?_, ?_⟩ <;> omega) | (intro _; first | exact True.intro | (with_reducible assumption) | omega) | (intros; (repeat' (first | exact True.intro | omega | (with_reducible assumption) | (with_reducible refine And.intro ?_ ?_))); done) | (simp (disch := omega) only [Bool.and_eq_true, Bool.or_eq_true, decide_eq_true_eq, bne_iff_ne, ne_eq] at *; first | done | omega | (intros; omega)) | (simp; done) | (simp; omega) | (simp +contextual; done) | (intro h; rw [h]; rfl) | (intros; simp_all; done)))
 | (with_reducible refine retK_n ?_)
 | (with_reducible refine retK_n' ?_)
 | (with_reducible refine retH_n rfl rfl rfl ?_)
 | (with_reducible refine retH_n' rfl rfl rfl ?_)
 | ((with_reducible show condN _ _ _ _ _ _); first
 | ((with_reducible refine condN_t ?_ ?_) <;> (intro hc; (try simp only [Bool.and_eq_true, Bool.or_eq_true, Bool.not_eq_true', Bool.and_eq_false_iff, Bool.or_eq_false_iff, decide_eq_true_eq, decide_eq_false_iff_not, bne_iff_ne, beq_iff_eq, reduceCtorEq, bne_eq_false_iff_eq, beq_eq_false_iff_ne, Bool.not_eq_false', Int.not_le, Int.not_lt, Bool.not_not] at hc); (skip); (try (exfalso; first | contradiction | omega)))))
 | ((with_reducible refine hR3 _ (k + 1) ?_); (try clear hR3 KR))
 | ((with_reducible refine Told.mk ?_); simp only [go_sem, reduceIte, reduceCtorEq, Nat.reduceAdd, Nat.reduceLT, Nat.reduceLeDiff, Nat.reduceEqDiff, Nat.reduceMul, Nat.reduceSub, Nat.reduceBEq, cellI, intI, accF0, accF1, accF2, accF3] <;> (first | exact True.intro | (((try simp (disch := omega) only [seaWrap, Int.natCast_add, Int.cast_ofNat_Int, and_true, true_and, and_self]); (repeat' (first | exact True.intro | omega | rfl | (with_reducible assumption) | (with_reducible refine And.intro ?_ ?_) | (exact all_succ (by assumption) (by assumption)) | ((first | rw [atA_1 (by omega)] | rw [atA_2 (by omega)])) | ((exact Or.inl rfl)) | ((exact Or.inr ⟨rfl, fun _ _ _ _ => rfl⟩)))); done)) | (first | ((try simp (disch := omega) only [seaWrap, Int.natCast_add, Int.cast_ofNat_Int, and_true, true_and, and_self]); (repeat' (first | exact True.intro | omega | rfl | (with_reducible assumption) | (with_reducible refine And.intro ?_ ?_) | (exact all_succ (by assumption) (by assumption)) )); done) | (simp [atA, acc0]; done) | (simp [atA, acc0, accC, wkC, wkV, nilC]; done)) | (refine Stuck.out ?_)))
 | ((fail_if_success (with_reducible show AW _ _ _ _)); simp (maxSteps := 2000000) only [go_sem, reduceIte, reduceCtorEq, Nat.reduceAdd, Nat.reduceLT, Nat.reduceLeDiff, Nat.reduceEqDiff, Nat.reduceMul, Nat.reduceSub, Nat.reduceBEq, Tryz.f43, zc_26, le_22, sl_22, ar_22, of_26_1, ty_3, ty_26, cellI, intI, accF0, accF1, accF2, accF3])
 | ((fail_if_success (with_reducible show AW _ _ _ _)); simp (disch := omega) only [seaWrap, seaDiv, seaMod])
 | ((with_reducible refine hK _ ?_); clear hK K)
 | (with_reducible apply_assumption -exfalso only [*]))
  all_goals (obtain rfl : k = n := (by omega); exact ⟨rfl, rfl, ⟨rfl, fun _ _ _ _ => rfl⟩, rfl, fun _ _ _ _ => rfl⟩)

set_option maxRecDepth 100000 in
set_option maxHeartbeats 4000000 in
theorem few_p (n : Nat) (a : Nat → Acc) (hn : n ≤ 9223372036854775807) : CallsP Tryz.prog 6 [.one (.lst 4 n (accF a))] (.t (.one (.g (.bool (fewL n a))))) := by
  refine CallsP_of Tryz.func6 rfl (by rw [Tryz.ntmps6]; simp) ?_
  simp only [Tryz.ntmps6, List.map_cons, List.map_nil, PT.tv, argEnv, Nat.zero_add, Nat.reduceAdd]
  repeat' (first
 | ((with_reducible show AW _ _ _ _); first
 | (with_reducible refine AW_seq_k fun K hK => ?_)
 | (with_reducible refine AW_skip ?_)
 | (with_reducible refine AW_exit ?_)
 | (with_reducible refine AW_ret ?_)
 | (with_reducible refine AW_condI ?_)
 | (with_reducible refine AW_block ?_)
 | ((with_reducible show AW _ (Code.region _ _ _) _ _); first
 | (with_reducible refine AW_regionP 0 [0] ?_)
 | (with_reducible refine AW_regionP 1 [0] ?_)
 | (with_reducible refine AW_regionP 2 [] ?_)
 | (with_reducible refine AW_regionP 3 [0] ?_)
 | (with_reducible refine AW_regionP 4 [0, 3] ?_)
 | (with_reducible refine AW_regionP 5 [0, 3] ?_)
 | (with_reducible refine AW_regionP 6 [0, 3] ?_)
 | (with_reducible refine AW_regionP 7 [] ?_)
 | (with_reducible refine AW_regionP 8 [] ?_))
 | ((with_reducible show AW _ (Code.loop _) _ _); first
 | ((with_reducible refine AW_loopQ (c := (Code.seq (Code.seq (Code.region 4 _ _) _) _)) (ι := Nat) [0] (fun k => [(3, iA .i64 (k : Int))]) (fun k => []) (fun k => k ≤ n ∧ (∀ i, i < k → ¬ (6 < (a i).m ∧ (a i).m ≤ 60))) (fun k => n - k) 0 ?lg4 ?l14 ?l24 ?li4 ?lr4); (case' lg4 => rintro k _); (case' li4 => try (exact ⟨Nat.zero_le _, fun i hi => absurd hi (Nat.not_lt_zero _)⟩)); (case' lr4 => rintro k ⟨h1, h2⟩ KR hR4; skip; simp only [keepE, hupd, hset, lk, if_true, if_false, Nat.reduceEqDiff, reduceIte, List.cons_append, List.nil_append, cellI, intI, accF0, accF1, accF2, accF3]))))
 | ((first | (with_reducible refine And.intro ?_ ?_) | (with_reducible refine Need.mk ?_)); focus (first | exact True.intro | (with_reducible assumption) | omega | (refine ⟨?_, ?_⟩ <;> omega) | (intro _; first | exact True.intro | (with_reducible assumption) | omega) | (intros; (repeat' (first | exact True.intro | omega | (with_reducible assumption) | (with_reducible refine And.intro ?_ ?_))); done) | (simp (disch := omega) only [Bool.and_eq_true, Bool.or_eq_true, decide_eq_true_eq, bne_iff_ne, ne_eq] at *; first | done | omega | (intros; omega)) | (simp; done) | (simp; omega) | (simp +contextual; done) | (intro h; rw [h]; rfl) | (intros; simp_all; done)))
 | (with_reducible refine retK_n ?_)
 | (with_reducible refine retK_n' ?_)
 | (with_reducible refine retH_n rfl rfl rfl ?_)
 | (with_reducible refine retH_n' rfl rfl rfl ?_)
 | ((with_reducible show condN _ _ _ _ _ _); first
 | ((with_reducible refine condN_t ?_ ?_) <;> (intro hc; (try simp only [Bool.and_eq_true, Bool.or_eq_true, Bool.not_eq_true', Bool.and_eq_false_iff, Bool.or_eq_false_iff, decide_eq_true_eq, decide_eq_false_iff_not, bne_iff_ne, beq_iff_eq, reduceCtorEq, bne_eq_false_iff_eq, beq_eq_false_iff_ne, Bool.not_eq_false', Int.not_le, Int.not_lt, Bool.not_not] at hc); (skip); (try (exfalso; first | contradiction | omega)))))
 | ((with_reducible refine hR4 _ (k + 1) ?_); (try clear hR4 KR))
 | ((with_reducible refine Told.mk ?_); simp only [go_sem, reduceIte, reduceCtorEq, Nat.reduceAdd, Nat.reduceLT, Nat.reduceLeDiff, Nat.reduceEqDiff, Nat.reduceMul, Nat.reduceSub, Nat.reduceBEq, cellI, intI, accF0, accF1, accF2, accF3] <;> (first | exact True.intro | (((try simp (disch := omega) only [seaWrap, Int.natCast_add, Int.cast_ofNat_Int, and_true, true_and, and_self]); (repeat' (first | exact True.intro | omega | rfl | (with_reducible assumption) | (with_reducible refine And.intro ?_ ?_) | (exact all_succ (by assumption) (by assumption)) | (exact all_succ (by assumption) (by omega)))); done)) | (refine Stuck.out ?_)))
 | ((fail_if_success (with_reducible show AW _ _ _ _)); simp (maxSteps := 2000000) only [go_sem, reduceIte, reduceCtorEq, Nat.reduceAdd, Nat.reduceLT, Nat.reduceLeDiff, Nat.reduceEqDiff, Nat.reduceMul, Nat.reduceSub, Nat.reduceBEq, Tryz.f6, le_22, sl_22, ar_22, of_26_2, ty_23, le_23, cellI, intI, accF0, accF1, accF2, accF3])
 | ((fail_if_success (with_reducible show AW _ _ _ _)); simp (disch := omega) only [seaWrap, seaDiv, seaMod])
 | ((with_reducible refine hK _ ?_); clear hK K)
 | (with_reducible apply_assumption -exfalso only [*]))
  all_goals (refine Eq.symm ?_; unfold fewL; first | exact decide_eq_false (by omega) | exact decide_eq_false (fun h => absurd (h.2 k (by omega)) (by omega)) | exact decide_eq_true ⟨by omega, fun i hi => h2 i (by omega)⟩)

set_option maxRecDepth 100000 in
set_option maxHeartbeats 4000000 in
theorem ints_p (n n' : Nat) (s s' : Nat → Int) (hn : n ≤ 9223372036854775807) : CallsP Tryz.prog 15 [.one (.lst 1 n (intI s)), .one (.lst 1 n' (intI s'))] (.t (.one (.g (.bool (eqL n n' s s'))))) := by
  refine CallsP_of Tryz.func15 rfl (by rw [Tryz.ntmps15]; simp) ?_
  simp only [Tryz.ntmps15, List.map_cons, List.map_nil, PT.tv, argEnv, Nat.zero_add, Nat.reduceAdd]
  repeat' (first
 | ((with_reducible show AW _ _ _ _); first
 | (with_reducible refine AW_seq_k fun K hK => ?_)
 | (with_reducible refine AW_skip ?_)
 | (with_reducible refine AW_exit ?_)
 | (with_reducible refine AW_ret ?_)
 | (with_reducible refine AW_condI ?_)
 | (with_reducible refine AW_block ?_)
 | ((with_reducible show AW _ (Code.region _ _ _) _ _); first
 | (with_reducible refine AW_regionP 0 [0, 1] ?_)
 | (with_reducible refine AW_regionP 1 [0, 1] ?_)
 | (with_reducible refine AW_regionP 2 [] ?_)
 | (with_reducible refine AW_regionP 3 [0, 1] ?_)
 | (with_reducible refine AW_regionP 4 [0, 1, 5] ?_)
 | (with_reducible refine AW_regionP 5 [0, 1, 5] ?_)
 | ((with_reducible refine AW_prune (c := Code.region 6 _ true) [0, 1, 5] ?_); (with_reducible refine AW_regionD ?_ ?_ ?_ ?_); (focus kernel_rfl); (focus kernel_rfl); (focus kernel_rfl))
 | (with_reducible refine AW_regionP 7 [] ?_)
 | (with_reducible refine AW_regionP 8 [] ?_))
 | ((with_reducible show AW _ (Code.loop _) _ _); first
 | ((with_reducible refine AW_loopQ (c := (Code.seq (Code.seq (Code.region 4 _ _) _) _)) (ι := Nat) [0, 1] (fun k => [(5, iA .i64 (k : Int))]) (fun k => []) (fun k => k ≤ n ∧ (∀ i, i < k → s i = s' i)) (fun k => n - k) 0 ?lg4 ?l14 ?l24 ?li4 ?lr4); (case' lg4 => rintro k _); (case' li4 => try (exact ⟨Nat.zero_le _, fun i hi => absurd hi (Nat.not_lt_zero _)⟩)); (case' lr4 => rintro k ⟨h1, h2⟩ KR hR4; skip; simp only [keepE, hupd, hset, lk, if_true, if_false, Nat.reduceEqDiff, reduceIte, List.cons_append, List.nil_append, cellI, intI, accF0, accF1, accF2, accF3]))))
 | ((first | (with_reducible refine And.intro ?_ ?_) | (with_reducible refine Need.mk ?_)); focus (first | exact True.intro | (with_reducible assumption) | omega | (refine ⟨?_, ?_⟩ <;> omega) | (intro _; first | exact True.intro | (with_reducible assumption) | omega) | (intros; (repeat' (first | exact True.intro | omega | (with_reducible assumption) | (with_reducible refine And.intro ?_ ?_))); done) | (simp (disch := omega) only [Bool.and_eq_true, Bool.or_eq_true, decide_eq_true_eq, bne_iff_ne, ne_eq] at *; first | done | omega | (intros; omega)) | (simp; done) | (simp; omega) | (simp +contextual; done) | (intro h; rw [h]; rfl) | (intros; simp_all; done)))
 | (with_reducible refine retK_n ?_)
 | (with_reducible refine retK_n' ?_)
 | (with_reducible refine retH_n rfl rfl rfl ?_)
 | (with_reducible refine retH_n' rfl rfl rfl ?_)
 | ((with_reducible show condN _ _ _ _ _ _); first
 | ((with_reducible refine condN_t ?_ ?_) <;> (intro hc; (try simp only [Bool.and_eq_true, Bool.or_eq_true, Bool.not_eq_true', Bool.and_eq_false_iff, Bool.or_eq_false_iff, decide_eq_true_eq, decide_eq_false_iff_not, bne_iff_ne, beq_iff_eq, reduceCtorEq, bne_eq_false_iff_eq, beq_eq_false_iff_ne, Bool.not_eq_false', Int.not_le, Int.not_lt, Bool.not_not] at hc); (skip); (try (exfalso; first | contradiction | omega)))))
 | ((with_reducible refine And.intro ?_ ?_); focus ((with_reducible show chkR _ _ _ = true); kernel_rfl))
 | ((with_reducible refine hR4 _ (k + 1) ?_); (try clear hR4 KR))
 | ((with_reducible refine Told.mk ?_); simp only [go_sem, reduceIte, reduceCtorEq, Nat.reduceAdd, Nat.reduceLT, Nat.reduceLeDiff, Nat.reduceEqDiff, Nat.reduceMul, Nat.reduceSub, Nat.reduceBEq, cellI, intI, accF0, accF1, accF2, accF3] <;> (first | exact True.intro | (((try simp (disch := omega) only [seaWrap, Int.natCast_add, Int.cast_ofNat_Int, and_true, true_and, and_self]); (repeat' (first | exact True.intro | omega | rfl | (with_reducible assumption) | (with_reducible refine And.intro ?_ ?_) | (exact all_succ (by assumption) (by assumption)) | (exact all_succ (by assumption) (by omega)))); done)) | (refine Stuck.out ?_)))
 | ((fail_if_success (with_reducible show AW _ _ _ _)); simp (maxSteps := 2000000) only [go_sem, reduceIte, reduceCtorEq, Nat.reduceAdd, Nat.reduceLT, Nat.reduceLeDiff, Nat.reduceEqDiff, Nat.reduceMul, Nat.reduceSub, Nat.reduceBEq, Tryz.f15, le_24, sl_24, ar_24, ty_3, cellI, intI, accF0, accF1, accF2, accF3])
 | ((fail_if_success (with_reducible show AW _ _ _ _)); simp (disch := omega) only [seaWrap, seaDiv, seaMod])
 | ((with_reducible refine hK _ ?_); clear hK K)
 | (with_reducible apply_assumption -exfalso only [*]))
  all_goals (refine Eq.symm ?_; unfold eqL; first | exact decide_eq_false (by omega) | exact decide_eq_false (fun h => absurd (h.2 k (by omega)) (by omega)) | exact decide_eq_true ⟨by omega, fun i hi => h2 i (by omega)⟩)

end Go.Proofs.YtbckibbgajfihaaGreat
