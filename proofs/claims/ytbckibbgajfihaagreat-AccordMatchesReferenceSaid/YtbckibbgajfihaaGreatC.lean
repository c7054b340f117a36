/- C: walks on abstract states. -/
import Derived.Test.YtbckibbgajfihaaGreatB
set_option linter.unusedVariables false
set_option linter.unusedSimpArgs false
namespace Go.Proofs.YtbckibbgajfihaaGreat
open Go.RowKit Go.Sea
theorem fnok_28 : fnOk Tryz.prog 28 = true := by kernel_rfl
theorem fnok_29 : fnOk Tryz.prog 29 = true := by kernel_rfl
theorem fnok_30 : fnOk Tryz.prog 30 = true := by kernel_rfl
theorem fnok_31 : fnOk Tryz.prog 31 = true := by kernel_rfl
theorem fnok_58 : fnOk Tryz.prog 58 = true := by kernel_rfl
theorem of_26_0 : offOf Tryz.prog 26 0 = some 0 := by kernel_rfl
theorem of_26_3 : offOf Tryz.prog 26 3 = some 3 := by kernel_rfl
theorem ty_24 : tyD Tryz.prog 24 = some (false, 1) := by kernel_rfl

def clB (sh : Nat → Nat → Int) (i j : Nat) : Bool := decide (sh i 0 ≠ sh j 0) && insB (sh i 1) (sh i 2) (sh i 3) (sh i 4) (sh j 1) (sh j 2) (sh j 3) (sh j 4)
def lastS (sg : Nat → Int) : Nat → Int
  | 0 => 0
  | k + 1 => sg k
def shO (sh : Nat → Nat → Int) (i : Nat) : Prop := soundB (sh i 0) (sh i 1) (sh i 2) (sh i 3) (sh i 4) = true ∧ ∀ j, j < i → clB sh i j = false
def sgO (sg : Nat → Int) (i : Nat) : Prop := lastS sg i < sg i ∧ sg i ≤ 20
def valB (a : Acc) : Bool := decide ((1 ≤ a.ver ∧ a.ver ≤ 1000 ∧ 0 ≤ a.frm ∧ a.frm ≤ 10000000 ∧ a.m ≤ 60) ∧ (∀ i, i < a.m → soundB (a.sh i 0) (a.sh i 1) (a.sh i 2) (a.sh i 3) (a.sh i 4) = true ∧ ∀ j, j < i → clB a.sh i j = false) ∧ ∀ i, i < a.q → lastS a.sg i < a.sg i ∧ a.sg i ≤ 20)
theorem val_1 {a : Acc} (h : (((a.ver < 1 ∨ 1000 < a.ver) ∨ a.frm < 0) ∨ 10000000 < a.frm) ∨ 60 < (a.m : Int)) : valB a = false := decide_eq_false fun h' => by have := h'.1; omega
theorem val_2 {a : Acc} {i : Nat} (hi : (i : Int) < a.m) (h : soundB (a.sh i 0) (a.sh i 1) (a.sh i 2) (a.sh i 3) (a.sh i 4) = false) : valB a = false := decide_eq_false fun h' => by rw [(h'.2.1 i (by omega)).1] at h; cases h
theorem val_3 {a : Acc} {i j : Nat} (hi : (i : Int) < a.m) (hj : (j : Int) < i) (h : a.sh i 0 ≠ a.sh j 0 ∧ insB (a.sh i 1) (a.sh i 2) (a.sh i 3) (a.sh i 4) (a.sh j 1) (a.sh j 2) (a.sh j 3) (a.sh j 4) = true) : valB a = false := decide_eq_false fun h' => by
  obtain ⟨h1, h2⟩ := h
  have := (h'.2.1 i (by omega)).2 j (by omega)
  unfold clB at this
  rw [h2, decide_eq_true h1] at this; cases this
theorem val_4 {a : Acc} {k : Nat} (hk : (k : Int) < a.q) (h : a.sg k ≤ lastS a.sg k ∨ 20 < a.sg k) : valB a = false := decide_eq_false fun h' => by have := h'.2.2 k (by omega); omega
theorem val_5 {a : Acc} {i k : Nat} (h : (((1 ≤ a.ver ∧ a.ver ≤ 1000) ∧ 0 ≤ a.frm) ∧ a.frm ≤ 10000000) ∧ (a.m : Int) ≤ 60) (hi : (a.m : Int) ≤ i) (h1 : ∀ i', i' < i → shO a.sh i') (hk : (a.q : Int) ≤ k) (h2 : ∀ k', k' < k → sgO a.sg k') : valB a = true :=
  decide_eq_true ⟨by omega, fun i' hi' => h1 i' (by omega), fun k' hk' => h2 k' (by omega)⟩
theorem cl_f {sh : Nat → Nat → Int} {i j : Nat} (h : sh i 0 = sh j 0 ∨ insB (sh i 1) (sh i 2) (sh i 3) (sh i 4) (sh j 1) (sh j 2) (sh j 3) (sh j 4) = false) : clB sh i j = false := by
  unfold clB
  rcases h with h | h
  · rw [decide_eq_false (fun h' => h' h)]; rfl
  · rw [h]; simp
theorem ctr0 {b : Bool} (h1 : b = true) (h2 : b = false) : False := by rw [h1] at h2; cases h2
theorem ctr {b : Bool} (h1 : b = true) (h2 : b = false ∨ (-1 : Int) ≥ 0) : False := by
  rcases h2 with h2 | h2
  · exact ctr0 h1 h2
  · omega
theorem lastS_s (sg : Nat → Int) (k : Nat) : lastS sg (k + 1) = sg k := rfl
set_option maxRecDepth 100000 in
set_option maxHeartbeats 16000000 in
theorem valid_p (a : Acc) (ha : a.m ≤ 9223372036854775807) (hq : a.q ≤ 9223372036854775807) : CallsP Tryz.prog 7 [accP a] (.t (.one (.g (.bool (valB a))))) := by
  refine CallsP_of Tryz.func7 rfl (by rw [Tryz.ntmps7]; simp) ?_
  simp only [Tryz.ntmps7, List.map_cons, List.map_nil, PT.tv, argEnv, Nat.zero_add, Nat.reduceAdd]
  repeat' (first
 | ((with_reducible show AW _ _ _ _); first
 | (with_reducible refine AW_seq_k fun K hK => ?_)
 | (with_reducible refine AW_skip ?_)
 | (with_reducible refine AW_exit ?_)
 | (with_reducible refine AW_ret ?_)
 | (with_reducible refine AW_condI ?_)
 | (with_reducible refine AW_block ?_)
 | ((with_reducible show AW _ (Code.region _ _ _) _ _); first
 | (with_reducible refine AW_regionP 0 [0, 1] ?_)
 | (with_reducible refine AW_regionP 1 [0, 1, 2] ?_)
 | (with_reducible refine AW_regionP 2 [0, 1, 7, 8] ?_)
 | (with_reducible refine AW_regionP 3 [0, 1, 7, 8] ?_)
 | (with_reducible refine AW_regionP 4 [0, 1, 5, 7, 8, 33, 34, 35] ?_)
 | (with_reducible refine AW_regionP 5 [1, 5, 33, 34, 35] ?_)
 | (with_reducible refine AW_regionP 6 [0, 1, 3, 4, 7, 8, 33, 34, 35] ?_)
 | (with_reducible refine AW_regionP 7 [] ?_)
 | (with_reducible refine AW_regionP 8 [1, 33, 34, 35] ?_)
 | (with_reducible refine AW_regionP 9 [1] ?_)
 | (with_reducible refine AW_regionP 10 [1, 5] ?_)
 | (with_reducible refine AW_regionP 11 [5, 53, 54, 55] ?_)
 | (with_reducible refine AW_regionP 12 [5, 53, 54, 55] ?_)
 | (with_reducible refine AW_regionP 13 [5, 7, 53, 54, 55] ?_)
 | (with_reducible refine AW_regionP 14 [] ?_)
 | (with_reducible refine AW_regionP 15 [7, 53, 54, 55] ?_)
 | (with_reducible refine AW_regionP 16 [5, 53, 54, 55] ?_)
 | (with_reducible refine AW_regionP 17 [] ?_))
 | ((with_reducible show AW _ (Code.loop _) _ _); first
 | ((with_reducible refine AW_loopQ (c := (Code.seq (Code.region 4 _ _) _)) (ι := Nat) [1, 33, 34] (fun i => [(35, iA .i64 (i : Int))]) (fun i => []) (fun i => i ≤ a.m ∧ (∀ i', i' < i → shO a.sh i')) (fun i => a.m - i) 0 ?lg4 ?l14 ?l24 ?li4 ?lr4); (case' lg4 => rintro i _); (case' li4 => try (exact ⟨Nat.zero_le _, fun i hi => absurd hi (Nat.not_lt_zero _)⟩)); (case' lr4 => rintro i ⟨h1, h2⟩ KR hR4; skip; simp only [keepE, hupd, hset, lk, if_true, if_false, Nat.reduceEqDiff, reduceIte, List.cons_append, List.nil_append, cellI, intI, accF0, accF1, accF2, accF3, Int.sub_zero, lastS_s]))
 | ((with_reducible refine AW_loopQ (c := (Code.seq (Code.region 2 _ _) _)) (ι := Nat) [0, 1, 7] (fun j => [(8, iA .i64 (j : Int))]) (fun j => []) (fun j => j ≤ i ∧ (∀ j', j' < j → clB a.sh i j' = false)) (fun j => i - j) 0 ?lg2 ?l12 ?l22 ?li2 ?lr2); (case' lg2 => rintro j _); (case' li2 => try (exact ⟨Nat.zero_le _, fun i hi => absurd hi (Nat.not_lt_zero _)⟩)); (case' lr2 => rintro j ⟨g1, g2⟩ KR hR2; skip; simp only [keepE, hupd, hset, lk, if_true, if_false, Nat.reduceEqDiff, reduceIte, List.cons_append, List.nil_append, cellI, intI, accF0, accF1, accF2, accF3, Int.sub_zero, lastS_s]))
 | ((with_reducible refine AW_loopQ (c := (Code.seq (Code.region 11 _ _) _)) (ι := Nat) [53, 54] (fun k => [(5, iA .i64 (lastS a.sg k)), (55, iA .i64 (k : Int))]) (fun k => []) (fun k => k ≤ a.q ∧ (∀ k', k' < k → sgO a.sg k')) (fun k => a.q - k) 0 ?lg11 ?l111 ?l211 ?li11 ?lr11); (case' lg11 => rintro k _); (case' li11 => try (exact ⟨Nat.zero_le _, fun i hi => absurd hi (Nat.not_lt_zero _)⟩)); (case' lr11 => rintro k ⟨f1, f2⟩ KR hR11; skip; simp only [keepE, hupd, hset, lk, if_true, if_false, Nat.reduceEqDiff, reduceIte, List.cons_append, List.nil_append, cellI, intI, accF0, accF1, accF2, accF3, Int.sub_zero, lastS_s]))))
 | ((first | (with_reducible refine And.intro ?_ ?_) | (with_reducible refine Need.mk ?_)); focus (first | exact True.intro | (with_reducible assumption) | omega | (refine ⟨?_, ?_⟩ <;> omega) | (intro _; first | exact True.intro | (with_reducible assumption) | omega) | (intros; (repeat' (first | exact True.intro | omega | (with_reducible assumption) | (with_reducible refine And.intro ?_ ?_))); done) | (simp (disch := omega) only [Bool.and_eq_true, Bool.or_eq_true, decide_eq_true_eq, bne_iff_ne, ne_eq] at *; first | done | omega | (intros; omega)) | (simp; done) | (simp; omega) | (simp +contextual; done) | (intro h; rw [h]; rfl) | (intros; simp_all; done)))
 | (with_reducible refine retK_n ?_)
 | (with_reducible refine retK_n' ?_)
 | (with_reducible refine retH_n rfl rfl rfl ?_)
 | (with_reducible refine retH_n' rfl rfl rfl ?_)
 | ((with_reducible show condN _ _ _ _ _ _); first
 | ((with_reducible refine condN_t ?_ ?_) <;> (intro hc; (try simp only [Bool.and_eq_true, Bool.or_eq_true, Bool.not_eq_true', Bool.and_eq_false_iff, Bool.or_eq_false_iff, decide_eq_true_eq, decide_eq_false_iff_not, bne_iff_ne, beq_iff_eq, reduceCtorEq, bne_eq_false_iff_eq, beq_eq_false_iff_ne, Bool.not_eq_false', Int.not_le, Int.not_lt, Bool.not_not] at hc); (skip); (try (exfalso; first | contradiction | omega)))))
 | ((with_reducible show callN _ _ _ _ _ _ _ _ _ _); first
 | (refine callN_q (k := 28) fnok_28 (sound_p _ _ _ _ _) ?_ ?_)
 | (refine callN_q (k := 31) fnok_31 (inside_p _ _ _ _ _ _ _ _) ?_ ?_)
 | ((refine callN_i (k := 29) Tryz.func29 rfl fnok_29 (by rw [Tryz.ntmps29]; simp) ?_ ?_ (fun K hK => ?_)); (focus (first | exact True.intro | (with_reducible assumption) | omega | (refine ⟨?_, ?_⟩ <;> omega) | (intro _; first | exact True.intro | (with_reducible assumption) | omega) | (intros; (repeat' (first | exact True.intro | omega | (with_reducible assumption) | (with_reducible refine And.intro ?_ ?_))); done) | (simp (disch := omega) only [Bool.and_eq_true, Bool.or_eq_true, decide_eq_true_eq, bne_iff_ne, ne_eq] at *; first | done | omega | (intros; omega)) | (simp; done) | (simp; omega) | (simp +contextual; done) | (intro h; rw [h]; rfl) | (intros; simp_all; done))); (focus (simp [lsF])); simp only [Tryz.ntmps29, List.map_cons, List.map_nil, List.nil_append, List.cons_append, List.append_nil, LV.tv, argEnv, Nat.zero_add, Nat.reduceAdd])
 | ((refine callN_i (k := 58) Tryz.func58 rfl fnok_58 (by rw [Tryz.ntmps58]; simp) ?_ ?_ (fun K hK => ?_)); (focus (first | exact True.intro | (with_reducible assumption) | omega | (refine ⟨?_, ?_⟩ <;> omega) | (intro _; first | exact True.intro | (with_reducible assumption) | omega) | (intros; (repeat' (first | exact True.intro | omega | (with_reducible assumption) | (with_reducible refine And.intro ?_ ?_))); done) | (simp (disch := omega) only [Bool.and_eq_true, Bool.or_eq_true, decide_eq_true_eq, bne_iff_ne, ne_eq] at *; first | done | omega | (intros; omega)) | (simp; done) | (simp; omega) | (simp +contextual; done) | (intro h; rw [h]; rfl) | (intros; simp_all; done))); (focus (simp [lsF])); simp only [Tryz.ntmps58, List.map_cons, List.map_nil, List.nil_append, List.cons_append, List.append_nil, LV.tv, argEnv, Nat.zero_add, Nat.reduceAdd])
 | ((refine callN_ic (k := 30) Tryz.func30 rfl fnok_30 (by rw [Tryz.ntmps30]; simp) ?_ ?_ (fun K hK => ?_)); (focus (first | exact True.intro | (with_reducible assumption) | omega | (refine ⟨?_, ?_⟩ <;> omega) | (intro _; first | exact True.intro | (with_reducible assumption) | omega) | (intros; (repeat' (first | exact True.intro | omega | (with_reducible assumption) | (with_reducible refine And.intro ?_ ?_))); done) | (simp (disch := omega) only [Bool.and_eq_true, Bool.or_eq_true, decide_eq_true_eq, bne_iff_ne, ne_eq] at *; first | done | omega | (intros; omega)) | (simp; done) | (simp; omega) | (simp +contextual; done) | (intro h; rw [h]; rfl) | (intros; simp_all; done))); (focus (simp [lsF])); simp only [Tryz.ntmps30, List.map_cons, List.map_nil, List.nil_append, List.cons_append, List.append_nil, LV.tv, argEnv, Nat.zero_add, Nat.reduceAdd]))
 | ((with_reducible show callGN _ _ _ _ _ _ _ _ _ _); first
 | (refine callGN_q (k := 31) fnok_31 (fun hg => inside_p _ _ _ _ _ _ _ _) ?_ ?_)
 | ((refine callGN_sq (k := 29) ?_ ?_) <;> (intro hc; (try simp only [Bool.and_eq_true, Bool.or_eq_true, Bool.not_eq_true', Bool.and_eq_false_iff, Bool.or_eq_false_iff, decide_eq_true_eq, decide_eq_false_iff_not, bne_iff_ne, beq_iff_eq, reduceCtorEq, bne_eq_false_iff_eq, beq_eq_false_iff_ne, Bool.not_eq_false', Int.not_le, Int.not_lt, Bool.not_not] at hc); (try (exfalso; first | contradiction | omega)))))
 | ((with_reducible refine hR4 _ (i + 1) ?_); (try clear hR4 KR))
 | ((with_reducible refine hR2 _ (j + 1) ?_); (try clear hR2 KR))
 | ((with_reducible refine hR11 _ (k + 1) ?_); (try clear hR11 KR))
 | ((with_reducible refine Told.mk ?_); simp only [go_sem, reduceIte, reduceCtorEq, Nat.reduceAdd, Nat.reduceLT, Nat.reduceLeDiff, Nat.reduceEqDiff, Nat.reduceMul, Nat.reduceSub, Nat.reduceBEq, cellI, intI, accF0, accF1, accF2, accF3, Int.sub_zero, lastS_s] <;> (first | exact True.intro | (((try simp (disch := omega) only [seaWrap, Int.natCast_add, Int.cast_ofNat_Int, and_true, true_and, and_self]); (repeat' (first | exact True.intro | omega | rfl | (with_reducible assumption) | (with_reducible refine And.intro ?_ ?_) | (exact all_succ (by assumption) (by assumption)) | ((exact all_succ (by assumption) ⟨by assumption, fun j hj => by (rename_i g1 g2 g3; exact g2 j (by omega))⟩)))); done)) | (((try simp (disch := omega) only [seaWrap, Int.natCast_add, Int.cast_ofNat_Int, and_true, true_and, and_self]); (repeat' (first | exact True.intro | omega | rfl | (with_reducible assumption) | (with_reducible refine And.intro ?_ ?_) | (exact all_succ (by assumption) (by assumption)) | ((exact all_succ (by assumption) (cl_f (by assumption)))))); done)) | (((try simp (disch := omega) only [seaWrap, Int.natCast_add, Int.cast_ofNat_Int, and_true, true_and, and_self]); (repeat' (first | exact True.intro | omega | rfl | (with_reducible assumption) | (with_reducible refine And.intro ?_ ?_) | (exact all_succ (by assumption) (by assumption)) | ((exact all_succ (by assumption) ⟨by omega, by omega⟩)))); done)) | (refine Stuck.out ?_)))
 | ((fail_if_success (with_reducible show AW _ _ _ _)); simp (maxSteps := 2000000) only [go_sem, reduceIte, reduceCtorEq, Nat.reduceAdd, Nat.reduceLT, Nat.reduceLeDiff, Nat.reduceEqDiff, Nat.reduceMul, Nat.reduceSub, Nat.reduceBEq, Tryz.f7, Tryz.f29, Tryz.f58, Tryz.f30, of_26_0, ty_3, of_26_1, of_26_2, ty_23, le_23, sl_23, ar_23, ty_67, zc_67, fnok_28, fnok_29, of_26_3, ty_24, le_24, sl_24, ar_24, fnok_58, of_67_0, of_67_1, ty_65, fnok_31, cellI, intI, accF0, accF1, accF2, accF3, Int.sub_zero, lastS_s])
 | ((fail_if_success (with_reducible show AW _ _ _ _)); simp (disch := omega) only [seaWrap, seaDiv, seaMod])
 | ((with_reducible refine hK _ ?_); clear hK K)
 | (with_reducible apply_assumption -exfalso only [*]))
  all_goals (first
    | (refine Eq.symm ?_; exact val_1 (by omega))
    | (exfalso; first | exact ctr0 (b := soundB (a.sh i 0) (a.sh i 1) (a.sh i 2) (a.sh i 3) (a.sh i 4)) (by assumption) (by assumption) | exact ctr (b := soundB (a.sh i 0) (a.sh i 1) (a.sh i 2) (a.sh i 3) (a.sh i 4)) (by assumption) (by assumption))
    | (refine Eq.symm ?_; first | exact val_3 (i := i) (j := j) (by assumption) (by assumption) (by assumption) | exact val_2 (i := i) (by assumption) (by assumption) | exact val_4 (k := k) (by assumption) (by omega) | exact val_5 (i := i) (k := k) (by assumption) (by assumption) (by assumption) (by assumption) (by assumption)))

end Go.Proofs.YtbckibbgajfihaaGreat
