/- G: walks on abstract states. -/
import Derived.Test.YtbckibbgajfihaaGreatF
set_option linter.unusedVariables false
set_option linter.unusedSimpArgs false
namespace Go.Proofs.YtbckibbgajfihaaGreat
open Go.RowKit Go.Sea
theorem fnok_9 : fnOk Tryz.prog 9 = true := by kernel_rfl
theorem fnok_40 : fnOk Tryz.prog 40 = true := by kernel_rfl
theorem fnok_35 : fnOk Tryz.prog 35 = true := by kernel_rfl
theorem fnok_44 : fnOk Tryz.prog 44 = true := by kernel_rfl
theorem fnok_45 : fnOk Tryz.prog 45 = true := by kernel_rfl
theorem fnok_60 : fnOk Tryz.prog 60 = true := by kernel_rfl
theorem fnok_79 : fnOk Tryz.prog 79 = true := by kernel_rfl
theorem fnok_80 : fnOk Tryz.prog 80 = true := by kernel_rfl
theorem fnok_81 : fnOk Tryz.prog 81 = true := by kernel_rfl
theorem fnok_95 : fnOk Tryz.prog 95 = true := by kernel_rfl

theorem bd_val {a : Acc} (h : valB a = true) (hq : a.q ≤ 9223372036854775807) : Bd a := by
  have h' := of_decide_eq_true h
  refine ⟨by omega, hq, fun i hi => ?_, fun i hi => ?_⟩
  all_goals
    have := (h'.2.1 i hi).1
    unfold soundB at this
    have := of_decide_eq_true this
    omega
theorem bd_0 {a : Acc} (h : a.m = 0) (hq : a.q ≤ 9223372036854775807) : Bd a := ⟨by omega, hq, fun i hi => by omega, fun i hi => by omega⟩
def sgdB (a b : Acc) : Bool := decide (∀ i, i < (conL a b).length → hasL b.q b.sg ((conL a b).getD i 0) = true)
theorem sgd_t {a b : Acc} {k : Nat} (hk : ((conL a b).length : Int) ≤ k) (h : ∀ i, i < k → hasL b.q b.sg ((conL a b).getD i 0) = true) : sgdB a b = true := decide_eq_true fun i hi => h i (by omega)
theorem sgd_f {a b : Acc} {k : Nat} (hk : (k : Int) < (conL a b).length) (h : hasL b.q b.sg ((conL a b).getD k 0) = false) : sgdB a b = false := decide_eq_false fun h' => by rw [h' k (by omega)] at h; cases h
def folV (a b : Acc) : Int := if valB b = false then 1 else if b.ver ≤ a.ver ∨ b.frm < a.frm then 13 else if sgdB a b = false then 21 else 0
theorem con_len (a b : Acc) : (conL a b).length ≤ 21 := outL_le _ 21

set_option maxRecDepth 100000 in
set_option maxHeartbeats 4000000 in
theorem signed_p (a b : Acc) (ha : Bd a) (hb : Bd b) : CallsP Tryz.prog 60 [accP a, accP b] (.t (.one (.g (.bool (sgdB a b))))) := by
  have hcl := con_len a b
  refine CallsP_of Tryz.func60 rfl (by rw [Tryz.ntmps60]; simp) ?_
  simp only [Tryz.ntmps60, List.map_cons, List.map_nil, PT.tv, argEnv, Nat.zero_add, Nat.reduceAdd]
  repeat' (first
 | ((with_reducible show AW _ _ _ _); first
 | (with_reducible refine AW_seq_k fun K hK => ?_)
 | (with_reducible refine AW_skip ?_)
 | (with_reducible refine AW_exit ?_)
 | (with_reducible refine AW_ret ?_)
 | (with_reducible refine AW_condI ?_)
 | (with_reducible refine AW_block ?_)
 | ((with_reducible show AW _ (Code.region _ _ _) _ _); first
 | (with_reducible refine AW_regionP 0 [0, 1] ?_)
 | (with_reducible refine AW_regionP 1 [0, 1, 2, 3] ?_)
 | (with_reducible refine AW_regionP 2 [0, 1, 7, 8] ?_)
 | (with_reducible refine AW_regionP 3 [0, 1, 7, 8] ?_)
 | (with_reducible refine AW_regionP 4 [0, 1, 5, 7, 8] ?_)
 | (with_reducible refine AW_regionP 5 [5] ?_)
 | (with_reducible refine AW_regionP 6 [0, 1, 7, 8] ?_)
 | (with_reducible refine AW_regionP 7 [] ?_))
 | ((with_reducible show AW _ (Code.loop _) _ _); first
 | ((with_reducible refine AW_loopQ (c := (Code.seq (Code.region 2 _ _) _)) (ι := Nat) [0, 1, 7] (fun k => [(8, iA .i64 (k : Int))]) (fun k => []) (fun k => k ≤ (conL a b).length ∧ (∀ i, i < k → hasL b.q b.sg ((conL a b).getD i 0) = true)) (fun k => (conL a b).length - k) 0 ?lg2 ?l12 ?l22 ?li2 ?lr2); (case' lg2 => rintro k _); (case' li2 => try (exact ⟨Nat.zero_le _, fun i hi => absurd hi (Nat.not_lt_zero _)⟩)); (case' lr2 => rintro k ⟨h1, h2⟩ KR hR2; skip; simp only [keepE, hupd, hset, lk, if_true, if_false, Nat.reduceEqDiff, reduceIte, List.cons_append, List.nil_append, cellI, intI, accF0, accF1, accF2, accF3]))))
 | ((first | (with_reducible refine And.intro ?_ ?_) | (with_reducible refine Need.mk ?_)); focus (first | exact True.intro | (with_reducible assumption) | omega | (refine ⟨?_, ?_⟩ <;> omega) | (intro _; first | exact True.intro | (with_reducible assumption) | omega) | (intros; (repeat' (first | exact True.intro | omega | (with_reducible assumption) | (with_reducible refine And.intro ?_ ?_))); done) | (simp (disch := omega) only [Bool.and_eq_true, Bool.or_eq_true, decide_eq_true_eq, bne_iff_ne, ne_eq] at *; first | done | omega | (intros; omega)) | (simp; done) | (simp; omega) | (simp +contextual; done) | (intro h; rw [h]; rfl) | (intros; simp_all; done)))
 | (with_reducible refine retK_n ?_)
 | (with_reducible refine retK_n' ?_)
 | (with_reducible refine retH_n rfl rfl rfl ?_)
 | (with_reducible refine retH_n' rfl rfl rfl ?_)
 | ((with_reducible show condN _ _ _ _ _ _); first
 | ((with_reducible refine condN_t ?_ ?_) <;> (intro hc; (try simp only [Bool.and_eq_true, Bool.or_eq_true, Bool.not_eq_true', Bool.and_eq_false_iff, Bool.or_eq_false_iff, decide_eq_true_eq, decide_eq_false_iff_not, bne_iff_ne, beq_iff_eq, reduceCtorEq, bne_eq_false_iff_eq, beq_eq_false_iff_ne, Bool.not_eq_false', Int.not_le, Int.not_lt, Bool.not_not] at hc); (try (exfalso; first | contradiction | omega)))))
 | ((with_reducible show callN _ _ _ _ _ _ _ _ _ _); first
 | (refine callN_q (k := 45) fnok_45 (con_p a b ha hb) ?_ ?_)
 | (refine callN_q (k := 81) fnok_81 (contains_p _ _ _ hb.q) ?_ ?_)
 | ((refine callN_i (k := 79) Tryz.func79 rfl fnok_79 (by rw [Tryz.ntmps79]; simp) ?_ ?_ (fun K hK => ?_)); (focus (first | exact True.intro | (with_reducible assumption) | omega | (refine ⟨?_, ?_⟩ <;> omega) | (intro _; first | exact True.intro | (with_reducible assumption) | omega) | (intros; (repeat' (first | exact True.intro | omega | (with_reducible assumption) | (with_reducible refine And.intro ?_ ?_))); done) | (simp (disch := omega) only [Bool.and_eq_true, Bool.or_eq_true, decide_eq_true_eq, bne_iff_ne, ne_eq] at *; first | done | omega | (intros; omega)) | (simp; done) | (simp; omega) | (simp +contextual; done) | (intro h; rw [h]; rfl) | (intros; simp_all; done))); (focus (simp [lsF])); simp only [Tryz.ntmps79, List.map_cons, List.map_nil, List.nil_append, List.cons_append, List.append_nil, LV.tv, argEnv, Nat.zero_add, Nat.reduceAdd])
 | ((refine callN_i (k := 95) Tryz.func95 rfl fnok_95 (by rw [Tryz.ntmps95]; simp) ?_ ?_ (fun K hK => ?_)); (focus (first | exact True.intro | (with_reducible assumption) | omega | (refine ⟨?_, ?_⟩ <;> omega) | (intro _; first | exact True.intro | (with_reducible assumption) | omega) | (intros; (repeat' (first | exact True.intro | omega | (with_reducible assumption) | (with_reducible refine And.intro ?_ ?_))); done) | (simp (disch := omega) only [Bool.and_eq_true, Bool.or_eq_true, decide_eq_true_eq, bne_iff_ne, ne_eq] at *; first | done | omega | (intros; omega)) | (simp; done) | (simp; omega) | (simp +contextual; done) | (intro h; rw [h]; rfl) | (intros; simp_all; done))); (focus (simp [lsF])); simp only [Tryz.ntmps95, List.map_cons, List.map_nil, List.nil_append, List.cons_append, List.append_nil, LV.tv, argEnv, Nat.zero_add, Nat.reduceAdd])
 | ((refine callN_ic (k := 80) Tryz.func80 rfl fnok_80 (by rw [Tryz.ntmps80]; simp) ?_ ?_ (fun K hK => ?_)); (focus (first | exact True.intro | (with_reducible assumption) | omega | (refine ⟨?_, ?_⟩ <;> omega) | (intro _; first | exact True.intro | (with_reducible assumption) | omega) | (intros; (repeat' (first | exact True.intro | omega | (with_reducible assumption) | (with_reducible refine And.intro ?_ ?_))); done) | (simp (disch := omega) only [Bool.and_eq_true, Bool.or_eq_true, decide_eq_true_eq, bne_iff_ne, ne_eq] at *; first | done | omega | (intros; omega)) | (simp; done) | (simp; omega) | (simp +contextual; done) | (intro h; rw [h]; rfl) | (intros; simp_all; done))); (focus (simp [lsF])); simp only [Tryz.ntmps80, List.map_cons, List.map_nil, List.nil_append, List.cons_append, List.append_nil, LV.tv, argEnv, Nat.zero_add, Nat.reduceAdd]))
 | ((with_reducible refine hR2 _ (k + 1) ?_); (try clear hR2 KR))
 | ((with_reducible refine Told.mk ?_); simp only [go_sem, reduceIte, reduceCtorEq, Nat.reduceAdd, Nat.reduceLT, Nat.reduceLeDiff, Nat.reduceEqDiff, Nat.reduceMul, Nat.reduceSub, Nat.reduceBEq, cellI, intI, accF0, accF1, accF2, accF3] <;> (first | exact True.intro | (((try simp (disch := omega) only [seaWrap, Int.natCast_add, Int.cast_ofNat_Int, and_true, true_and, and_self]); (repeat' (first | exact True.intro | omega | (with_reducible assumption) | (with_reducible refine And.intro ?_ ?_) | (exact all_succ (by assumption) (by assumption)))); done)) | (refine Stuck.out ?_)))
 | ((fail_if_success (with_reducible show AW _ _ _ _)); simp (maxSteps := 2000000) only [go_sem, reduceIte, reduceCtorEq, Nat.reduceAdd, Nat.reduceLT, Nat.reduceLeDiff, Nat.reduceEqDiff, Nat.reduceMul, Nat.reduceSub, Nat.reduceBEq, Tryz.f60, Tryz.f79, Tryz.f95, Tryz.f80, ty_26, fnok_45, fnok_79, fnok_95, le_24, sl_24, ar_24, ty_3, of_26_3, ty_24, fnok_81, cellI, intI, accF0, accF1, accF2, accF3])
 | ((fail_if_success (with_reducible show AW _ _ _ _)); simp (disch := omega) only [seaWrap, seaDiv, seaMod])
 | ((with_reducible refine hK _ ?_); clear hK K)
 | (with_reducible apply_assumption -exfalso only [*]))
  all_goals first | (rw [sgd_f (by assumption) (by assumption)]; simp; done) | (rw [sgd_t (by assumption) (by assumption)]; rfl)

set_option maxRecDepth 100000 in
set_option maxHeartbeats 4000000 in
theorem follows_p (a b : Acc) (ha : Bd a) (hm : b.m ≤ 9223372036854775807) (hq : b.q ≤ 9223372036854775807) : CallsP Tryz.prog 35 [accP a, accP b] (.t (.one (.g (.int .i64 (folV a b))))) := by
  refine CallsP_of Tryz.func35 rfl (by rw [Tryz.ntmps35]; simp) ?_
  simp only [Tryz.ntmps35, List.map_cons, List.map_nil, PT.tv, argEnv, Nat.zero_add, Nat.reduceAdd]
  repeat' (first
 | ((with_reducible show AW _ _ _ _); first
 | (with_reducible refine AW_seq_k fun K hK => ?_)
 | (with_reducible refine AW_skip ?_)
 | (with_reducible refine AW_exit ?_)
 | (with_reducible refine AW_ret ?_)
 | (with_reducible refine AW_condI ?_)
 | (with_reducible refine AW_block ?_)
 | ((with_reducible show AW _ (Code.region _ _ _) _ _); first
 | (with_reducible refine AW_regionP 0 [0, 1] ?_)
 | (with_reducible refine AW_regionP 1 [2, 3] ?_)
 | (with_reducible refine AW_regionP 2 [] ?_)
 | (with_reducible refine AW_regionP 3 [2, 3] ?_)
 | (with_reducible refine AW_regionP 4 [2, 3] ?_)
 | (with_reducible refine AW_regionP 5 [] ?_)
 | (with_reducible refine AW_regionP 6 [2, 3] ?_)
 | (with_reducible refine AW_regionP 7 [] ?_)
 | (with_reducible refine AW_regionP 8 [] ?_)))
 | ((first | (with_reducible refine And.intro ?_ ?_) | (with_reducible refine Need.mk ?_)); focus (first | exact True.intro | (with_reducible assumption) | omega | (refine ⟨?_, ?_⟩ <;> omega) | (intro _; first | exact True.intro | (with_reducible assumption) | omega) | (intros; (repeat' (first | exact True.intro | omega | (with_reducible assumption) | (with_reducible refine And.intro ?_ ?_))); done) | (simp (disch := omega) only [Bool.and_eq_true, Bool.or_eq_true, decide_eq_true_eq, bne_iff_ne, ne_eq] at *; first | done | omega | (intros; omega)) | (simp; done) | (simp; omega) | (simp +contextual; done) | (intro h; rw [h]; rfl) | (intros; simp_all; done)))
 | (with_reducible refine retK_n ?_)
 | (with_reducible refine retK_n' ?_)
 | (with_reducible refine retH_n rfl rfl rfl ?_)
 | (with_reducible refine retH_n' rfl rfl rfl ?_)
 | ((with_reducible show condN _ _ _ _ _ _); first
 | ((with_reducible refine condN_t ?_ ?_) <;> (intro hc; (try simp only [Bool.and_eq_true, Bool.or_eq_true, Bool.not_eq_true', Bool.and_eq_false_iff, Bool.or_eq_false_iff, decide_eq_true_eq, decide_eq_false_iff_not, bne_iff_ne, beq_iff_eq, reduceCtorEq, bne_eq_false_iff_eq, beq_eq_false_iff_ne, Bool.not_eq_false', Int.not_le, Int.not_lt, Bool.not_not] at hc); (try (exfalso; first | contradiction | omega)))))
 | ((with_reducible show callN _ _ _ _ _ _ _ _ _ _); first
 | (refine callN_q (k := 7) fnok_7 (valid_p _ hm hq) ?_ ?_)
 | (refine callN_q (k := 60) fnok_60 (signed_p a b ha (bd_val (by assumption) hq)) ?_ ?_))
 | ((fail_if_success (with_reducible show AW _ _ _ _)); simp (maxSteps := 2000000) only [go_sem, reduceIte, reduceCtorEq, Nat.reduceAdd, Nat.reduceLT, Nat.reduceLeDiff, Nat.reduceEqDiff, Nat.reduceMul, Nat.reduceSub, Nat.reduceBEq, Tryz.f35, ty_26, fnok_7, of_26_0, ty_3, of_26_1, fnok_60, cellI, intI, accF0, accF1, accF2, accF3])
 | ((with_reducible refine hK _ ?_); clear hK K))
  all_goals (refine Eq.symm ?_; unfold folV; first | exact if_pos (by assumption) | (rw [if_neg (by simp [*])]; first | exact if_pos (by omega) | (rw [if_neg (by omega)]; first | exact if_pos (by assumption) | exact if_neg (by simp [*]))))

theorem fol_0 {a b : Acc} (h : folV a b = 0) : valB b = true ∧ a.ver < b.ver ∧ a.frm ≤ b.frm ∧ sgdB a b = true := by
  unfold folV at h
  by_cases h1 : valB b = false
  · rw [if_pos h1] at h; omega
  · rw [if_neg h1] at h
    by_cases h2 : b.ver ≤ a.ver ∨ b.frm < a.frm
    · rw [if_pos h2] at h; omega
    · rw [if_neg h2] at h
      by_cases h3 : sgdB a b = false
      · rw [if_pos h3] at h; omega
      · exact ⟨by simpa using h1, by omega, by omega, by simpa using h3⟩
def listB (n : Nat) (a : Nat → Acc) : Bool := decide (n ≤ 20 ∧ ∀ i, i < n → folV (lastA i a) (a i) = 0)
theorem bd_last {n : Nat} {a : Nat → Acc} (ha : ∀ i, i < n → (a i).m ≤ 9223372036854775807 ∧ (a i).q ≤ 9223372036854775807) {k : Nat} (hk : k ≤ n) (h : ∀ i, i < k → folV (lastA i a) (a i) = 0) : Bd (lastA k a) := by
  unfold lastA
  by_cases h0 : k = 0
  · rw [if_pos h0]; exact bd_0 rfl (Nat.zero_le _)
  · rw [if_neg h0]; exact bd_val (fol_0 (h (k - 1) (by omega))).1 (ha (k - 1) (by omega)).2
theorem last_m {n : Nat} {a : Nat → Acc} (ha : ∀ i, i < n → (a i).m ≤ 9223372036854775807 ∧ (a i).q ≤ 9223372036854775807) {k : Nat} (hk : k ≤ n) : (lastA k a).m ≤ 9223372036854775807 ∧ (lastA k a).q ≤ 9223372036854775807 := by
  unfold lastA
  by_cases h0 : k = 0
  · rw [if_pos h0]; exact ⟨Nat.zero_le _, Nat.zero_le _⟩
  · rw [if_neg h0]; exact ha (k - 1) (by omega)
def ownB (n : Nat) (a : Nat → Acc) (x y t : Int) : Bool := listB n a && vbox x x y y && decide (0 ≤ t ∧ t ≤ 10000000)
def ownN (n : Nat) (a : Nat → Acc) (x y t : Int) : Int := ofV (lastA (fN a t n) a) x y
def ownV (n : Nat) (a : Nat → Acc) (x y t : Int) : Int := if ownB n a x y t = true then ownN n a x y t else 0
def ownE (n : Nat) (a : Nat → Acc) (x y t : Int) : Int := if ownB n a x y t = true then (if ownN n a x y t = 0 then 4 else 0) else 1
def conR (a b : Acc) : List Int := if cmpB a b = true then conL a b else []
def conE (a b : Acc) : Int := if cmpB a b = true then 0 else 1
theorem cmp_bd {a b : Acc} (h : cmpB a b = true) (hq : a.q ≤ 9223372036854775807) (hr : b.q ≤ 9223372036854775807) : Bd a ∧ Bd b := by
  simp only [cmpB, Bool.and_eq_true, Bool.or_eq_true, decide_eq_true_eq] at h
  refine ⟨?_, bd_val h.2 hr⟩
  rcases h.1 with h | h
  · exact bd_0 h.2.2.1 hq
  · exact bd_val h hq
theorem own_f {n : Nat} {a : Nat → Acc} {x y t : Int} (h : ((listB n a = false ∨ vbox x x y y = false) ∨ t < 0) ∨ t > 10000000) : ownB n a x y t = false := by
  cases h' : ownB n a x y t with
  | false => rfl
  | true =>
    exfalso
    simp only [ownB, Bool.and_eq_true, decide_eq_true_eq] at h'
    rcases h with ((h | h) | h) | h
    · rw [h'.1.1] at h; cases h
    · rw [h'.1.2] at h; cases h
    · omega
    · omega
theorem own_t {n : Nat} {a : Nat → Acc} {x y t : Int} (h : ((listB n a = true ∧ vbox x x y y = true) ∧ 0 ≤ t) ∧ t ≤ 10000000) : ownB n a x y t = true := by
  simp only [ownB, Bool.and_eq_true, decide_eq_true_eq]
  exact ⟨h.1.1, h.1.2, h.2⟩

set_option maxRecDepth 100000 in
set_option maxHeartbeats 4000000 in
theorem list_p (n : Nat) (a : Nat → Acc) (hn : n ≤ 9223372036854775807) (ha : ∀ i, i < n → (a i).m ≤ 9223372036854775807 ∧ (a i).q ≤ 9223372036854775807) : CallsP Tryz.prog 9 [.one (.lst 4 n (accF a))] (.t (.one (.g (.bool (listB n a))))) := by
  refine CallsP_of Tryz.func9 rfl (by rw [Tryz.ntmps9]; simp) ?_
  simp only [Tryz.ntmps9, List.map_cons, List.map_nil, PT.tv, argEnv, Nat.zero_add, Nat.reduceAdd]
  repeat' (first
 | ((with_reducible show AW _ _ _ _); first
 | (with_reducible refine AW_seq_k fun K hK => ?_)
 | (with_reducible refine AW_skip ?_)
 | (with_reducible refine AW_exit ?_)
 | (with_reducible refine AW_ret ?_)
 | (with_reducible refine AW_condI ?_)
 | (with_reducible refine AW_block ?_)
 | ((with_reducible show AW _ (Code.region _ _ _) _ _); first
 | (with_reducible refine AW_regionP 0 [0] ?_)
 | (with_reducible refine AW_regionP 1 [0] ?_)
 | (with_reducible refine AW_regionP 2 [0, 5, 6, 7] ?_)
 | (with_reducible refine AW_regionP 3 [0, 5, 6, 7] ?_)
 | ((with_reducible refine AW_prune (c := Code.region 4 _ true) [0, 3, 4, 5, 6, 7] ?_); (with_reducible refine AW_regionD ?_ ?_ ?_ ?_); (focus kernel_rfl); (focus kernel_rfl); (focus kernel_rfl))
 | (with_reducible refine AW_regionP 5 [] ?_)
 | (with_reducible refine AW_regionP 6 [0, 5, 6, 7] ?_)
 | (with_reducible refine AW_regionP 7 [] ?_))
 | ((with_reducible show AW _ (Code.loop _) _ _); first
 | ((with_reducible refine AW_loopQ (c := (Code.seq (Code.region 2 _ _) _)) (ι := Nat) [0, 5, 6] (fun k => [(7, iA .i64 (k : Int))]) (fun k => []) (fun k => k ≤ n ∧ k ≤ 20 ∧ (∀ i, i < k → folV (lastA i a) (a i) = 0)) (fun k => n - k) 0 ?lg2 ?l12 ?l22 ?li2 ?lr2); (case' lg2 => rintro k _); (case' li2 => try (exact ⟨Nat.zero_le _, Nat.zero_le _, fun i hi => absurd hi (Nat.not_lt_zero _)⟩)); (case' lr2 => rintro k ⟨h1, h3, h2⟩ KR hR2; skip; simp only [keepE, hupd, hset, lk, if_true, if_false, Nat.reduceEqDiff, reduceIte, List.cons_append, List.nil_append, cellI, intI, accF0, accF1, accF2, accF3, Int.sub_zero, Int.toNat_natCast]))))
 | ((first | (with_reducible refine And.intro ?_ ?_) | (with_reducible refine Need.mk ?_)); focus (first | exact True.intro | (with_reducible assumption) | omega | (refine ⟨?_, ?_⟩ <;> omega) | (intro _; first | exact True.intro | (with_reducible assumption) | omega) | (intros; (repeat' (first | exact True.intro | omega | (with_reducible assumption) | (with_reducible refine And.intro ?_ ?_))); done) | (simp (disch := omega) only [Bool.and_eq_true, Bool.or_eq_true, decide_eq_true_eq, bne_iff_ne, ne_eq] at *; first | done | omega | (intros; omega)) | (simp; done) | (simp; omega) | (simp +contextual; done) | (intro h; rw [h]; rfl) | (intros; simp_all; done)))
 | (with_reducible refine retK_n ?_)
 | (with_reducible refine retK_n' ?_)
 | (with_reducible refine retH_n rfl rfl rfl ?_)
 | (with_reducible refine retH_n' rfl rfl rfl ?_)
 | ((with_reducible show condN _ _ _ _ _ _); first
 | ((with_reducible refine condN_t ?_ ?_) <;> (intro hc; (try simp only [Bool.and_eq_true, Bool.or_eq_true, Bool.not_eq_true', Bool.and_eq_false_iff, Bool.or_eq_false_iff, decide_eq_true_eq, decide_eq_false_iff_not, bne_iff_ne, beq_iff_eq, reduceCtorEq, bne_eq_false_iff_eq, beq_eq_false_iff_ne, Bool.not_eq_false', Int.not_le, Int.not_lt, Bool.not_not] at hc); (try (exfalso; first | contradiction | omega)))))
 | ((with_reducible refine And.intro ?_ ?_); focus ((with_reducible show chkR _ _ _ = true); kernel_rfl))
 | ((with_reducible show callDGN _ _ _ _ _ _ _ _ _ _ _ _ _); first
 | (refine callDGN_q (k := 36) fnok_36 (fun hg => last_p _ _ (by omega)) ?_ ?_)
 | (refine callDGN_q (k := 35) fnok_35 (fun hg => follows_p _ _ (bd_last ha (by omega) (by assumption)) (ha _ (by omega)).1 (ha _ (by omega)).2) ?_ ?_))
 | ((with_reducible refine hR2 _ (k + 1) ?_); (try clear hR2 KR))
 | ((with_reducible refine Told.mk ?_); simp only [go_sem, reduceIte, reduceCtorEq, Nat.reduceAdd, Nat.reduceLT, Nat.reduceLeDiff, Nat.reduceEqDiff, Nat.reduceMul, Nat.reduceSub, Nat.reduceBEq, cellI, intI, accF0, accF1, accF2, accF3, Int.sub_zero, Int.toNat_natCast] <;> (first | exact True.intro | (((try simp (disch := omega) only [seaWrap, Int.natCast_add, Int.cast_ofNat_Int, and_true, true_and, and_self]); (repeat' (first | exact True.intro | omega | rfl | (with_reducible assumption) | (with_reducible refine And.intro ?_ ?_) | (exact all_succ (by assumption) (by assumption)) | (exact all_succ (by assumption) hc.2))); done)) | (refine Stuck.out ?_)))
 | ((fail_if_success (with_reducible show AW _ _ _ _)); simp (maxSteps := 2000000) only [go_sem, reduceIte, reduceCtorEq, Nat.reduceAdd, Nat.reduceLT, Nat.reduceLeDiff, Nat.reduceEqDiff, Nat.reduceMul, Nat.reduceSub, Nat.reduceBEq, Tryz.f9, le_22, sl_22, ar_22, ty_26, zc_26, fnok_36, fnok_35, cellI, intI, accF0, accF1, accF2, accF3, Int.sub_zero, Int.toNat_natCast])
 | ((fail_if_success (with_reducible show AW _ _ _ _)); simp (disch := omega) only [seaWrap, seaDiv, seaMod])
 | ((with_reducible refine hK _ ?_); clear hK K)
 | (with_reducible apply_assumption -exfalso only [*]))
  all_goals (refine Eq.symm ?_; unfold listB; first | exact decide_eq_true ⟨by omega, fun i hi => h2 i (by omega)⟩ | (refine decide_eq_false fun h => ?_; rcases hc with hc | hc; (omega); (exact hc (h.2 k (by omega)))))

set_option maxRecDepth 100000 in
set_option maxHeartbeats 4000000 in
theorem owner_p (n : Nat) (a : Nat → Acc) (x y t : Int) (hn : n ≤ 9223372036854775807) (ha : ∀ i, i < n → (a i).m ≤ 9223372036854775807 ∧ (a i).q ≤ 9223372036854775807) : CallsP Tryz.prog 11 [.one (.lst 4 n (accF a)), .agg [.g (.int .i64 (x)), .g (.int .i64 (y))], .one (.g (.int .i64 (t)))] (.tup [.one (.g (.int .i64 (ownV n a x y t))), .one (.g (.int .i64 (ownE n a x y t)))]) := by
  refine CallsP_of Tryz.func11 rfl (by rw [Tryz.ntmps11]; simp) ?_
  simp only [Tryz.ntmps11, List.map_cons, List.map_nil, PT.tv, argEnv, Nat.zero_add, Nat.reduceAdd]
  repeat' (first
 | ((with_reducible show AW _ _ _ _); first
 | (with_reducible refine AW_seq_k fun K hK => ?_)
 | (with_reducible refine AW_skip ?_)
 | (with_reducible refine AW_exit ?_)
 | (with_reducible refine AW_ret ?_)
 | (with_reducible refine AW_condI ?_)
 | (with_reducible refine AW_block ?_)
 | ((with_reducible show AW _ (Code.region _ _ _) _ _); first
 | (with_reducible refine AW_regionP 0 [0, 1, 2] ?_)
 | (with_reducible refine AW_regionP 1 [0, 2, 4] ?_)
 | (with_reducible refine AW_regionP 2 [0, 2, 4, 8] ?_)
 | (with_reducible refine AW_regionP 3 [] ?_)
 | ((with_reducible refine AW_prune (c := Code.region 4 _ true) [0, 2, 4] ?_); (with_reducible refine AW_regionD ?_ ?_ ?_ ?_); (focus kernel_rfl); (focus kernel_rfl); (focus kernel_rfl))
 | (with_reducible refine AW_regionP 5 [9] ?_)
 | (with_reducible refine AW_regionP 6 [] ?_)
 | (with_reducible refine AW_regionP 7 [9] ?_)))
 | ((first | (with_reducible refine And.intro ?_ ?_) | (with_reducible refine Need.mk ?_)); focus (first | exact True.intro | (with_reducible assumption) | omega | (refine ⟨?_, ?_⟩ <;> omega) | (intro _; first | exact True.intro | (with_reducible assumption) | omega) | (intros; (repeat' (first | exact True.intro | omega | (with_reducible assumption) | (with_reducible refine And.intro ?_ ?_))); done) | (simp (disch := omega) only [Bool.and_eq_true, Bool.or_eq_true, decide_eq_true_eq, bne_iff_ne, ne_eq] at *; first | done | omega | (intros; omega)) | (simp; done) | (simp; omega) | (simp +contextual; done) | (intro h; rw [h]; rfl) | (intros; simp_all; done)))
 | (with_reducible refine retK_n ?_)
 | (with_reducible refine retK_n' ?_)
 | (with_reducible refine retH_n rfl rfl rfl ?_)
 | (with_reducible refine retH_n' rfl rfl rfl ?_)
 | ((with_reducible show condN _ _ _ _ _ _); first
 | ((with_reducible refine condN_t ?_ ?_) <;> (intro hc; (try simp only [Bool.and_eq_true, Bool.or_eq_true, Bool.not_eq_true', Bool.and_eq_false_iff, Bool.or_eq_false_iff, decide_eq_true_eq, decide_eq_false_iff_not, bne_iff_ne, beq_iff_eq, reduceCtorEq, bne_eq_false_iff_eq, beq_eq_false_iff_ne, Bool.not_eq_false', Int.not_le, Int.not_lt, Bool.not_not] at hc); (try (exfalso; first | contradiction | omega)))))
 | ((with_reducible refine And.intro ?_ ?_); focus ((with_reducible show chkR _ _ _ = true); kernel_rfl))
 | ((with_reducible show callN _ _ _ _ _ _ _ _ _ _); first
 | (refine callN_q (k := 9) fnok_9 (list_p n a hn ha) ?_ ?_))
 | ((with_reducible show callGN _ _ _ _ _ _ _ _ _ _); first
 | (refine callGN_q (k := 38) fnok_38 (fun hg => vbox_p _ _ _ _) ?_ ?_))
 | ((with_reducible show callDN _ _ _ _ _ _ _ _ _ _ _ _ _); first
 | (refine callDN_q (k := 40) fnok_40 (force_p n a t hn) ?_ ?_)
 | (refine callDN_q (k := 39) fnok_39 (of_p _ _ _ (last_m ha (fN_le _ _ _)).1) ?_ ?_))
 | ((fail_if_success (with_reducible show AW _ _ _ _)); simp (maxSteps := 2000000) only [go_sem, reduceIte, reduceCtorEq, Nat.reduceAdd, Nat.reduceLT, Nat.reduceLeDiff, Nat.reduceEqDiff, Nat.reduceMul, Nat.reduceSub, Nat.reduceBEq, Tryz.f11, of_28_0, ty_3, zc_63, fo_63, pl_63_0, pl_63_1, of_28_1, zc_65, fo_65, pl_65_0, pl_65_1, ty_65, fnok_9, fnok_38, fnok_40, ty_28, fnok_39, cellI, intI, accF0, accF1, accF2, accF3])
 | ((with_reducible refine hK _ ?_); clear hK K))
  all_goals (unfold ownV ownE ownN; first | (rw [own_f (by assumption)]; exact ⟨rfl, rfl⟩) | (rw [own_t (by assumption)]; simp [hc]))

set_option maxRecDepth 100000 in
set_option maxHeartbeats 4000000 in
theorem concerns_p (a b : Acc) (ha : a.m ≤ 9223372036854775807) (hq : a.q ≤ 9223372036854775807) (hb : b.m ≤ 9223372036854775807) (hr : b.q ≤ 9223372036854775807) : CallsP Tryz.prog 13 [accP a, accP b] (.tup [.one (.lst 1 (conR a b).length (intI fun i => (conR a b).getD i 0)), .one (.g (.int .i64 (conE a b)))]) := by
  refine CallsP_of Tryz.func13 rfl (by rw [Tryz.ntmps13]; simp) ?_
  simp only [Tryz.ntmps13, List.map_cons, List.map_nil, PT.tv, argEnv, Nat.zero_add, Nat.reduceAdd]
  repeat' (first
 | ((with_reducible show AW _ _ _ _); first
 | (with_reducible refine AW_seq_k fun K hK => ?_)
 | (with_reducible refine AW_skip ?_)
 | (with_reducible refine AW_exit ?_)
 | (with_reducible refine AW_ret ?_)
 | (with_reducible refine AW_condI ?_)
 | (with_reducible refine AW_block ?_)
 | ((with_reducible show AW _ (Code.region _ _ _) _ _); first
 | (with_reducible refine AW_regionP 0 [0, 1] ?_)
 | (with_reducible refine AW_regionP 1 [2, 3] ?_)
 | (with_reducible refine AW_regionP 2 [] ?_)
 | (with_reducible refine AW_regionP 3 [2, 3] ?_)))
 | ((first | (with_reducible refine And.intro ?_ ?_) | (with_reducible refine Need.mk ?_)); focus (first | exact True.intro | (with_reducible assumption) | omega | (refine ⟨?_, ?_⟩ <;> omega) | (intro _; first | exact True.intro | (with_reducible assumption) | omega) | (intros; (repeat' (first | exact True.intro | omega | (with_reducible assumption) | (with_reducible refine And.intro ?_ ?_))); done) | (simp (disch := omega) only [Bool.and_eq_true, Bool.or_eq_true, decide_eq_true_eq, bne_iff_ne, ne_eq] at *; first | done | omega | (intros; omega)) | (simp; done) | (simp; omega) | (simp +contextual; done) | (intro h; rw [h]; rfl) | (intros; simp_all; done)))
 | (with_reducible refine retK_n ?_)
 | (with_reducible refine retK_n' ?_)
 | (with_reducible refine retH_n rfl rfl rfl ?_)
 | (with_reducible refine retH_n' rfl rfl rfl ?_)
 | ((with_reducible show condN _ _ _ _ _ _); first
 | ((with_reducible refine condN_t ?_ ?_) <;> (intro hc; (try simp only [Bool.and_eq_true, Bool.or_eq_true, Bool.not_eq_true', Bool.and_eq_false_iff, Bool.or_eq_false_iff, decide_eq_true_eq, decide_eq_false_iff_not, bne_iff_ne, beq_iff_eq, reduceCtorEq, bne_eq_false_iff_eq, beq_eq_false_iff_ne, Bool.not_eq_false', Int.not_le, Int.not_lt, Bool.not_not] at hc); (try (exfalso; first | contradiction | omega)))))
 | ((with_reducible show callN _ _ _ _ _ _ _ _ _ _); first
 | (refine callN_q (k := 44) fnok_44 (cmp_p a b ha hq hb hr) ?_ ?_)
 | (refine callN_q (k := 45) fnok_45 (con_p a b (cmp_bd (by assumption) hq hr).1 (cmp_bd (by assumption) hq hr).2) ?_ ?_))
 | ((fail_if_success (with_reducible show AW _ _ _ _)); simp (maxSteps := 2000000) only [go_sem, reduceIte, reduceCtorEq, Nat.reduceAdd, Nat.reduceLT, Nat.reduceLeDiff, Nat.reduceEqDiff, Nat.reduceMul, Nat.reduceSub, Nat.reduceBEq, Tryz.f13, ty_26, fnok_44, fnok_45, cellI, intI, accF0, accF1, accF2, accF3])
 | ((with_reducible refine hK _ ?_); clear hK K))
  all_goals (simp [conR, conE, hc])

def shM (A B : Acc) (i j : Nat) : Nat → Int
  | 0 => B.sh i 0
  | 1 => mbx (mbE (B.sh i 1) (B.sh i 2) (B.sh i 3) (B.sh i 4) (A.sh j 1) (A.sh j 2) (A.sh j 3) (A.sh j 4)) (max (B.sh i 1) (A.sh j 1))
  | 2 => mbx (mbE (B.sh i 1) (B.sh i 2) (B.sh i 3) (B.sh i 4) (A.sh j 1) (A.sh j 2) (A.sh j 3) (A.sh j 4)) (min (B.sh i 2) (A.sh j 2))
  | 3 => mbx (mbE (B.sh i 1) (B.sh i 2) (B.sh i 3) (B.sh i 4) (A.sh j 1) (A.sh j 2) (A.sh j 3) (A.sh j 4)) (max (B.sh i 3) (A.sh j 3))
  | _ + 4 => mbx (mbE (B.sh i 1) (B.sh i 2) (B.sh i 3) (B.sh i 4) (A.sh j 1) (A.sh j 2) (A.sh j 3) (A.sh j 4)) (min (B.sh i 4) (A.sh j 4))
def clM (A B : Acc) (i j : Nat) : Prop := B.sh i 0 ≠ A.sh j 0 ∧ insB (B.sh i 1) (B.sh i 2) (B.sh i 3) (B.sh i 4) (A.sh j 1) (A.sh j 2) (A.sh j 3) (A.sh j 4) = true
instance (A B : Acc) (i j : Nat) : Decidable (clM A B i j) := by unfold clM; infer_instance
def mvQ (A B : Acc) (i : Nat) (l : List (Nat → Int)) : Nat → List (Nat → Int)
  | 0 => l
  | j + 1 => if clM A B i j then mvQ A B i l j ++ [shM A B i j] else mvQ A B i l j
def mvO (A B : Acc) : Nat → List (Nat → Int)
  | 0 => []
  | i + 1 => mvQ A B i (mvO A B i) A.m
def mvR (A B : Acc) : List (Nat → Int) := if cmpB A B = true then mvO A B B.m else []
theorem mvQ_1 {A B : Acc} {i j : Nat} {l : List (Nat → Int)} (h : B.sh i 0 ≠ A.sh j 0 ∧ insB (B.sh i 1) (B.sh i 2) (B.sh i 3) (B.sh i 4) (A.sh j 1) (A.sh j 2) (A.sh j 3) (A.sh j 4) = true) : mvQ A B i l (j + 1) = mvQ A B i l j ++ [shM A B i j] := by simp only [mvQ]; rw [if_pos (show clM A B i j from h)]
theorem mvQ_2 {A B : Acc} {i j : Nat} {l : List (Nat → Int)} (h : B.sh i 0 = A.sh j 0 ∨ insB (B.sh i 1) (B.sh i 2) (B.sh i 3) (B.sh i 4) (A.sh j 1) (A.sh j 2) (A.sh j 3) (A.sh j 4) = false) : mvQ A B i l (j + 1) = mvQ A B i l j := by
  simp only [mvQ]; rw [if_neg]; rintro ⟨h1, h2⟩
  rcases h with h | h
  · exact h1 h
  · rw [h] at h2; cases h2
theorem mvQ_le (A B : Acc) (i : Nat) (l : List (Nat → Int)) : ∀ j, (mvQ A B i l j).length ≤ l.length + j
  | 0 => Nat.le_refl _
  | j + 1 => by
    have := mvQ_le A B i l j
    simp only [mvQ]; split
    · simp; omega
    · omega
theorem mvO_le {A B : Acc} (h : A.m ≤ 60) : ∀ i, (mvO A B i).length ≤ i * 60
  | 0 => Nat.le_refl _
  | i + 1 => by
    have h1 := mvO_le h (B := B) i
    have h2 := mvQ_le A B i (mvO A B i) A.m
    simp only [mvO]; omega
theorem mvQ_0 (A B : Acc) (i : Nat) (l : List (Nat → Int)) : mvQ A B i l 0 = l := rfl
theorem mvO_0 (A B : Acc) : mvO A B 0 = [] := rfl
def c5 (s : Nat → Int) : List CV := [.iv (.g (.int .i64 (s 0))), .iv (.g (.int .i64 (s 1))), .iv (.g (.int .i64 (s 2))), .iv (.g (.int .i64 (s 3))), .iv (.g (.int .i64 (s 4)))]
def rowS (l : List (Nat → Int)) : List CV := l.flatMap c5
theorem rowS_len (l : List (Nat → Int)) : (rowS l).length = l.length * 5 := by
  induction l with
  | nil => rfl
  | cons s l ih => simp only [rowS, List.flatMap_cons, List.length_append] at ih ⊢; rw [ih]; simp [c5]; omega
theorem rowS_iv (l : List (Nat → Int)) : ∀ c, c ∈ rowS l → isIv c := by
  intro c hc
  simp only [rowS, List.mem_flatMap, c5] at hc
  obtain ⟨s, _, h⟩ := hc
  simp only [List.mem_cons, List.not_mem_nil, or_false] at h
  rcases h with rfl | rfl | rfl | rfl | rfl <;> trivial
theorem rowS_one (l : List (Nat → Int)) (s : Nat → Int) (i : Nat) : List.map (CV.purge i) (rowS l ++ c5 s) = rowS (l ++ [s]) := by
  have e : rowS l ++ c5 s = rowS (l ++ [s]) := by simp [rowS]
  rw [e]; exact purge_iv i (rowS_iv _)
theorem rowS_eqv (l : List (Nat → Int)) : ∀ i o, i < l.length → o < 5 → (civ ((rowS l).getD (i * 5 + o) .any)).eqv (cellI (fun i o => (l.getD i fun _ => 0) o) i o) := by
  induction l with
  | nil => intro i o hi; simp at hi
  | cons s l ih =>
    intro i o hi ho
    cases i with
    | zero =>
      rw [show rowS (s :: l) = c5 s ++ rowS l from rfl]
      simp only [cellI, List.getD]
      rw [List.getElem?_append_left (by simp [c5]; omega)]
      rcases o with _ | _ | _ | _ | _ | o
      · exact IV.eqv_refl _
      · exact IV.eqv_refl _
      · exact IV.eqv_refl _
      · exact IV.eqv_refl _
      · exact IV.eqv_refl _
      · omega
    | succ i =>
      have := ih i o (by simpa using hi) ho
      rw [show rowS (s :: l) = c5 s ++ rowS l from rfl]
      simp only [cellI, List.getD, List.getElem?_cons_succ] at this ⊢
      rw [List.getElem?_append_right (by simp [c5]; omega), show (i + 1) * 5 + o - (c5 s).length = i * 5 + o by simp [c5]; omega]
      exact this

set_option maxRecDepth 100000 in
set_option maxHeartbeats 4000000 in
theorem moved_p (a b : Acc) (ha : a.m ≤ 9223372036854775807) (hq : a.q ≤ 9223372036854775807) (hb : b.m ≤ 9223372036854775807) (hr : b.q ≤ 9223372036854775807) : CallsP Tryz.prog 21 [accP a, accP b] (.tup [.one (.lst 5 (mvR a b).length (cellI fun i o => ((mvR a b).getD i fun _ => 0) o)), .one (.g (.int .i64 (conE a b)))]) := by
  have aS : True := trivial
  refine CallsP_of Tryz.func21 rfl (by rw [Tryz.ntmps21]; simp) ?_
  simp only [Tryz.ntmps21, List.map_cons, List.map_nil, PT.tv, argEnv, Nat.zero_add, Nat.reduceAdd]
  repeat' (first
 | ((with_reducible show AW _ _ _ _); first
 | (with_reducible refine AW_seq_k fun K hK => ?_)
 | (with_reducible refine AW_skip ?_)
 | (with_reducible refine AW_exit ?_)
 | (with_reducible refine AW_ret ?_)
 | (with_reducible refine AW_condI ?_)
 | (with_reducible refine AW_block ?_)
 | ((with_reducible show AW _ (Code.region _ _ _) _ _); first
 | (with_reducible refine AW_regionP 0 [0, 1] ?_)
 | (with_reducible refine AW_regionP 1 [2, 3] ?_)
 | (with_reducible refine AW_regionP 2 [] ?_)
 | (with_reducible refine AW_regionP 3 [2, 3] ?_)
 | (with_reducible refine AW_regionP 4 [2, 3, 6] ?_)
 | (with_reducible refine AW_regionP 5 [2, 6, 18, 19, 20] ?_)
 | (with_reducible refine AW_regionP 6 [2, 6, 18, 19, 20] ?_)
 | (with_reducible refine AW_regionP 7 [2, 6, 8, 18, 19, 20] ?_)
 | (with_reducible refine AW_regionP 8 [2, 6, 8, 18, 19, 20, 25, 26, 27] ?_)
 | (with_reducible refine AW_regionP 9 [2, 6, 8, 18, 19, 20, 25, 26, 27] ?_)
 | (with_reducible refine AW_regionP 10 [2, 6, 8, 10, 18, 19, 20, 25, 26, 27] ?_)
 | (with_reducible refine AW_regionP 11 [2, 6, 8, 10, 18, 19, 20, 25, 26, 27] ?_)
 | (with_reducible refine AW_regionP 12 [2, 6, 8, 11, 18, 19, 20, 25, 26, 27] ?_)
 | (with_reducible refine AW_regionP 13 [2, 6, 8, 18, 19, 20, 25, 26, 27] ?_)
 | (with_reducible refine AW_regionP 14 [2, 6, 18, 19, 20] ?_)
 | (with_reducible refine AW_regionP 15 [6] ?_))
 | ((with_reducible show AW _ (Code.loop _) _ _); first
 | ((with_reducible refine AW_loopQ (c := (Code.seq (Code.region 5 _ _) _)) (ι := Nat) [2, 18, 19] (fun i => [(6, .t (.one (.slc 2 0 (mvO a b i).length 5))), (20, iA .i64 (i : Int))]) (fun i => [(2, rowS (mvO a b i))]) (fun i => i ≤ b.m) (fun i => b.m - i) 0 ?lg5 ?l15 ?l25 ?li5 ?lr5); (case' lg5 => rintro i _); (case' li5 => try (first | trivial | omega | (simp; done) | (simp; omega))); (case' lr5 => rintro i hi KR hR5; have nO := mvO_le nB (B := b) i; simp only [keepE, hupd, hset, lk, if_true, if_false, Nat.reduceEqDiff, reduceIte, List.cons_append, List.nil_append, cellI, intI, accF0, accF1, accF2, accF3, aS, rowS_len, mvQ_0, mvO_0, maxLen]))
 | ((with_reducible refine AW_loopQ (c := (Code.seq (Code.region 8 _ _) _)) (ι := Nat) [2, 8, 18, 19, 20, 25, 26] (fun j => [(6, .t (.one (.slc 2 0 (mvQ a b i (mvO a b i) j).length 5))), (27, iA .i64 (j : Int))]) (fun j => [(2, rowS (mvQ a b i (mvO a b i) j))]) (fun j => j ≤ a.m) (fun j => a.m - j) 0 ?lg8 ?l18 ?l28 ?li8 ?lr8); (case' lg8 => rintro j _); (case' li8 => try (first | trivial | omega | (simp; done) | (simp; omega))); (case' lr8 => rintro j hj KR hR8; have nQ := mvQ_le a b i (mvO a b i) j; clear aS; have aS := fun l q => rowS_one l (shM a b i j) q; simp only [c5, shM] at aS; simp only [keepE, hupd, hset, lk, if_true, if_false, Nat.reduceEqDiff, reduceIte, List.cons_append, List.nil_append, cellI, intI, accF0, accF1, accF2, accF3, aS, rowS_len, mvQ_0, mvO_0, maxLen]))))
 | ((first | (with_reducible refine And.intro ?_ ?_) | (with_reducible refine Need.mk ?_)); focus (first | exact True.intro | (with_reducible assumption) | omega | (refine ⟨?_, ?_⟩ <;> omega) | (intro _; first | exact True.intro | (with_reducible assumption) | omega) | (intros; (repeat' (first | exact True.intro | omega | (with_reducible assumption) | (with_reducible refine And.intro ?_ ?_))); done) | (simp (disch := omega) only [Bool.and_eq_true, Bool.or_eq_true, decide_eq_true_eq, bne_iff_ne, ne_eq] at *; first | done | omega | (intros; omega)) | (simp; done) | (simp; omega) | (simp +contextual; done) | (intro h; rw [h]; rfl) | (intros; simp_all; done)))
 | (with_reducible refine retK_n ?_)
 | (with_reducible refine retK_n' ?_)
 | (with_reducible refine retH_n rfl rfl rfl ?_)
 | (with_reducible refine retH_n' rfl rfl rfl ?_)
 | ((with_reducible show condN _ _ _ _ _ _); first
 | ((with_reducible refine condN_t ?_ ?_) <;> (intro hc; (try simp only [Bool.and_eq_true, Bool.or_eq_true, Bool.not_eq_true', Bool.and_eq_false_iff, Bool.or_eq_false_iff, decide_eq_true_eq, decide_eq_false_iff_not, bne_iff_ne, beq_iff_eq, reduceCtorEq, bne_eq_false_iff_eq, beq_eq_false_iff_ne, Bool.not_eq_false', Int.not_le, Int.not_lt, Bool.not_not] at hc); ((try (have nB := (cmp_bd hc hq hr).1.m; have nB2 := (cmp_bd hc hq hr).2.m)); (try (have e0 : j = a.m := (by omega); subst e0)); (try (have e0 : i = b.m := (by omega); subst e0))); (try (exfalso; first | contradiction | omega)))))
 | ((with_reducible show callN _ _ _ _ _ _ _ _ _ _); first
 | (refine callN_q (k := 44) fnok_44 (cmp_p a b ha hq hb hr) ?_ ?_)
 | (refine callN_q (k := 54) fnok_54 (meetbox_p _ _ _ _ _ _ _ _) ?_ ?_))
 | ((with_reducible show callGN _ _ _ _ _ _ _ _ _ _); first
 | (refine callGN_q (k := 31) fnok_31 (fun hg => inside_p _ _ _ _ _ _ _ _) ?_ ?_))
 | ((with_reducible refine hR5 _ (i + 1) ?_); (try clear hR5 KR))
 | ((with_reducible refine hR8 _ (j + 1) ?_); (try clear hR8 KR))
 | ((with_reducible refine Told.mk ?_); simp only [go_sem, reduceIte, reduceCtorEq, Nat.reduceAdd, Nat.reduceLT, Nat.reduceLeDiff, Nat.reduceEqDiff, Nat.reduceMul, Nat.reduceSub, Nat.reduceBEq, cellI, intI, accF0, accF1, accF2, accF3, aS, rowS_len, mvQ_0, mvO_0, maxLen] <;> (first | exact True.intro | (((try simp (disch := omega) only [seaWrap, Int.natCast_add, Int.cast_ofNat_Int, and_true, true_and, and_self]); (repeat' (first | exact True.intro | omega | rfl | (with_reducible assumption) | (with_reducible refine And.intro ?_ ?_) | (exact all_succ (by assumption) (by assumption)) | ((exact wkC_eq rfl (rowS_iv _))) | ((rw [mvQ_1 hc])) | ((rw [mvQ_2 hc])) | ((simp only [List.length_append, List.length_cons, List.length_nil, Nat.zero_add]; done)))); done)) | (refine Stuck.out ?_)))
 | ((fail_if_success (with_reducible show AW _ _ _ _)); simp (maxSteps := 2000000) only [go_sem, reduceIte, reduceCtorEq, Nat.reduceAdd, Nat.reduceLT, Nat.reduceLeDiff, Nat.reduceEqDiff, Nat.reduceMul, Nat.reduceSub, Nat.reduceBEq, Tryz.f21, ty_26, fnok_44, of_26_2, ty_23, le_23, sl_23, ar_23, ty_67, zc_67, of_67_0, ty_3, of_67_1, ty_65, fnok_31, fnok_54, zc_65, fo_67, pl_67_0, pl_67_1, cellI, intI, accF0, accF1, accF2, accF3, aS, rowS_len, mvQ_0, mvO_0, maxLen])
 | ((fail_if_success (with_reducible show AW _ _ _ _)); simp (disch := omega) only [seaWrap, seaDiv, seaMod])
 | ((with_reducible refine hK _ ?_); clear hK K)
 | (with_reducible apply_assumption -exfalso only [*]))
  all_goals first | (simp [mvR, conE, hc]; done) | (have e : mvR a b = mvO a b b.m := if_pos (by assumption); have e2 : conE a b = 0 := if_pos (by assumption); rw [e, e2]; exact ⟨rowS_iv _, ⟨rfl, fun i o hi ho => rowS_eqv _ i o hi ho⟩, rfl⟩)

end Go.Proofs.YtbckibbgajfihaaGreat
