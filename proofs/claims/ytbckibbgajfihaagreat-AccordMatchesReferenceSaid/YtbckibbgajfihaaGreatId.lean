/- Id: walks on abstract states. -/
import Derived.Test.YtbckibbgajfihaaGreatIc
import Derived.Test.YtbckibbgajfihaaGreatHe
import Derived.Test.YtbckibbgajfihaaGreatHc
set_option linter.unusedVariables false
set_option linter.unusedSimpArgs false
namespace Go.Proofs.YtbckibbgajfihaaGreat
open Go.RowKit Go.Sea
theorem fnok_10 : fnOk Tryz.prog 10 = true := by kernel_rfl
theorem fnok_37 : fnOk Tryz.prog 37 = true := by kernel_rfl
theorem fnok_41 : fnOk Tryz.prog 41 = true := by kernel_rfl
theorem fnok_46 : fnOk Tryz.prog 46 = true := by kernel_rfl
theorem fnok_47 : fnOk Tryz.prog 47 = true := by kernel_rfl
theorem fnok_61 : fnOk Tryz.prog 61 = true := by kernel_rfl

theorem rconL_p (a b : Acc) (ha : Bd a) (hb : Bd b) : CallsP Tryz.prog 47 [accP a, accP b] (.t (.one (.lst 1 (conL a b).length (intI fun i => (conL a b).getD i 0)))) := by
  rw [← conQ_eq ha hb]; exact rcon_p a b ha hb
theorem lastA_s (a : Nat → Acc) (i : Nat) : lastA (i + 1) a = a i := by simp [lastA]
theorem fol_t {a b : Acc} (h1 : valB b = true) (h2 : a.ver < b.ver) (h3 : a.frm ≤ b.frm) (h4 : sgdB a b = true) : folV a b = 0 := by
  unfold folV
  rw [if_neg (by rw [h1]; simp), if_neg (by omega), if_neg (by rw [h4]; simp)]
theorem rlist_f {n : Nat} {a : Nat → Acc} {i : Nat} (hi : (i : Int) < n) (h : (valB (a i) = false ∨ (a i).ver ≤ (lastA i a).ver) ∨ (a i).frm < (lastA i a).frm) : false = listB n a := (decide_eq_false fun g => by
  have h1 := fol_0 (g.2 i (by omega))
  rcases h with (h | h) | h
  · rw [h1.1] at h; cases h
  · omega
  · omega).symm
theorem rlist_s {n : Nat} {a : Nat → Acc} {i : Nat} (hi : (i : Int) < n) (h : sgdB (lastA i a) (a i) = false) : false = listB n a := (decide_eq_false fun g => by
  have h1 := fol_0 (g.2 i (by omega))
  rw [h1.2.2.2] at h; cases h).symm
theorem rlist_n {n : Nat} {a : Nat → Acc} (h : (n : Int) > 20) : false = listB n a := (decide_eq_false fun g => by omega).symm
theorem rlist_t {n : Nat} {a : Nat → Acc} {i : Nat} (h : (n : Int) ≤ 20) (hi : (n : Int) ≤ i) (g : ∀ i', i' < i → folV (lastA i' a) (a i') = 0) : true = listB n a := (decide_eq_true ⟨by omega, fun k hk => g k (by omega)⟩).symm
theorem fN_al {a : Nat → Acc} {t : Int} {k : Nat} (h : ∀ i, i < k → (a i).frm ≤ t) : fN a t k = k := by
  cases k with
  | zero => rfl
  | succ k => simp only [fN]; rw [if_neg (by have := h k (by omega); omega)]
theorem frm_bd {a : Acc} (h : valB a = true) : 0 ≤ a.frm ∧ a.frm ≤ 10000000 := by have := (of_decide_eq_true h).1; omega
theorem at_last {n : Nat} {a : Nat → Acc} (h : listB n a = true) : atA a 10000000 n = lastA n a := by
  rw [at_eq, fN_al fun i hi => (frm_bd (fol_0 ((list_all h).2 i hi)).1).2]
theorem at_p' (n : Nat) (a : Nat → Acc) (t : Int) (hn : n ≤ 9223372036854775807) : CallsP Tryz.prog 43 [.one (.lst 4 n (accF a)), .one (.g (.int .i64 (t)))] (.t (accP (lastA (fN a t n) a))) := by
  rw [← at_eq]; exact at_p n a t hn
theorem at_m (n : Nat) (a : Nat → Acc) (hn : n ≤ 9223372036854775807) (h : listB n a = true) : CallsP Tryz.prog 43 [.one (.lst 4 n (accF a)), .one (.g (.int .i64 10000000))] (.t (accP (lastA n a))) := by
  rw [← at_last h]; exact at_p n a _ hn
theorem rown_t {n : Nat} {a : Nat → Acc} {x y t : Int} (h : ownB n a x y t = true) : ownV n a x y t = ofV (lastA (fN a t n) a) x y ∧ ownE n a x y t = if ofV (lastA (fN a t n) a) x y = 0 then 4 else 0 := by
  unfold ownV ownE ownN; rw [if_pos h, if_pos h]; exact ⟨rfl, rfl⟩
theorem rown_f {n : Nat} {a : Nat → Acc} {x y t : Int} (h : ownB n a x y t = false) : ownV n a x y t = 0 ∧ ownE n a x y t = 1 := by
  unfold ownV ownE; rw [h]; exact ⟨rfl, rfl⟩
theorem nx_1 {n : Nat} {a : Nat → Acc} {b : Acc} (h : listB n a = false ∨ valB b = false) : nextE n a b = 1 ∧ nextN n a b = 0 := by
  have e : nextE n a b = 1 := by unfold nextE; rw [if_neg]; rintro ⟨h1, h2⟩; rcases h with h | h <;> simp_all
  exact ⟨e, by unfold nextN; rw [e]; rfl⟩
theorem nx_2 {n : Nat} {a : Nat → Acc} {b : Acc} (h : listB n a = true ∧ valB b = true) (hn : (n : Int) ≥ 20) : nextE n a b = 2 ∧ nextN n a b = 0 := by
  have e : nextE n a b = 2 := by unfold nextE; rw [if_pos h, if_pos (by omega)]
  exact ⟨e, by unfold nextN; rw [e]; rfl⟩
theorem nx_3 {n : Nat} {a : Nat → Acc} {b : Acc} (h : listB n a = true ∧ valB b = true) (hn : (n : Int) < 20) (g : b.ver ≤ (lastA n a).ver ∨ b.frm < (lastA n a).frm) : nextE n a b = 13 ∧ nextN n a b = 0 := by
  have e : nextE n a b = 13 := by unfold nextE folV; rw [if_pos h, if_neg (by omega), if_neg (by rw [h.2]; simp), if_pos g]
  exact ⟨e, by unfold nextN; rw [e]; rfl⟩
theorem nx_4 {n : Nat} {a : Nat → Acc} {b : Acc} (h : listB n a = true ∧ valB b = true) (hn : (n : Int) < 20) (g : (lastA n a).ver < b.ver ∧ (lastA n a).frm ≤ b.frm) (s : sgdB (lastA n a) b = false) : nextE n a b = 21 ∧ nextN n a b = 0 := by
  have e : nextE n a b = 21 := by unfold nextE folV; rw [if_pos h, if_neg (by omega), if_neg (by rw [h.2]; simp), if_neg (by omega), if_pos s]
  exact ⟨e, by unfold nextN; rw [e]; rfl⟩
theorem nx_5 {n : Nat} {a : Nat → Acc} {b : Acc} (h : listB n a = true ∧ valB b = true) (hn : (n : Int) < 20) (g : (lastA n a).ver < b.ver ∧ (lastA n a).frm ≤ b.frm) (s : sgdB (lastA n a) b = true) : nextE n a b = 0 ∧ nextN n a b = n + 1 := by
  have e : nextE n a b = 0 := by unfold nextE; rw [if_pos h, if_neg (by omega)]; exact fol_t h.2 g.1 g.2 s
  exact ⟨e, by unfold nextN; rw [if_pos e]⟩
theorem accf_pur (a : Nat → Acc) (E n i : Nat) : List.map (CV.purge i) (Go.Sea.lstC (accF a) E n 0) = Go.Sea.lstC (accF a) E n 0 := purge_iv i (lstC_iv _ _ _ _)
theorem lst_bd {n : Nat} {a : Nat → Acc} (h : listB n a = true) (ha : ∀ i, i < n → (a i).m ≤ 9223372036854775807 ∧ (a i).q ≤ 9223372036854775807) {k : Nat} (hk : k ≤ n) : Bd (lastA k a) := bd_last ha hk fun i hi => (list_all h).2 i (by omega)

set_option maxRecDepth 100000 in
set_option maxHeartbeats 4000000 in
theorem ragreed_p (a b : Acc) (ha : Bd a) (hb : Bd b) : CallsP Tryz.prog 37 [accP a, accP b] (.t (.one (.g (.bool (sgdB a b))))) := by
  have hcl := con_len a b
  refine CallsP_of Tryz.func37 rfl (by rw [Tryz.ntmps37]; simp) ?_
  simp only [Tryz.ntmps37, List.map_cons, List.map_nil, PT.tv, argEnv, Nat.zero_add, Nat.reduceAdd]
  repeat' (first
 | ((with_reducible show AW _ _ _ _); first
 | (with_reducible refine AW_seq_k fun K hK => ?_)
 | (with_reducible refine AW_skip ?_)
 | (with_reducible refine AW_exit ?_)
 | (with_reducible refine AW_ret ?_)
 | (with_reducible refine AW_condI ?_)
 | (with_reducible refine AW_block ?_)
 | ((with_reducible show AW _ (Code.region _ _ _) _ _); first
 | (with_reducible refine AW_regionP 0 [0, 1] ?_)
 | (with_reducible refine AW_regionP 1 [2, 3] ?_)
 | (with_reducible refine AW_regionP 2 [3, 5] ?_)
 | (with_reducible refine AW_regionP 3 [3, 5, 6] ?_)
 | (with_reducible refine AW_regionP 4 [3, 5, 6] ?_)
 | ((with_reducible refine AW_prune (c := Code.region 5 _ true) [3, 5, 6] ?_); (with_reducible refine AW_regionD ?_ ?_ ?_ ?_); (focus kernel_rfl); (focus kernel_rfl); (focus kernel_rfl))
 | (with_reducible refine AW_regionP 6 [3, 5, 6, 7] ?_)
 | (with_reducible refine AW_regionP 7 [] ?_)
 | (with_reducible refine AW_regionP 8 [] ?_))
 | ((with_reducible show AW _ (Code.loop _) _ _); first
 | ((with_reducible refine AW_loopQ (c := (Code.seq (Code.seq (Code.region 3 _ _) _) _)) (ι := Nat) [3, 5] (fun k => [(6, iA .i64 (k : Int))]) (fun k => []) (fun k => k ≤ (conL a b).length ∧ (∀ i, i < k → hasL b.q b.sg ((conL a b).getD i 0) = true)) (fun k => (conL a b).length - k) 0 ?lg3 ?l13 ?l23 ?li3 ?lr3); (case' lg3 => rintro k _); (case' li3 => try (exact ⟨Nat.zero_le _, fun i hi => absurd hi (Nat.not_lt_zero _)⟩)); (case' lr3 => rintro k ⟨h1, h2⟩ KR hR3; skip; simp only [keepE, hupd, hset, lk, if_true, if_false, Nat.reduceEqDiff, reduceIte, List.cons_append, List.nil_append, cellI, intI, accF0, accF1, accF2, accF3]))))
 | ((first | (with_reducible refine And.intro ?_ ?_) | (with_reducible refine Need.mk ?_)); focus (first | exact True.intro | (with_reducible assumption) | omega | (refine ⟨?_, ?_⟩ <;> omega) | (intro _; first | exact True.intro | (with_reducible assumption) | omega) | (intros; (repeat' (first | exact True.intro | omega | (with_reducible assumption) | (with_reducible refine And.intro ?_ ?_))); done) | (simp (disch := omega) only [Bool.and_eq_true, Bool.or_eq_true, decide_eq_true_eq, bne_iff_ne, ne_eq] at *; first | done | omega | (intros; omega)) | (simp; done) | (simp; omega) | (simp +contextual; done) | (intro h; rw [h]; rfl) | (intro hq; have hq2 := hq; simp only [Bool.and_eq_true, Bool.or_eq_true, Bool.not_eq_true', Bool.not_not, Bool.not_eq_false', decide_eq_true_eq, decide_eq_false_iff_not] at hq2; (repeat' (first | exact hq | (with_reducible refine And.intro ?_ ?_) | omega | (simp_all; done))); done) | (intros; simp_all; done)))
 | (with_reducible refine retK_n ?_)
 | (with_reducible refine retK_n' ?_)
 | (with_reducible refine retH_n rfl rfl rfl ?_)
 | (with_reducible refine retH_n' rfl rfl rfl ?_)
 | ((with_reducible show condN _ _ _ _ _ _); first
 | ((with_reducible refine condN_t ?_ ?_) <;> (intro hc; (try simp only [Bool.and_eq_true, Bool.or_eq_true, Bool.not_eq_true', Bool.and_eq_false_iff, Bool.or_eq_false_iff, decide_eq_true_eq, decide_eq_false_iff_not, bne_iff_ne, beq_iff_eq, reduceCtorEq, bne_eq_false_iff_eq, beq_eq_false_iff_ne, Bool.not_eq_false', Int.not_le, Int.not_lt, Bool.not_not] at hc); (skip); (try (exfalso; first | contradiction | omega)))))
 | ((with_reducible refine And.intro ?_ ?_); focus ((with_reducible show chkR _ _ _ = true); kernel_rfl))
 | ((with_reducible show callN _ _ _ _ _ _ _ _ _ _); first
 | (refine callN_q (k := 47) fnok_47 (rconL_p a b ha hb) ?_ ?_))
 | ((with_reducible show callDN _ _ _ _ _ _ _ _ _ _ _ _ _); first
 | (refine callDN_q (k := 61) fnok_61 (rhasl_p _ _ _ hb.q) ?_ ?_))
 | ((with_reducible refine hR3 _ (k + 1) ?_); (try clear hR3 KR))
 | ((with_reducible refine Told.mk ?_); simp only [go_sem, reduceIte, reduceCtorEq, Nat.reduceAdd, Nat.reduceLT, Nat.reduceLeDiff, Nat.reduceEqDiff, Nat.reduceMul, Nat.reduceSub, Nat.reduceBEq, cellI, intI, accF0, accF1, accF2, accF3] <;> (first | exact True.intro | (((try simp (disch := omega) only [seaWrap, Int.natCast_add, Int.cast_ofNat_Int, and_true, true_and, and_self]); (repeat' (first | exact True.intro | omega | (with_reducible assumption) | (with_reducible refine And.intro ?_ ?_) | (exact all_succ (by assumption) (by assumption)))); done)) | (refine Stuck.out ?_)))
 | ((fail_if_success (with_reducible show AW _ _ _ _)); simp (maxSteps := 2000000) only [go_sem, reduceIte, reduceCtorEq, Nat.reduceAdd, Nat.reduceLT, Nat.reduceLeDiff, Nat.reduceEqDiff, Nat.reduceMul, Nat.reduceSub, Nat.reduceBEq, Tryz.f37, ty_26, fnok_47, le_24, of_26_3, ty_24, sl_24, ar_24, ty_3, fnok_61, cellI, intI, accF0, accF1, accF2, accF3])
 | ((fail_if_success (with_reducible show AW _ _ _ _)); simp (disch := omega) only [seaWrap, seaDiv, seaMod])
 | ((with_reducible refine hK _ ?_); clear hK K)
 | (with_reducible apply_assumption -exfalso only [*]))
  all_goals first | (rw [sgd_f (by assumption) (by assumption)]; done) | (rw [sgd_t (by assumption) (by assumption)]; done) | skip

set_option maxRecDepth 100000 in
set_option maxHeartbeats 4000000 in
theorem rlist_p (n : Nat) (a : Nat → Acc) (hn : n ≤ 9223372036854775807) (ha : ∀ i, i < n → (a i).m ≤ 9223372036854775807 ∧ (a i).q ≤ 9223372036854775807) : CallsP Tryz.prog 10 [.one (.lst 4 n (accF a))] (.t (.one (.g (.bool (listB n a))))) := by
  refine CallsP_of Tryz.func10 rfl (by rw [Tryz.ntmps10]; simp) ?_
  simp only [Tryz.ntmps10, List.map_cons, List.map_nil, PT.tv, argEnv, Nat.zero_add, Nat.reduceAdd]
  repeat' (first
 | ((with_reducible show AW _ _ _ _); first
 | (with_reducible refine AW_seq_k fun K hK => ?_)
 | (with_reducible refine AW_skip ?_)
 | (with_reducible refine AW_exit ?_)
 | (with_reducible refine AW_ret ?_)
 | (with_reducible refine AW_condI ?_)
 | (with_reducible refine AW_block ?_)
 | ((with_reducible show AW _ (Code.region _ _ _) _ _); first
 | (with_reducible refine AW_regionP 0 [0] ?_)
 | (with_reducible refine AW_regionP 1 [0] ?_)
 | (with_reducible refine AW_regionP 2 [] ?_)
 | (with_reducible refine AW_regionP 3 [0] ?_)
 | (with_reducible refine AW_regionP 4 [0, 3] ?_)
 | (with_reducible refine AW_regionP 5 [0, 3, 4] ?_)
 | (with_reducible refine AW_regionP 6 [0, 3, 4] ?_)
 | (with_reducible refine AW_regionP 7 [0, 3, 4] ?_)
 | ((with_reducible refine AW_prune (c := Code.region 8 _ true) [0, 3, 4, 5] ?_); (with_reducible refine AW_regionD ?_ ?_ ?_ ?_); (focus kernel_rfl); (focus kernel_rfl); (focus kernel_rfl))
 | (with_reducible refine AW_regionP 9 [] ?_)
 | ((with_reducible refine AW_prune (c := Code.region 10 _ true) [0, 3, 4] ?_); (with_reducible refine AW_regionD ?_ ?_ ?_ ?_); (focus kernel_rfl); (focus kernel_rfl); (focus kernel_rfl))
 | (with_reducible refine AW_regionP 11 [0, 3, 4, 5] ?_)
 | (with_reducible refine AW_regionP 12 [] ?_)
 | (with_reducible refine AW_regionP 13 [0, 3, 4] ?_)
 | (with_reducible refine AW_regionP 14 [] ?_))
 | ((with_reducible show AW _ (Code.loop _) _ _); first
 | ((with_reducible refine AW_loopQ (c := (Code.seq (Code.seq (Code.region 5 _ _) _) _)) (ι := Nat) [0, 3] (fun i => [(4, iA .i64 (i : Int))]) (fun i => [(0, accC (lastA i a))]) (fun i => i ≤ n ∧ (∀ i', i' < i → folV (lastA i' a) (a i') = 0)) (fun i => n - i) 0 ?lg5 ?l15 ?l25 ?li5 ?lr5); (case' lg5 => rintro i _); (case' li5 => try (exact ⟨Nat.zero_le _, fun i hi => absurd hi (Nat.not_lt_zero _)⟩)); (case' lr5 => rintro i ⟨h1, h2⟩ KR hR5; skip; simp only [keepE, hupd, hset, lk, if_true, if_false, Nat.reduceEqDiff, reduceIte, List.cons_append, List.nil_append, cellI, intI, accF0, accF1, accF2, accF3]))))
 | ((first | (with_reducible refine And.intro ?_ ?_) | (with_reducible refine Need.mk ?_)); focus (first | exact True.intro | (with_reducible assumption) | omega | (refine ⟨?_, ?_⟩ <;> omega) | (intro _; first | exact True.intro | (with_reducible assumption) | omega) | (intros; (repeat' (first | exact True.intro | omega | (with_reducible assumption) | (with_reducible refine And.intro ?_ ?_))); done) | (simp (disch := omega) only [Bool.and_eq_true, Bool.or_eq_true, decide_eq_true_eq, bne_iff_ne, ne_eq] at *; first | done | omega | (intros; omega)) | (simp; done) | (simp; omega) | (simp +contextual; done) | (intro h; rw [h]; rfl) | (intro hq; have hq2 := hq; simp only [Bool.and_eq_true, Bool.or_eq_true, Bool.not_eq_true', Bool.not_not, Bool.not_eq_false', decide_eq_true_eq, decide_eq_false_iff_not] at hq2; (repeat' (first | exact hq | (with_reducible refine And.intro ?_ ?_) | omega | (simp_all; done))); done) | (intros; simp_all; done)))
 | (with_reducible refine retK_n ?_)
 | (with_reducible refine retK_n' ?_)
 | (with_reducible refine retH_n rfl rfl rfl ?_)
 | (with_reducible refine retH_n' rfl rfl rfl ?_)
 | ((with_reducible show condN _ _ _ _ _ _); first
 | ((with_reducible refine condN_t ?_ ?_) <;> (intro hc; (try simp only [Bool.and_eq_true, Bool.or_eq_true, Bool.not_eq_true', Bool.and_eq_false_iff, Bool.or_eq_false_iff, decide_eq_true_eq, decide_eq_false_iff_not, bne_iff_ne, beq_iff_eq, reduceCtorEq, bne_eq_false_iff_eq, beq_eq_false_iff_ne, Bool.not_eq_false', Int.not_le, Int.not_lt, Bool.not_not] at hc); ((try (have hv : valB (a i) = true := hc.1.1))); (try (exfalso; first | contradiction | omega)))))
 | ((with_reducible refine And.intro ?_ ?_); focus ((with_reducible show chkR _ _ _ = true); kernel_rfl))
 | ((with_reducible show callN _ _ _ _ _ _ _ _ _ _); first
 | (refine callN_q (k := 8) fnok_8 (rvalid_p (a i) (ha i (by omega)).1 (ha i (by omega)).2) ?_ ?_))
 | ((with_reducible show callDN _ _ _ _ _ _ _ _ _ _ _ _ _); first
 | (refine callDN_q (k := 37) fnok_37 (ragreed_p (lastA i a) (a i) (bd_last ha (by omega) h2) (bd_val hv (ha i (by omega)).2)) ?_ ?_))
 | ((with_reducible refine hR5 _ (i + 1) ?_); (try clear hR5 KR))
 | ((with_reducible refine Told.mk ?_); simp only [go_sem, reduceIte, reduceCtorEq, Nat.reduceAdd, Nat.reduceLT, Nat.reduceLeDiff, Nat.reduceEqDiff, Nat.reduceMul, Nat.reduceSub, Nat.reduceBEq, cellI, intI, accF0, accF1, accF2, accF3] <;> (first | exact True.intro | (((try simp (disch := omega) only [seaWrap, Int.natCast_add, Int.cast_ofNat_Int, and_true, true_and, and_self]); (repeat' (first | exact True.intro | omega | rfl | (with_reducible assumption) | (with_reducible refine And.intro ?_ ?_) | (exact all_succ (by assumption) (by assumption)) | ((rw [lastA_s])) | ((exact all_succ (by assumption) (fol_t hv (by omega) (by omega) (by assumption)))) | ((exact Or.inl rfl)) | ((exact Or.inr ⟨rfl, fun _ _ _ _ => rfl⟩)))); done)) | (first | ((try simp (disch := omega) only [seaWrap, Int.natCast_add, Int.cast_ofNat_Int, and_true, true_and, and_self]); (repeat' (first | exact True.intro | omega | rfl | (with_reducible assumption) | (with_reducible refine And.intro ?_ ?_) | (exact all_succ (by assumption) (by assumption)) )); done) | (simp [lastA, acc0]; done) | (simp [lastA, acc0, accC, wkC, wkV, nilC]; done)) | (refine Stuck.out ?_)))
 | ((fail_if_success (with_reducible show AW _ _ _ _)); simp (maxSteps := 2000000) only [go_sem, reduceIte, reduceCtorEq, Nat.reduceAdd, Nat.reduceLT, Nat.reduceLeDiff, Nat.reduceEqDiff, Nat.reduceMul, Nat.reduceSub, Nat.reduceBEq, Tryz.f10, le_22, zc_26, sl_22, ar_22, ty_26, fnok_8, of_26_0, ty_3, of_26_1, fnok_37, cellI, intI, accF0, accF1, accF2, accF3])
 | ((fail_if_success (with_reducible show AW _ _ _ _)); simp (disch := omega) only [seaWrap, seaDiv, seaMod])
 | ((with_reducible refine hK _ ?_); clear hK K)
 | (with_reducible apply_assumption -exfalso only [*]))
  all_goals first | exact rlist_n (by assumption) | exact rlist_f (by assumption) hc | exact rlist_s (by assumption) hc | exact rlist_t (by assumption) (by assumption) (by assumption) | skip

set_option maxRecDepth 100000 in
set_option maxHeartbeats 4000000 in
theorem rowner_p (n : Nat) (a : Nat → Acc) (x y t : Int) (hn : n ≤ 9223372036854775807) (ha : ∀ i, i < n → (a i).m ≤ 9223372036854775807 ∧ (a i).q ≤ 9223372036854775807) : CallsP Tryz.prog 12 [.one (.lst 4 n (accF a)), .agg [.g (.int .i64 (x)), .g (.int .i64 (y))], .one (.g (.int .i64 (t)))] (.tup [.one (.g (.int .i64 (ownV n a x y t))), .one (.g (.int .i64 (ownE n a x y t)))]) := by
  refine CallsP_of Tryz.func12 rfl (by rw [Tryz.ntmps12]; simp) ?_
  simp only [Tryz.ntmps12, List.map_cons, List.map_nil, PT.tv, argEnv, Nat.zero_add, Nat.reduceAdd]
  repeat' (first
 | ((with_reducible show AW _ _ _ _); first
 | (with_reducible refine AW_seq_k fun K hK => ?_)
 | (with_reducible refine AW_skip ?_)
 | (with_reducible refine AW_exit ?_)
 | (with_reducible refine AW_ret ?_)
 | (with_reducible refine AW_condI ?_)
 | (with_reducible refine AW_block ?_)
 | ((with_reducible show AW _ (Code.region _ _ _) _ _); first
 | (with_reducible refine AW_regionP 0 [0, 1, 2] ?_)
 | (with_reducible refine AW_regionP 1 [0, 2, 4] ?_)
 | (with_reducible refine AW_regionP 2 [0, 2, 4, 8] ?_)
 | (with_reducible refine AW_regionP 3 [0, 2, 4, 8, 9] ?_)
 | (with_reducible refine AW_regionP 4 [] ?_)
 | ((with_reducible refine AW_prune (c := Code.region 5 _ true) [0, 2, 4] ?_); (with_reducible refine AW_regionD ?_ ?_ ?_ ?_); (focus kernel_rfl); (focus kernel_rfl); (focus kernel_rfl))
 | (with_reducible refine AW_regionP 6 [10] ?_)
 | (with_reducible refine AW_regionP 7 [] ?_)
 | (with_reducible refine AW_regionP 8 [10] ?_)))
 | ((first | (with_reducible refine And.intro ?_ ?_) | (with_reducible refine Need.mk ?_)); focus (first | exact True.intro | (with_reducible assumption) | omega | (refine ⟨?_, ?_⟩ <;> omega) | (intro _; first | exact True.intro | (with_reducible assumption) | omega) | (intros; (repeat' (first | exact True.intro | omega | (with_reducible assumption) | (with_reducible refine And.intro ?_ ?_))); done) | (simp (disch := omega) only [Bool.and_eq_true, Bool.or_eq_true, decide_eq_true_eq, bne_iff_ne, ne_eq] at *; first | done | omega | (intros; omega)) | (simp; done) | (simp; omega) | (simp +contextual; done) | (intro h; rw [h]; rfl) | (intro hq; have hq2 := hq; simp only [Bool.and_eq_true, Bool.or_eq_true, Bool.not_eq_true', Bool.not_not, Bool.not_eq_false', decide_eq_true_eq, decide_eq_false_iff_not] at hq2; (repeat' (first | exact hq | (with_reducible refine And.intro ?_ ?_) | omega | (simp_all; done))); done) | (intros; simp_all; done)))
 | (with_reducible refine retK_n ?_)
 | (with_reducible refine retK_n' ?_)
 | (with_reducible refine retH_n rfl rfl rfl ?_)
 | (with_reducible refine retH_n' rfl rfl rfl ?_)
 | ((with_reducible show condN _ _ _ _ _ _); first
 | ((with_reducible refine condN_t ?_ ?_) <;> (intro hc; (try simp only [Bool.and_eq_true, Bool.or_eq_true, Bool.not_eq_true', Bool.and_eq_false_iff, Bool.or_eq_false_iff, decide_eq_true_eq, decide_eq_false_iff_not, bne_iff_ne, beq_iff_eq, reduceCtorEq, bne_eq_false_iff_eq, beq_eq_false_iff_ne, Bool.not_eq_false', Int.not_le, Int.not_lt, Bool.not_not] at hc); (skip); (try (exfalso; first | contradiction | omega)))))
 | ((with_reducible refine And.intro ?_ ?_); focus ((with_reducible show chkR _ _ _ = true); kernel_rfl))
 | ((with_reducible show callN _ _ _ _ _ _ _ _ _ _); first
 | (refine callN_q (k := 10) fnok_10 (rlist_p n a hn ha) ?_ ?_)
 | (refine callN_q (k := 41) fnok_41 (rplace_p _ _) ?_ ?_))
 | ((with_reducible show callDN _ _ _ _ _ _ _ _ _ _ _ _ _); first
 | (refine callDN_q (k := 43) fnok_43 (at_p' n a t hn) ?_ ?_)
 | (refine callDN_q (k := 42) fnok_42 (rof_p _ _ _ (last_m ha (fN_le _ _ _)).1) ?_ ?_))
 | ((fail_if_success (with_reducible show AW _ _ _ _)); simp (maxSteps := 2000000) only [go_sem, reduceIte, reduceCtorEq, Nat.reduceAdd, Nat.reduceLT, Nat.reduceLeDiff, Nat.reduceEqDiff, Nat.reduceMul, Nat.reduceSub, Nat.reduceBEq, Tryz.f12, fnok_10, ty_28, fnok_41, fnok_43, fnok_42, cellI, intI, accF0, accF1, accF2, accF3])
 | ((with_reducible refine hK _ ?_); clear hK K))
  all_goals first | (have e := rown_f (own_f hc); rw [e.1, e.2]; exact ⟨rfl, rfl⟩) | (have e := rown_t (own_t (by assumption)); rw [e.1, e.2]; simp [hc]; done) | skip

set_option maxRecDepth 100000 in
set_option maxHeartbeats 4000000 in
theorem rconcerns_p (a b : Acc) (ha : a.m ≤ 9223372036854775807) (hq : a.q ≤ 9223372036854775807) (hb : b.m ≤ 9223372036854775807) (hr : b.q ≤ 9223372036854775807) : CallsP Tryz.prog 14 [accP a, accP b] (.tup [.one (.lst 1 (conR a b).length (intI fun i => (conR a b).getD i 0)), .one (.g (.int .i64 (conE a b)))]) := by
  refine CallsP_of Tryz.func14 rfl (by rw [Tryz.ntmps14]; simp) ?_
  simp only [Tryz.ntmps14, List.map_cons, List.map_nil, PT.tv, argEnv, Nat.zero_add, Nat.reduceAdd]
  repeat' (first
 | ((with_reducible show AW _ _ _ _); first
 | (with_reducible refine AW_seq_k fun K hK => ?_)
 | (with_reducible refine AW_skip ?_)
 | (with_reducible refine AW_exit ?_)
 | (with_reducible refine AW_ret ?_)
 | (with_reducible refine AW_condI ?_)
 | (with_reducible refine AW_block ?_)
 | ((with_reducible show AW _ (Code.region _ _ _) _ _); first
 | (with_reducible refine AW_regionP 0 [0, 1] ?_)
 | (with_reducible refine AW_regionP 1 [2, 3] ?_)
 | (with_reducible refine AW_regionP 2 [2, 3, 6] ?_)
 | (with_reducible refine AW_regionP 3 [] ?_)
 | (with_reducible refine AW_regionP 4 [2, 3] ?_)))
 | ((first | (with_reducible refine And.intro ?_ ?_) | (with_reducible refine Need.mk ?_)); focus (first | exact True.intro | (with_reducible assumption) | omega | (refine ⟨?_, ?_⟩ <;> omega) | (intro _; first | exact True.intro | (with_reducible assumption) | omega) | (intros; (repeat' (first | exact True.intro | omega | (with_reducible assumption) | (with_reducible refine And.intro ?_ ?_))); done) | (simp (disch := omega) only [Bool.and_eq_true, Bool.or_eq_true, decide_eq_true_eq, bne_iff_ne, ne_eq] at *; first | done | omega | (intros; omega)) | (simp; done) | (simp; omega) | (simp +contextual; done) | (intro h; rw [h]; rfl) | (intro hq; have hq2 := hq; simp only [Bool.and_eq_true, Bool.or_eq_true, Bool.not_eq_true', Bool.not_not, Bool.not_eq_false', decide_eq_true_eq, decide_eq_false_iff_not] at hq2; (repeat' (first | exact hq | (with_reducible refine And.intro ?_ ?_) | omega | (simp_all; done))); done) | (intros; simp_all; done)))
 | (with_reducible refine retK_n ?_)
 | (with_reducible refine retK_n' ?_)
 | (with_reducible refine retH_n rfl rfl rfl ?_)
 | (with_reducible refine retH_n' rfl rfl rfl ?_)
 | ((with_reducible show condN _ _ _ _ _ _); first
 | ((with_reducible refine condN_t ?_ ?_) <;> (intro hc; (try simp only [Bool.and_eq_true, Bool.or_eq_true, Bool.not_eq_true', Bool.and_eq_false_iff, Bool.or_eq_false_iff, decide_eq_true_eq, decide_eq_false_iff_not, bne_iff_ne, beq_iff_eq, reduceCtorEq, bne_eq_false_iff_eq, beq_eq_false_iff_ne, Bool.not_eq_false', Int.not_le, Int.not_lt, Bool.not_not] at hc); (skip); (try (exfalso; first | contradiction | omega)))))
 | ((with_reducible show callN _ _ _ _ _ _ _ _ _ _); first
 | (refine callN_q (k := 46) fnok_46 (rtwo_p a b ha hq hb hr) ?_ ?_)
 | (refine callN_q (k := 47) fnok_47 (rconL_p a b (cmp_bd hc hq hr).1 (cmp_bd hc hq hr).2) ?_ ?_))
 | ((fail_if_success (with_reducible show AW _ _ _ _)); simp (maxSteps := 2000000) only [go_sem, reduceIte, reduceCtorEq, Nat.reduceAdd, Nat.reduceLT, Nat.reduceLeDiff, Nat.reduceEqDiff, Nat.reduceMul, Nat.reduceSub, Nat.reduceBEq, Tryz.f14, ty_26, fnok_46, fnok_47, cellI, intI, accF0, accF1, accF2, accF3])
 | ((with_reducible refine hK _ ?_); clear hK K))
  all_goals first | (simp [conR, conE, hc]; done) | (simp [conR, conE, *]; done) | skip

set_option maxRecDepth 100000 in
set_option maxHeartbeats 4000000 in
theorem rnext_a (n : Nat) (a : Nat → Acc) (b : Acc) (hm : b.m ≤ 9223372036854775807) (hq : b.q ≤ 9223372036854775807) (hn : n ≤ 9223372036854775807) (ha : ∀ i, i < n → (a i).m ≤ 9223372036854775807 ∧ (a i).q ≤ 9223372036854775807) : CallsP Tryz.prog 17 [.one (.lst 4 n (accF a)), accP b] (.tup [.one (.lst 4 (nextN n a b) (accF (pushA n a b))), .one (.g (.int .i64 (nextE n a b)))]) := by
  refine CallsP_of Tryz.func17 rfl (by rw [Tryz.ntmps17]; simp) ?_
  simp only [Tryz.ntmps17, List.map_cons, List.map_nil, PT.tv, argEnv, Nat.zero_add, Nat.reduceAdd]
  repeat' (first
 | ((with_reducible show AW _ _ _ _); first
 | (with_reducible refine AW_seq_k fun K hK => ?_)
 | (with_reducible refine AW_skip ?_)
 | (with_reducible refine AW_exit ?_)
 | (with_reducible refine AW_ret ?_)
 | (with_reducible refine AW_condI ?_)
 | (with_reducible refine AW_block ?_)
 | ((with_reducible show AW _ (Code.region _ _ _) _ _); first
 | (with_reducible refine AW_regionP 0 [0, 1] ?_)
 | (with_reducible refine AW_regionP 1 [0, 3] ?_)
 | (with_reducible refine AW_regionP 2 [0, 3, 6] ?_)
 | (with_reducible refine AW_regionP 3 [0, 3, 6, 7] ?_)
 | (with_reducible refine AW_regionP 4 [] ?_)
 | (with_reducible refine AW_regionP 5 [0, 3] ?_)
 | (with_reducible refine AW_regionP 6 [] ?_)
 | (with_reducible refine AW_regionP 7 [0, 3] ?_)
 | (with_reducible refine AW_regionP 8 [0, 3, 8] ?_)
 | (with_reducible refine AW_regionP 9 [] ?_)
 | (with_reducible refine AW_regionP 10 [0, 3, 8] ?_)
 | (with_reducible refine AW_regionP 11 [0, 3, 9] ?_)
 | (with_reducible refine AW_regionP 12 [] ?_)
 | ((with_reducible refine AW_prune (c := Code.region 13 _ true) [0, 3] ?_); (with_reducible refine AW_regionA (.alt 0 (.alt 1 (.alt 2 (.alt 3 (.alt 4 (.alt 5 (.alt 6 (.alt 7 (.fin) (.non)) (.non)) (.non)) (.non)) (.non)) (.alt 3 (.alt 2 (.alt 4 (.alt 5 (.alt 6 (.alt 7 (.fin) (.non)) (.non)) (.non)) (.non)) (.alt 4 (.alt 2 (.alt 5 (.alt 6 (.alt 7 (.fin) (.non)) (.non)) (.non)) (.non)) (.non))) (.non))) (.alt 3 (.alt 1 (.alt 2 (.alt 4 (.alt 5 (.alt 6 (.alt 7 (.fin) (.non)) (.non)) (.non)) (.non)) (.alt 4 (.alt 2 (.alt 5 (.alt 6 (.alt 7 (.fin) (.non)) (.non)) (.non)) (.non)) (.non))) (.alt 4 (.alt 1 (.alt 2 (.alt 5 (.alt 6 (.alt 7 (.fin) (.non)) (.non)) (.non)) (.non)) (.non)) (.non))) (.non))) (.alt 1 (.alt 0 (.alt 2 (.alt 3 (.alt 4 (.alt 5 (.alt 6 (.alt 7 (.fin) (.non)) (.non)) (.non)) (.non)) (.non)) (.alt 3 (.alt 2 (.alt 4 (.alt 5 (.alt 6 (.alt 7 (.fin) (.non)) (.non)) (.non)) (.non)) (.alt 4 (.alt 2 (.alt 5 (.alt 6 (.alt 7 (.fin) (.non)) (.non)) (.non)) (.non)) (.non))) (.non))) (.alt 3 (.alt 0 (.alt 2 (.alt 4 (.alt 5 (.alt 6 (.alt 7 (.fin) (.non)) (.non)) (.non)) (.non)) (.alt 4 (.alt 2 (.alt 5 (.alt 6 (.alt 7 (.fin) (.non)) (.non)) (.non)) (.non)) (.non))) (.alt 4 (.alt 0 (.alt 2 (.alt 5 (.alt 6 (.alt 7 (.fin) (.non)) (.non)) (.non)) (.non)) (.non)) (.non))) (.non))) (.alt 3 (.alt 0 (.alt 1 (.alt 2 (.alt 4 (.alt 5 (.alt 6 (.alt 7 (.fin) (.non)) (.non)) (.non)) (.non)) (.alt 4 (.alt 2 (.alt 5 (.alt 6 (.alt 7 (.fin) (.non)) (.non)) (.non)) (.non)) (.non))) (.alt 4 (.alt 1 (.alt 2 (.alt 5 (.alt 6 (.alt 7 (.fin) (.non)) (.non)) (.non)) (.non)) (.non)) (.non))) (.alt 1 (.alt 0 (.alt 2 (.alt 4 (.alt 5 (.alt 6 (.alt 7 (.fin) (.non)) (.non)) (.non)) (.non)) (.alt 4 (.alt 2 (.alt 5 (.alt 6 (.alt 7 (.fin) (.non)) (.non)) (.non)) (.non)) (.non))) (.alt 4 (.alt 0 (.alt 2 (.alt 5 (.alt 6 (.alt 7 (.fin) (.non)) (.non)) (.non)) (.non)) (.non)) (.non))) (.alt 4 (.alt 0 (.alt 1 (.alt 2 (.alt 5 (.alt 6 (.alt 7 (.fin) (.non)) (.non)) (.non)) (.non)) (.non)) (.alt 1 (.alt 0 (.alt 2 (.alt 5 (.alt 6 (.alt 7 (.fin) (.non)) (.non)) (.non)) (.non)) (.non)) (.non))) (.non)))) (.non)))) [4, 5] (⟨[(4, .t (.one (.slc 2 0 (n + 1) 4))), (5, .t (.one (.iv (.g (.int .i64 0)))))], [some [.iv (.g (.int .i64 b.ver)), .iv (.g (.int .i64 b.frm)), .iv (.lst 5 b.m (cellI b.sh)), .iv (.lst 1 b.q (intI b.sg))], some [.iv (.g (.int .i64 (lastA n a).ver)), .iv (.g (.int .i64 (lastA n a).frm)), .iv (.lst 5 (lastA n a).m (cellI (lastA n a).sh)), .iv (.lst 1 (lastA n a).q (intI (lastA n a).sg))], some (rowA (n + 1) (pushA n a b)), none, none, none, some [.iv (.g (.int .i64 b.ver)), .iv (.g (.int .i64 b.frm)), .iv (.lst 5 b.m (cellI b.sh)), .iv (.lst 1 b.q (intI b.sg))]], 48, [], LP.top⟩) ?hm13 ?hb13 ?hd13 ?hc13 ?hh13 ?hq13); (case' hm13 => kernel_rfl); (case' hb13 => kernel_rfl); (case' hd13 => kernel_rfl); (case' hc13 => kernel_rfl); (case' hh13 => (simp only [List.toList_toArray, List.length_cons, List.length_nil, Nat.reduceAdd]; repeat' (first | ((with_reducible show runTr _ _ _ _ _ _); first | exact runTr_nonI | (with_reducible refine runTr_finI ?_) | (with_reducible refine runTr_altI (fun K hK => ?_) ?_)) | ((with_reducible show opTr _ _ _ _ _ _); simp (maxSteps := 2000000) only [go_sem, reduceIte, reduceCtorEq, Nat.reduceAdd, Nat.reduceLT, Nat.reduceLeDiff, Nat.reduceEqDiff, Nat.reduceMul, Nat.reduceSub, Nat.reduceBEq, Tryz.f17, fnok_10, ty_26, fnok_8, le_22, fnok_43, zc_26, of_26_0, ty_3, of_26_1, fnok_37, sl_22, cellI, intI, accF0, accF1, accF2, accF3, Go.Sea.lstC_len, maxLen, accf_pur, push_row, rowA_len]) | ((with_reducible refine hK _ ?_); clear hK K) | ((with_reducible show Leaf _ _); (try simp only [keepE, lk, if_true, if_false, Nat.reduceEqDiff, reduceIte]); exact ⟨rfl⟩) | exact True.intro | (with_reducible refine And.intro ?_ ?_) | omega))))))
 | ((first | (with_reducible refine And.intro ?_ ?_) | (with_reducible refine Need.mk ?_)); focus (first | exact True.intro | (with_reducible assumption) | omega | (refine ⟨?_, ?_⟩ <;> omega) | (intro _; first | exact True.intro | (with_reducible assumption) | omega) | (intros; (repeat' (first | exact True.intro | omega | (with_reducible assumption) | (with_reducible refine And.intro ?_ ?_))); done) | (simp (disch := omega) only [Bool.and_eq_true, Bool.or_eq_true, decide_eq_true_eq, bne_iff_ne, ne_eq] at *; first | done | omega | (intros; omega)) | (simp; done) | (simp; omega) | (simp +contextual; done) | (intro h; rw [h]; rfl) | (intro hq; have hq2 := hq; simp only [Bool.and_eq_true, Bool.or_eq_true, Bool.not_eq_true', Bool.not_not, Bool.not_eq_false', decide_eq_true_eq, decide_eq_false_iff_not] at hq2; (repeat' (first | exact hq | (with_reducible refine And.intro ?_ ?_) | omega | (simp_all; done))); done) | (intros; simp_all; done)))
 | (with_reducible refine retK_n ?_)
 | (with_reducible refine retK_n' ?_)
 | (with_reducible refine retH_n rfl rfl rfl ?_)
 | (with_reducible refine retH_n' rfl rfl rfl ?_)
 | ((with_reducible show condN _ _ _ _ _ _); first
 | ((with_reducible refine condN_t ?_ ?_) <;> (intro hc; (try simp only [Bool.and_eq_true, Bool.or_eq_true, Bool.not_eq_true', Bool.and_eq_false_iff, Bool.or_eq_false_iff, decide_eq_true_eq, decide_eq_false_iff_not, bne_iff_ne, beq_iff_eq, reduceCtorEq, bne_eq_false_iff_eq, beq_eq_false_iff_ne, Bool.not_eq_false', Int.not_le, Int.not_lt, Bool.not_not] at hc); (skip); (try (exfalso; first | contradiction | omega)))))
 | ((with_reducible refine And.intro ?_ ?_); focus (first | ((with_reducible show chkS _ _ _ _ = true); kernel_rfl) | ((with_reducible show holesB _ _ _ = true); kernel_rfl)))
 | ((with_reducible refine And.intro ?_ ?_); focus ((with_reducible show chkR _ _ _ = true); kernel_rfl))
 | ((with_reducible show callN _ _ _ _ _ _ _ _ _ _); first
 | (refine callN_q (k := 10) fnok_10 (rlist_p n a hn ha) ?_ ?_)
 | (refine callN_q (k := 8) fnok_8 (rvalid_p b hm hq) ?_ ?_)
 | (refine callN_q (k := 43) fnok_43 (at_m n a hn (by assumption : listB n a = true ∧ valB b = true).1) ?_ ?_)
 | (refine callN_q (k := 37) fnok_37 (ragreed_p (lastA n a) b (lst_bd (by assumption : listB n a = true ∧ valB b = true).1 ha (Nat.le_refl _)) (bd_val (by assumption : listB n a = true ∧ valB b = true).2 hq)) ?_ ?_))
 | ((fail_if_success (with_reducible show AW _ _ _ _)); simp (maxSteps := 2000000) only [go_sem, reduceIte, reduceCtorEq, Nat.reduceAdd, Nat.reduceLT, Nat.reduceLeDiff, Nat.reduceEqDiff, Nat.reduceMul, Nat.reduceSub, Nat.reduceBEq, Tryz.f17, fnok_10, ty_26, fnok_8, le_22, fnok_43, zc_26, of_26_0, ty_3, of_26_1, fnok_37, sl_22, cellI, intI, accF0, accF1, accF2, accF3, Go.Sea.lstC_len, maxLen, accf_pur, push_row, rowA_len])
 | ((with_reducible refine hK _ ?_); clear hK K))
  all_goals first
    | (have e := nx_1 hc; rw [e.1, e.2]; simp; done)
    | (have e := nx_2 (by assumption) hc; rw [e.1, e.2]; simp; done)
    | (have e := nx_3 (by assumption) (by assumption) hc; rw [e.1, e.2]; simp; done)
    | (have e := nx_4 (by assumption) (by assumption) (by assumption) hc; rw [e.1, e.2]; simp; done)
    | (have e := nx_5 (by assumption) (by assumption) (by assumption) hc; rw [e.1, e.2]; first | exact ⟨fun c hc => lstC_iv _ _ _ _ c hc, ⟨rfl, fun i o hi ho => lstC_eqv _ _ _ i o hi ho⟩, rfl⟩ | exact ⟨⟨rfl, fun i o hi ho => lstC_eqv _ _ _ i o hi ho⟩, rfl⟩)
    | skip

end Go.Proofs.YtbckibbgajfihaaGreat
