/- Gj: walks on abstract states. -/
import Derived.Test.YtbckibbgajfihaaGreatGi
set_option linter.unusedVariables false
set_option linter.unusedSimpArgs false
namespace Go.Proofs.YtbckibbgajfihaaGreat
open Go.RowKit Go.Sea
theorem fnok_140 : fnOk Tryz.prog 140 = true := by kernel_rfl
theorem fnok_141 : fnOk Tryz.prog 141 = true := by kernel_rfl
theorem fnok_142 : fnOk Tryz.prog 142 = true := by kernel_rfl
theorem fnok_144 : fnOk Tryz.prog 144 = true := by kernel_rfl
theorem fnok_145 : fnOk Tryz.prog 145 = true := by kernel_rfl
theorem fnok_51 : fnOk Tryz.prog 51 = true := by kernel_rfl
theorem fnok_71 : fnOk Tryz.prog 71 = true := by kernel_rfl

def trJ (P : Nat → Nat → Int) (n i : Nat) : Int := tvV (P (ixN n ((i : Int) - 1)) 0) (P (ixN n ((i : Int) - 1)) 1) (P i 0) (P i 1) (P (ixN n ((i : Int) + 1)) 0) (P (ixN n ((i : Int) + 1)) 1)
theorem nx_val {n i : Nat} (hi : i < n) : nx n i = if i + 1 = n then 0 else i + 1 := by
  unfold nx ixN
  rw [Int.add_emod_right]
  split
  · rw [show (i : Int) + 1 = n by omega, Int.emod_self]; rfl
  · rw [Int.emod_eq_of_lt (by omega) (by omega)]; omega
theorem pv_val {n i : Nat} (hi : i < n) : ixN n ((i : Int) - 1) = if i = 0 then n - 1 else i - 1 := by
  unfold ixN
  split
  · rw [Int.emod_eq_of_lt (by omega) (by omega)]; omega
  · rw [Int.add_emod_right, Int.emod_eq_of_lt (by omega) (by omega)]; omega
theorem nx2_val {n i : Nat} (hn : 3 ≤ n) (hi : i < n) : nxx2 n i = if i + 2 = n then 0 else if i + 1 = n then 1 else i + 2 := by
  unfold nxx2
  split
  · rw [show (i : Int) + 2 = n by omega, Int.emod_self]; rfl
  · split
    · rw [show (i : Int) + 2 = 1 + n by omega, Int.add_emod_right, Int.emod_eq_of_lt (by omega) (by omega)]; rfl
    · rw [Int.emod_eq_of_lt (by omega) (by omega)]; omega
theorem trJ_eq {P : Nat → Nat → Int} {n j : Nat} (hn : 3 ≤ n) (hp : allPt P n) (hj : j < n) : trJ P n j = trI P n (ixN n ((j : Int) - 1)) := by
  have e0 := pv_val hj
  have hi : ixN n ((j : Int) - 1) < n := by rw [e0]; split <;> omega
  have e1 : nx n (ixN n ((j : Int) - 1)) = j := by rw [nx_val hi, e0]; split <;> (split <;> omega)
  have e2 : nxx2 n (ixN n ((j : Int) - 1)) = nx n j := by
    rw [nx2_val hn hi, nx_val hj, e0]; repeat' split
    all_goals omega
  unfold trJ trI tvV
  rw [e1, e2]
  have e3 : ixN n ((j : Int) + 1) = nx n j := rfl
  rw [e3, hp _ hi, hp _ hj, hp _ (nx_lt (n := n) (i := j) (by omega))]; rfl
theorem pv_nx {n i : Nat} (hi : i < n) : ixN n (((nx n i : Nat) : Int) - 1) = i := by
  have h := nx_lt (n := n) (i := i) (by omega)
  rw [pv_val h, nx_val hi]; repeat' split
  all_goals omega
def ordJ (P : Nat → Nat → Int) (i : Nat) : Prop := 0 < i → ordV (P 0 0) (P 0 1) (P i 0) (P i 1) < 0
theorem pol_g1 {P : Nat → Nat → Int} {n i j : Nat} (hn : 3 ≤ (n : Int) ∧ (n : Int) ≤ 24) (haj : ∀ j', j' < j → ptB (P j' 0) (P j' 1) = true) (hj : (n : Int) ≤ j) (hi : (i : Int) < n) (h : ((i : Int) > 0 ∧ ordV (P 0 0) (P 0 1) (P i 0) (P i 1) ≥ 0) ∨ trJ P n i = 0) : false = polB n P := by
  rcases h with h | h
  · exact pol_f2 (decide_eq_false ((ordV_lt _ _ _ _).1 h.2)) h.1 hi
  · rw [trJ_eq (by omega) (fun k hk => haj k (by omega)) (by omega)] at h
    refine pol_f3 h ?_
    have := pv_val (n := n) (i := i) (by omega)
    rw [this]; split <;> omega
theorem pol_g2 {P : Nat → Nat → Int} {n i j : Nat} (hn : 3 ≤ (n : Int) ∧ (n : Int) ≤ 24) (haj : ∀ j', j' < j → ptB (P j' 0) (P j' 1) = true) (hj : (n : Int) ≤ j) (hai : ∀ i', i' < i → ordJ P i' ∧ trJ P n i' ≠ 0) (hi : (n : Int) ≤ i) : (simB P n && decide (twF P n n > 0)) = polB n P := by
  have hp : allPt P n := fun k hk => haj k (by omega)
  refine pol_t (i := n) (j := n) (by omega) (by omega) (by omega) (fun k hk => ⟨hp k hk, fun h0 => ?_⟩) (fun k hk => ?_)
  · have h1 := (hai k (by omega)).1 h0
    have h2 := ordV_lt (P 0 0) (P 0 1) (P k 0) (P k 1)
    unfold ltI
    exact Classical.byContradiction fun g => by have := h2.2 g; omega
  · have hx := nx_lt (n := n) (i := k) (by omega)
    have h1 := (hai (nx n k) (by omega)).2
    rw [trJ_eq (by omega) hp hx, pv_nx hk] at h1
    exact h1

set_option maxRecDepth 100000 in
set_option maxHeartbeats 4000000 in
theorem bad_p (x y : Int) : CallsP Tryz.prog 140 [.agg [.g (.int .i64 (x)), .g (.int .i64 (y))]] (.t (.one (.g (.bool (!ptB x y))))) := by
  refine CallsP_of Tryz.func140 rfl (by rw [Tryz.ntmps140]; simp) ?_
  simp only [Tryz.ntmps140, List.map_cons, List.map_nil, PT.tv, argEnv, Nat.zero_add, Nat.reduceAdd]
  repeat' (first
 | ((with_reducible show AW _ _ _ _); first
 | (with_reducible refine AW_seq_k fun K hK => ?_)
 | (with_reducible refine AW_skip ?_)
 | (with_reducible refine AW_exit ?_)
 | (with_reducible refine AW_ret ?_)
 | (with_reducible refine AW_condI ?_)
 | (with_reducible refine AW_block ?_)
 | ((with_reducible show AW _ (Code.region _ _ _) _ _); first
 | (with_reducible refine AW_regionP 0 [0] ?_)
 | (with_reducible refine AW_regionP 1 [1] ?_)))
 | ((first | (with_reducible refine And.intro ?_ ?_) | (with_reducible refine Need.mk ?_)); focus (first | exact True.intro | (with_reducible assumption) | omega | (refine ⟨?_, ?_⟩ <;> omega) | (intro _; first | exact True.intro | (with_reducible assumption) | omega) | (intros; (repeat' (first | exact True.intro | omega | (with_reducible assumption) | (with_reducible refine And.intro ?_ ?_))); done) | (simp (disch := omega) only [Bool.and_eq_true, Bool.or_eq_true, decide_eq_true_eq, bne_iff_ne, ne_eq] at *; first | done | omega | (intros; omega)) | (simp; done) | (simp; omega) | (simp +contextual; done) | (intro h; rw [h]; rfl) | (intro hq; have hq2 := hq; simp only [Bool.and_eq_true, Bool.or_eq_true, Bool.not_eq_true', Bool.not_not, Bool.not_eq_false', decide_eq_true_eq, decide_eq_false_iff_not] at hq2; (repeat' (first | exact hq | (with_reducible refine And.intro ?_ ?_) | omega | (simp_all; done))); done) | (intros; simp_all; done)))
 | (with_reducible refine retK_n ?_)
 | (with_reducible refine retK_n' ?_)
 | (with_reducible refine retH_n rfl rfl rfl ?_)
 | (with_reducible refine retH_n' rfl rfl rfl ?_)
 | ((with_reducible show condN _ _ _ _ _ _); first
 | ((with_reducible refine condN_t ?_ ?_) <;> (intro hc; (try simp only [Bool.and_eq_true, Bool.or_eq_true, Bool.not_eq_true', Bool.and_eq_false_iff, Bool.or_eq_false_iff, decide_eq_true_eq, decide_eq_false_iff_not, bne_iff_ne, beq_iff_eq, reduceCtorEq, bne_eq_false_iff_eq, beq_eq_false_iff_ne, Bool.not_eq_false', Int.not_le, Int.not_lt, Bool.not_not] at hc); (skip); (try (exfalso; first | contradiction | omega)))))
 | ((with_reducible show callN _ _ _ _ _ _ _ _ _ _); first
 | (refine callN_q (k := 105) fnok_105 (ptV_p _ _) ?_ ?_))
 | ((fail_if_success (with_reducible show AW _ _ _ _)); simp (maxSteps := 2000000) only [go_sem, reduceIte, reduceCtorEq, Nat.reduceAdd, Nat.reduceLT, Nat.reduceLeDiff, Nat.reduceEqDiff, Nat.reduceMul, Nat.reduceSub, Nat.reduceBEq, Tryz.f140, ty_28, fnok_105])
 | ((with_reducible refine hK _ ?_); clear hK K))

set_option maxRecDepth 100000 in
set_option maxHeartbeats 4000000 in
theorem Pol_p (n : Nat) (P : Nat → Nat → Int) (hn : n ≤ 9223372036854775807) : CallsP Tryz.prog 125 [.one (.lst 2 n (ptI P))] (.t (.one (.g (.bool (polB n P))))) := by
  refine CallsP_of Tryz.func125 rfl (by rw [Tryz.ntmps125]; simp) ?_
  simp only [Tryz.ntmps125, List.map_cons, List.map_nil, PT.tv, argEnv, Nat.zero_add, Nat.reduceAdd]
  repeat' (first
 | ((with_reducible show AW _ _ _ _); first
 | (with_reducible refine AW_seq_k fun K hK => ?_)
 | (with_reducible refine AW_skip ?_)
 | (with_reducible refine AW_exit ?_)
 | (with_reducible refine AW_ret ?_)
 | (with_reducible refine AW_condI ?_)
 | (with_reducible refine AW_block ?_)
 | ((with_reducible show AW _ (Code.region _ _ _) _ _); first
 | (with_reducible refine AW_regionP 0 [0, 1] ?_)
 | (with_reducible refine AW_regionP (ops := #[⟨some 3, _, _, _, _, _⟩]) 1 [0] ?_)
 | (with_reducible refine AW_regionP (ops := #[⟨some 5, _, _, _, _, _⟩, _, _, _, _]) 1 [0, 1] ?_)
 | (with_reducible refine AW_regionP (ops := #[⟨some 6, _, _, _, _, _⟩, _, _]) 1 [0, 1] ?_)
 | (with_reducible refine AW_regionP (ops := #[⟨some 6, _, _, _, _, _⟩, _, _, _, _, _, _, _, _, _, _, _, _]) 2 [0, 3] ?_)
 | (with_reducible refine AW_regionP (ops := #[⟨some 9, _, _, _, _, _⟩]) 2 [0, 1, 7, 8] ?_)
 | (with_reducible refine AW_regionP (ops := #[⟨some 2, _, _, _, _, _⟩]) 3 [] ?_)
 | (with_reducible refine AW_regionP (ops := #[⟨some 10, _, _, _, _, _⟩, _]) 3 [0, 1, 7, 8] ?_)
 | (with_reducible refine AW_regionP (ops := #[⟨some 19, _, _, _, _, _⟩, _]) 4 [0] ?_)
 | (with_reducible refine AW_regionP (ops := #[⟨some 11, _, _, _, _, _⟩, _, _, _, _, _]) 4 [0, 1, 5, 7, 8] ?_)
 | (with_reducible refine AW_regionP (ops := #[⟨some 20, _, _, _, _, _⟩, _, _]) 5 [4] ?_)
 | (with_reducible refine AW_regionP (ops := #[⟨some 17, _, _, _, _, _⟩, _]) 5 [5] ?_)
 | (with_reducible refine AW_regionP (ops := #[⟨some 23, _, _, _, _, _⟩]) 6 [4, 21, 22] ?_)
 | (with_reducible refine AW_regionP (ops := #[⟨some 18, _, _, _, _, _⟩, _]) 6 [0, 1, 7, 8] ?_)
 | (with_reducible refine AW_regionP (ops := #[⟨some 24, _, _, _, _, _⟩, _]) 7 [4, 21, 22] ?_)
 | (with_reducible refine AW_regionP (ops := #[⟨some 4, _, _, _, _, _⟩]) 7 [] ?_)
 | ((with_reducible refine AW_prune (c := Code.region 8 _ true) [4, 5, 21, 22] ?_); (with_reducible refine AW_regionD ?_ ?_ ?_ ?_); (focus kernel_rfl); (focus kernel_rfl); (focus kernel_rfl))
 | (with_reducible refine AW_regionP 9 [] ?_)
 | (with_reducible refine AW_regionP 10 [4, 21, 22] ?_)
 | (with_reducible refine AW_regionP 11 [4] ?_))
 | ((with_reducible show AW _ (Code.loop _) _ _); first
 | ((with_reducible refine AW_loopQ (c := (Code.seq (Code.region 2 _ _) _)) (ι := Nat) [0, 1, 7] (fun j => [(8, iA .i64 (j : Int))]) (fun j => []) (fun j => j ≤ n ∧ (∀ j', j' < j → ptB (P j' 0) (P j' 1) = true)) (fun j => n - j) 0 ?lg2 ?l12 ?l22 ?li2 ?lr2); (case' lg2 => rintro j _); (case' li2 => try (exact ⟨Nat.zero_le _, fun i hi => absurd hi (Nat.not_lt_zero _)⟩)); (case' lr2 => rintro j ⟨hj, haj⟩ KR hR2; skip; simp only [keepE, hupd, hset, lk, if_true, if_false, Nat.reduceEqDiff, reduceIte, List.cons_append, List.nil_append, ptI]))
 | ((with_reducible refine AW_loopQ (c := (Code.seq (Code.region 6 _ _) _)) (ι := Nat) [4, 21] (fun i => [(22, iA .i64 (i : Int))]) (fun i => []) (fun i => i ≤ n ∧ (∀ i', i' < i → ordJ P i' ∧ trJ P n i' ≠ 0)) (fun i => n - i) 0 ?lg6 ?l16 ?l26 ?li6 ?lr6); (case' lg6 => rintro i _); (case' li6 => try (exact ⟨Nat.zero_le _, fun i hi => absurd hi (Nat.not_lt_zero _)⟩)); (case' lr6 => rintro i ⟨hi, hai⟩ KR hR6; skip; simp only [keepE, hupd, hset, lk, if_true, if_false, Nat.reduceEqDiff, reduceIte, List.cons_append, List.nil_append, ptI]))))
 | ((first | (with_reducible refine And.intro ?_ ?_) | (with_reducible refine Need.mk ?_)); focus (first | exact True.intro | (with_reducible assumption) | omega | (refine ⟨?_, ?_⟩ <;> omega) | (intro _; first | exact True.intro | (with_reducible assumption) | omega) | (intros; (repeat' (first | exact True.intro | omega | (with_reducible assumption) | (with_reducible refine And.intro ?_ ?_))); done) | (simp (disch := omega) only [Bool.and_eq_true, Bool.or_eq_true, decide_eq_true_eq, bne_iff_ne, ne_eq] at *; first | done | omega | (intros; omega)) | (simp; done) | (simp; omega) | (simp +contextual; done) | (intro h; rw [h]; rfl) | (intro hq; have hq2 := hq; simp only [Bool.and_eq_true, Bool.or_eq_true, Bool.not_eq_true', Bool.not_not, Bool.not_eq_false', decide_eq_true_eq, decide_eq_false_iff_not] at hq2; (repeat' (first | exact hq | (with_reducible refine And.intro ?_ ?_) | omega | (simp_all; done))); done) | (intros; simp_all; done)))
 | (with_reducible refine retK_n ?_)
 | (with_reducible refine retK_n' ?_)
 | (with_reducible refine retH_n rfl rfl rfl ?_)
 | (with_reducible refine retH_n' rfl rfl rfl ?_)
 | ((with_reducible show condN _ _ _ _ _ _); first
 | ((with_reducible refine condN_t ?_ ?_) <;> (intro hc; (try simp only [Bool.and_eq_true, Bool.or_eq_true, Bool.not_eq_true', Bool.and_eq_false_iff, Bool.or_eq_false_iff, decide_eq_true_eq, decide_eq_false_iff_not, bne_iff_ne, beq_iff_eq, reduceCtorEq, bne_eq_false_iff_eq, beq_eq_false_iff_ne, Bool.not_eq_false', Int.not_le, Int.not_lt, Bool.not_not] at hc); (skip); (try (exfalso; first | contradiction | omega)))))
 | ((with_reducible refine And.intro ?_ ?_); focus ((with_reducible show chkR _ _ _ = true); kernel_rfl))
 | ((with_reducible show callN _ _ _ _ _ _ _ _ _ _); first
 | (refine callN_q (k := 140) fnok_140 (bad_p _ _) ?_ ?_)
 | (refine callN_q (k := 141) fnok_141 (order_p _ _ _ _) ?_ ?_)
 | (refine callN_q (k := 142) fnok_142 (pturn_p _ _ _ _ _ _) ?_ ?_)
 | (refine callN_q (k := 143) fnok_143 (corner_p n P _ (by omega) (by omega)) ?_ ?_)
 | (refine callN_q (k := 144) fnok_144 (simple_p n P (by omega)) ?_ ?_)
 | (refine callN_q (k := 145) fnok_145 (twice_p n P (by omega) (fun k hk => haj k (by omega))) ?_ ?_)
 | ((refine callN_i (k := 51) Tryz.func51 rfl fnok_51 (by rw [Tryz.ntmps51]; simp) ?_ ?_ (fun K hK => ?_)); (focus (first | exact True.intro | (with_reducible assumption) | omega | (refine ⟨?_, ?_⟩ <;> omega) | (intro _; first | exact True.intro | (with_reducible assumption) | omega) | (intros; (repeat' (first | exact True.intro | omega | (with_reducible assumption) | (with_reducible refine And.intro ?_ ?_))); done) | (simp (disch := omega) only [Bool.and_eq_true, Bool.or_eq_true, decide_eq_true_eq, bne_iff_ne, ne_eq] at *; first | done | omega | (intros; omega)) | (simp; done) | (simp; omega) | (simp +contextual; done) | (intro h; rw [h]; rfl) | (intro hq; have hq2 := hq; simp only [Bool.and_eq_true, Bool.or_eq_true, Bool.not_eq_true', Bool.not_not, Bool.not_eq_false', decide_eq_true_eq, decide_eq_false_iff_not] at hq2; (repeat' (first | exact hq | (with_reducible refine And.intro ?_ ?_) | omega | (simp_all; done))); done) | (intros; simp_all; done))); (focus (first | (simp [lsF]; done) | assumption | exact ⟨Nat.ne_of_lt (Nat.lt_succ_self _), by assumption⟩)); simp only [Tryz.ntmps51, List.map_cons, List.map_nil, List.nil_append, List.cons_append, List.append_nil, LV.tv, argEnv, Nat.zero_add, Nat.reduceAdd])
 | ((refine callN_i (k := 71) Tryz.func71 rfl fnok_71 (by rw [Tryz.ntmps71]; simp) ?_ ?_ (fun K hK => ?_)); (focus (first | exact True.intro | (with_reducible assumption) | omega | (refine ⟨?_, ?_⟩ <;> omega) | (intro _; first | exact True.intro | (with_reducible assumption) | omega) | (intros; (repeat' (first | exact True.intro | omega | (with_reducible assumption) | (with_reducible refine And.intro ?_ ?_))); done) | (simp (disch := omega) only [Bool.and_eq_true, Bool.or_eq_true, decide_eq_true_eq, bne_iff_ne, ne_eq] at *; first | done | omega | (intros; omega)) | (simp; done) | (simp; omega) | (simp +contextual; done) | (intro h; rw [h]; rfl) | (intro hq; have hq2 := hq; simp only [Bool.and_eq_true, Bool.or_eq_true, Bool.not_eq_true', Bool.not_not, Bool.not_eq_false', decide_eq_true_eq, decide_eq_false_iff_not] at hq2; (repeat' (first | exact hq | (with_reducible refine And.intro ?_ ?_) | omega | (simp_all; done))); done) | (intros; simp_all; done))); (focus (first | (simp [lsF]; done) | assumption | exact ⟨Nat.ne_of_lt (Nat.lt_succ_self _), by assumption⟩)); simp only [Tryz.ntmps71, List.map_cons, List.map_nil, List.nil_append, List.cons_append, List.append_nil, LV.tv, argEnv, Nat.zero_add, Nat.reduceAdd]))
 | ((with_reducible show callDN _ _ _ _ _ _ _ _ _ _ _ _ _); first
 | (refine callDN_q (k := 140) fnok_140 (bad_p _ _) ?_ ?_))
 | ((with_reducible show callDGN _ _ _ _ _ _ _ _ _ _ _ _ _); first
 | (refine callDGN_q (k := 140) fnok_140 (fun hg => bad_p _ _) ?_ ?_)
 | (refine callDGN_q (k := 141) fnok_141 (fun hg => order_p _ _ _ _) ?_ ?_)
 | (refine callDGN_q (k := 142) fnok_142 (fun hg => pturn_p _ _ _ _ _ _) ?_ ?_)
 | (refine callDGN_q (k := 143) fnok_143 (fun hg => corner_p n P _ (by omega) (by omega)) ?_ ?_))
 | ((with_reducible show callGN _ _ _ _ _ _ _ _ _ _); first
 | (refine callGN_q (k := 140) fnok_140 (fun hg => bad_p _ _) ?_ ?_)
 | (refine callGN_q (k := 145) fnok_145 (fun hg => twice_p n P (by omega) (fun k hk => haj k (by omega))) ?_ ?_)
 | ((refine callGN_sq (k := 51) ?_ ?_) <;> (intro hc; (try simp only [Bool.and_eq_true, Bool.or_eq_true, Bool.not_eq_true', Bool.and_eq_false_iff, Bool.or_eq_false_iff, decide_eq_true_eq, decide_eq_false_iff_not, bne_iff_ne, beq_iff_eq, reduceCtorEq, bne_eq_false_iff_eq, beq_eq_false_iff_ne, Bool.not_eq_false', Int.not_le, Int.not_lt, Bool.not_not] at hc); (try (exfalso; first | contradiction | omega)))))
 | ((with_reducible refine hR2 _ (j + 1) ?_); (try clear hR2 KR))
 | ((with_reducible refine hR6 _ (i + 1) ?_); (try clear hR6 KR))
 | ((with_reducible refine Told.mk ?_); simp only [go_sem, reduceIte, reduceCtorEq, Nat.reduceAdd, Nat.reduceLT, Nat.reduceLeDiff, Nat.reduceEqDiff, Nat.reduceMul, Nat.reduceSub, Nat.reduceBEq, ptI] <;> (first | exact True.intro | (((try simp (disch := omega) only [seaWrap, Int.natCast_add, Int.cast_ofNat_Int, and_true, true_and, and_self]); (repeat' (first | exact True.intro | omega | rfl | (with_reducible assumption) | (with_reducible refine And.intro ?_ ?_) | (exact all_succ (by assumption) (by assumption)) )); done)) | (((try simp (disch := omega) only [seaWrap, Int.natCast_add, Int.cast_ofNat_Int, and_true, true_and, and_self]); (repeat' (first | exact True.intro | omega | rfl | (with_reducible assumption) | (with_reducible refine And.intro ?_ ?_) | (exact all_succ (by assumption) (by assumption)) | ((exact all_succ (by assumption) ⟨fun h0 => by omega, by unfold trJ; exact hc.2⟩)))); done)) | (refine Stuck.out ?_)))
 | ((fail_if_success (with_reducible show AW _ _ _ _)); simp (maxSteps := 2000000) only [go_sem, reduceIte, reduceCtorEq, Nat.reduceAdd, Nat.reduceLT, Nat.reduceLeDiff, Nat.reduceEqDiff, Nat.reduceMul, Nat.reduceSub, Nat.reduceBEq, Tryz.f125, Tryz.f51, Tryz.f71, le_53, fnok_51, le_152, sl_152, ar_152, ty_28, fnok_141, fnok_143, fnok_142, fnok_144, fnok_145, fnok_71, sl_53, ar_53, ptI])
 | ((fail_if_success (with_reducible show AW _ _ _ _)); simp (disch := omega) only [seaWrap, seaDiv, seaMod])
 | ((with_reducible refine hK _ ?_); clear hK K)
 | (with_reducible apply_assumption -exfalso only [*]))
  all_goals (first | exact pol_f0 (by assumption) | exact pol_f1 (by assumption) (by assumption) | exact pol_g1 (by assumption) haj (by assumption) (by assumption) hc | exact pol_g2 (by assumption) haj (by assumption) hai hc | skip)

end Go.Proofs.YtbckibbgajfihaaGreat
