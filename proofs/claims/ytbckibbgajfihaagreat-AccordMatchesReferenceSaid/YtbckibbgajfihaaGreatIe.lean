/- Ie: walks on abstract states. -/
import Derived.Test.YtbckibbgajfihaaGreatId
set_option linter.unusedVariables false
set_option linter.unusedSimpArgs false
namespace Go.Proofs.YtbckibbgajfihaaGreat
open Go.RowKit Go.Sea
theorem fnok_25 : fnOk Tryz.prog 25 = true := by kernel_rfl
theorem fnok_53 : fnOk Tryz.prog 53 = true := by kernel_rfl
theorem fnok_55 : fnOk Tryz.prog 55 = true := by kernel_rfl

theorem rgt_3 {n : Nat} {a : Nat → Acc} {N : NotS} (h : listB n a = true) (hv : notB N = true) {i j l : Nat} (hi : (i : Int) < N.n) (g : ∀ i', i' < i → gdI (rgtA n a N) N.oc (N.p i') (N.p i').k) (hj : (j : Int) < (N.p i).k) (gj : ∀ j', j' < j → badP (rgtA n a N) N.oc ((N.p i).o j') = false) (hl : (l : Int) < namN ((N.p i).o j)) (gl : ofV (rgtA n a N) (namP ((N.p i).o j) l 0) (namP ((N.p i).o j) l 1) ≠ N.oc) : ((cnt N.p i : Nat) : Int) + j = rgtV n a N ∧ 0 = rgtE n a N := rgt_2 h hv hi g hj gj hl gl
theorem at_r (n : Nat) (a : Nat → Acc) (N : NotS) (hn : n ≤ 9223372036854775807) : CallsP Tryz.prog 43 [.one (.lst 4 n (accF a)), .one (.g (.int .i64 (N.fr)))] (.t (accP (rgtA n a N))) := at_p' n a N.fr hn
theorem mv_r {A B : Acc} (h : cmpB A B = true) {i j : Nat} (hi : i < B.m) (hj : j < A.m) : insB (B.sh i 1) (B.sh i 2) (B.sh i 3) (B.sh i 4) (A.sh j 1) (A.sh j 2) (A.sh j 3) (A.sh j 4) = insR (B.sh i 1) (B.sh i 2) (B.sh i 3) (B.sh i 4) (A.sh j 1) (A.sh j 2) (A.sh j 3) (A.sh j 4) := by
  simp only [cmpB, Bool.and_eq_true, Bool.or_eq_true, decide_eq_true_eq] at h
  refine ins_r (sound_v ((of_decide_eq_true h.2).2.1 i hi).1) ?_
  rcases h.1 with h1 | h1
  · omega
  · exact sound_v ((of_decide_eq_true h1).2.1 j hj).1
theorem mvQ_r1 {A B : Acc} (h : cmpB A B = true) {i j : Nat} (hi : (i : Int) < B.m) (hj : (j : Int) < A.m) {l : List (Nat → Int)} (hc : insR (B.sh i 1) (B.sh i 2) (B.sh i 3) (B.sh i 4) (A.sh j 1) (A.sh j 2) (A.sh j 3) (A.sh j 4) = true ∧ B.sh i 0 ≠ A.sh j 0) : mvQ A B i l (j + 1) = mvQ A B i l j ++ [shM A B i j] := mvQ_1 ⟨hc.2, by rw [mv_r h (by omega) (by omega)]; exact hc.1⟩
theorem mvQ_r2 {A B : Acc} (h : cmpB A B = true) {i j : Nat} (hi : (i : Int) < B.m) (hj : (j : Int) < A.m) {l : List (Nat → Int)} (hc : insR (B.sh i 1) (B.sh i 2) (B.sh i 3) (B.sh i 4) (A.sh j 1) (A.sh j 2) (A.sh j 3) (A.sh j 4) = false ∨ B.sh i 0 = A.sh j 0) : mvQ A B i l (j + 1) = mvQ A B i l j := mvQ_2 (by rw [mv_r h (by omega) (by omega)]; exact hc.symm)

set_option maxRecDepth 100000 in
set_option maxHeartbeats 4000000 in
theorem rRight_p (n : Nat) (a : Nat → Acc) (N : NotS) (hn : n ≤ 9223372036854775807) (ha : ∀ i, i < n → (a i).m ≤ 9223372036854775807 ∧ (a i).q ≤ 9223372036854775807) (ho : N.Ok) : CallsP Tryz.prog 20 [.one (.lst 4 n (accF a)), .agg [.g (.int .i64 N.oc), .g (.int .i64 N.nu), .g (.int .i64 N.kd), .g (.int .i64 N.fr), .g (.int .i64 N.un), .g (.int .i64 N.ca), .lst 3 N.n (partF N.p)]] (.tup [.one (.g (.int .i64 (rgtV n a N))), .one (.g (.int .i64 (rgtE n a N)))]) := by
  have hnn := ho.n
  refine CallsP_of Tryz.func20 rfl (by rw [Tryz.ntmps20]; simp) ?_
  simp only [Tryz.ntmps20, List.map_cons, List.map_nil, PT.tv, argEnv, Nat.zero_add, Nat.reduceAdd]
  repeat' (first
 | ((with_reducible show AW _ _ _ _); first
 | (with_reducible refine AW_seq_k fun K hK => ?_)
 | (with_reducible refine AW_skip ?_)
 | (with_reducible refine AW_exit ?_)
 | (with_reducible refine AW_ret ?_)
 | (with_reducible refine AW_condI ?_)
 | (with_reducible refine AW_block ?_)
 | ((with_reducible show AW _ (Code.region _ _ _) _ _); first
 | (with_reducible refine AW_regionP 0 [0, 1] ?_)
 | (with_reducible refine AW_regionP 1 [0, 3] ?_)
 | (with_reducible refine AW_regionP 2 [0, 3, 6] ?_)
 | (with_reducible refine AW_regionP 3 [0, 3, 6, 7] ?_)
 | (with_reducible refine AW_regionP 4 [] ?_)
 | (with_reducible refine AW_regionP 5 [0, 3] ?_)
 | (with_reducible refine AW_regionP 6 [3, 8] ?_)
 | (with_reducible refine AW_regionP 7 [3, 8, 9] ?_)
 | (with_reducible refine AW_regionP 8 [3, 8, 9, 10] ?_)
 | (with_reducible refine AW_regionP 9 [3, 8, 9, 10] ?_)
 | (with_reducible refine AW_regionP 10 [3, 8, 9, 10] ?_)
 | (with_reducible refine AW_regionP 11 [3, 8, 9, 10, 11] ?_)
 | (with_reducible refine AW_regionP 12 [3, 8, 9, 10, 11] ?_)
 | (with_reducible refine AW_regionP 13 [3, 8, 9, 10, 11] ?_)
 | (with_reducible refine AW_regionP 14 [3, 8, 9, 10, 11, 12] ?_)
 | (with_reducible refine AW_regionP 15 [3, 8, 9, 10, 11, 12, 13] ?_)
 | (with_reducible refine AW_regionP 16 [3, 8, 9, 10, 11, 12, 13] ?_)
 | ((with_reducible refine AW_prune (c := Code.region 17 _ true) [3, 8, 9, 10, 11, 12, 13] ?_); (with_reducible refine AW_regionD ?_ ?_ ?_ ?_); (focus kernel_rfl); (focus kernel_rfl); (focus kernel_rfl))
 | (with_reducible refine AW_regionP 18 [3, 8, 9, 10, 11, 12, 13, 14] ?_)
 | (with_reducible refine AW_regionP 19 [9] ?_)
 | (with_reducible refine AW_regionP 20 [3, 8, 9, 10, 11] ?_)
 | (with_reducible refine AW_regionP 21 [] ?_))
 | ((with_reducible show AW _ (Code.loop _) _ _); first
 | ((with_reducible refine AW_loopQ (c := (Code.seq (Code.seq (Code.region 8 _ _) _) _)) (ι := Nat) [3, 8] (fun i => [(9, iA .i64 (cnt N.p i : Int)), (10, iA .i64 (i : Int))]) (fun i => []) (fun i => i ≤ N.n ∧ (∀ i', i' < i → gdI (rgtA n a N) N.oc (N.p i') (N.p i').k)) (fun i => N.n - i) 0 ?lg8 ?l18 ?l28 ?li8 ?lr8); (case' lg8 => rintro i _); (case' li8 => try (exact ⟨Nat.zero_le _, fun i hi => absurd hi (Nat.not_lt_zero _)⟩)); (case' lr8 => rintro i ⟨hi, hai⟩ KR hR8; have b1 := cnt_le hv i hi; have b2 := not_n hv; simp only [keepE, hupd, hset, lk, if_true, if_false, Nat.reduceEqDiff, reduceIte, List.cons_append, List.nil_append, cellI, intI, accF0, accF1, accF2, accF3, partF0, partF1, partF2, intI, oprF0, oprF1, oprF2, oprF3, oprF4, oprF5, oprF6, oprF7, oprF8, oprF9, oprF10, oprF11, oprF12, oprF13, oprF14, oprF15, ptI, cnt_s, cnt_z]))
 | ((with_reducible refine AW_loopQ (c := (Code.seq (Code.seq (Code.region 11 _ _) _) _)) (ι := Nat) [3, 8, 10] (fun j => [(9, iA .i64 ((cnt N.p i : Int) + j)), (11, iA .i64 (j : Int))]) (fun j => []) (fun j => j ≤ (N.p i).k ∧ (∀ j', j' < j → badP (rgtA n a N) N.oc ((N.p i).o j') = false)) (fun j => (N.p i).k - j) 0 ?lg11 ?l111 ?l211 ?li11 ?lr11); (case' lg11 => rintro j _); (case' li11 => try (exact ⟨Nat.zero_le _, fun i hi => absurd hi (Nat.not_lt_zero _)⟩)); (case' lr11 => rintro j ⟨hj, haj⟩ KR hR11; have b3 := not_k hv (i := i) (by omega); simp only [keepE, hupd, hset, lk, if_true, if_false, Nat.reduceEqDiff, reduceIte, List.cons_append, List.nil_append, cellI, intI, accF0, accF1, accF2, accF3, partF0, partF1, partF2, intI, oprF0, oprF1, oprF2, oprF3, oprF4, oprF5, oprF6, oprF7, oprF8, oprF9, oprF10, oprF11, oprF12, oprF13, oprF14, oprF15, ptI, cnt_s, cnt_z]))
 | ((with_reducible refine AW_loopQ (c := (Code.seq (Code.seq (Code.region 15 _ _) _) _)) (ι := Nat) [3, 8, 9, 10, 11, 12] (fun l => [(13, iA .i64 (l : Int))]) (fun l => []) (fun l => l ≤ namN ((N.p i).o j) ∧ (∀ l', l' < l → ofV (rgtA n a N) (namP ((N.p i).o j) l' 0) (namP ((N.p i).o j) l' 1) = N.oc)) (fun l => namN ((N.p i).o j) - l) 0 ?lg15 ?l115 ?l215 ?li15 ?lr15); (case' lg15 => rintro l _); (case' li15 => try (exact ⟨Nat.zero_le _, fun i hi => absurd hi (Nat.not_lt_zero _)⟩)); (case' lr15 => rintro l ⟨hl1, hal⟩ KR hR15; have hno := namN_le ((ho.p i (by omega)).o j (by omega)); simp only [keepE, hupd, hset, lk, if_true, if_false, Nat.reduceEqDiff, reduceIte, List.cons_append, List.nil_append, cellI, intI, accF0, accF1, accF2, accF3, partF0, partF1, partF2, intI, oprF0, oprF1, oprF2, oprF3, oprF4, oprF5, oprF6, oprF7, oprF8, oprF9, oprF10, oprF11, oprF12, oprF13, oprF14, oprF15, ptI, cnt_s, cnt_z]))))
 | ((first | (with_reducible refine And.intro ?_ ?_) | (with_reducible refine Need.mk ?_)); focus (first | exact True.intro | (with_reducible assumption) | omega | (refine ⟨?_, ?_⟩ <;> omega) | (intro _; first | exact True.intro | (with_reducible assumption) | omega) | (intros; (repeat' (first | exact True.intro | omega | (with_reducible assumption) | (with_reducible refine And.intro ?_ ?_))); done) | (simp (disch := omega) only [Bool.and_eq_true, Bool.or_eq_true, decide_eq_true_eq, bne_iff_ne, ne_eq] at *; first | done | omega | (intros; omega)) | (simp; done) | (simp; omega) | (simp +contextual; done) | (intro h; rw [h]; rfl) | (intro hq; have hq2 := hq; simp only [Bool.and_eq_true, Bool.or_eq_true, Bool.not_eq_true', Bool.not_not, Bool.not_eq_false', decide_eq_true_eq, decide_eq_false_iff_not] at hq2; (repeat' (first | exact hq | (with_reducible refine And.intro ?_ ?_) | omega | (simp_all; done))); done) | (intros; simp_all; done)))
 | (with_reducible refine retK_n ?_)
 | (with_reducible refine retK_n' ?_)
 | (with_reducible refine retH_n rfl rfl rfl ?_)
 | (with_reducible refine retH_n' rfl rfl rfl ?_)
 | ((with_reducible show condN _ _ _ _ _ _); first
 | ((with_reducible refine condN_t ?_ ?_) <;> (intro hc; (try simp only [Bool.and_eq_true, Bool.or_eq_true, Bool.not_eq_true', Bool.and_eq_false_iff, Bool.or_eq_false_iff, decide_eq_true_eq, decide_eq_false_iff_not, bne_iff_ne, beq_iff_eq, reduceCtorEq, bne_eq_false_iff_eq, beq_eq_false_iff_ne, Bool.not_eq_false', Int.not_le, Int.not_lt, Bool.not_not] at hc); ((try (have hl : listB n a = true := hc.1; have hv : notB N = true := hc.2))); (try (exfalso; first | contradiction | omega)))))
 | ((with_reducible refine And.intro ?_ ?_); focus ((with_reducible show chkR _ _ _ = true); kernel_rfl))
 | ((with_reducible show callN _ _ _ _ _ _ _ _ _ _); first
 | (refine callN_q (k := 10) fnok_10 (rlist_p n a hn ha) ?_ ?_)
 | (refine callN_q (k := 53) fnok_53 (rNot_p N ho) ?_ ?_)
 | (refine callN_q (k := 43) fnok_43 (at_r n a N hn) ?_ ?_)
 | (refine callN_q (k := 25) fnok_25 (rplaces_p _ ((ho.p i (by omega)).o j (by omega))) ?_ ?_))
 | ((with_reducible show callDN _ _ _ _ _ _ _ _ _ _ _ _ _); first
 | (refine callDN_q (k := 42) fnok_42 (rof_p (rgtA n a N) _ _ (last_m ha (fN_le _ _ _)).1) ?_ ?_))
 | ((with_reducible refine hR8 _ (i + 1) ?_); (try clear hR8 KR))
 | ((with_reducible refine hR11 _ (j + 1) ?_); (try clear hR11 KR))
 | ((with_reducible refine hR15 _ (l + 1) ?_); (try clear hR15 KR))
 | ((with_reducible refine Told.mk ?_); simp only [go_sem, reduceIte, reduceCtorEq, Nat.reduceAdd, Nat.reduceLT, Nat.reduceLeDiff, Nat.reduceEqDiff, Nat.reduceMul, Nat.reduceSub, Nat.reduceBEq, cellI, intI, accF0, accF1, accF2, accF3, partF0, partF1, partF2, intI, oprF0, oprF1, oprF2, oprF3, oprF4, oprF5, oprF6, oprF7, oprF8, oprF9, oprF10, oprF11, oprF12, oprF13, oprF14, oprF15, ptI, cnt_s, cnt_z] <;> (first | exact True.intro | (((try simp (disch := omega) only [seaWrap, Int.natCast_add, Int.cast_ofNat_Int, and_true, true_and, and_self]); (repeat' (first | exact True.intro | omega | rfl | (with_reducible assumption) | (with_reducible refine And.intro ?_ ?_) | (exact all_succ (by assumption) (by assumption)) | ((exact all_succ (by assumption) (gdI_e (by assumption) (by assumption)))))); done)) | (((try simp (disch := omega) only [seaWrap, Int.natCast_add, Int.cast_ofNat_Int, and_true, true_and, and_self]); (repeat' (first | exact True.intro | omega | rfl | (with_reducible assumption) | (with_reducible refine And.intro ?_ ?_) | (exact all_succ (by assumption) (by assumption)) | ((exact all_succ (by assumption) (bad_0 (by assumption) (by assumption)))))); done)) | (((try simp (disch := omega) only [seaWrap, Int.natCast_add, Int.cast_ofNat_Int, and_true, true_and, and_self]); (repeat' (first | exact True.intro | omega | rfl | (with_reducible assumption) | (with_reducible refine And.intro ?_ ?_) | (exact all_succ (by assumption) (by assumption)) )); done)) | (refine Stuck.out ?_)))
 | ((fail_if_success (with_reducible show AW _ _ _ _)); simp (maxSteps := 2000000) only [go_sem, reduceIte, reduceCtorEq, Nat.reduceAdd, Nat.reduceLT, Nat.reduceLeDiff, Nat.reduceEqDiff, Nat.reduceMul, Nat.reduceSub, Nat.reduceBEq, Tryz.f20, fnok_10, ty_31, fnok_53, of_31_3, ty_3, fnok_43, zc_26, ty_26, of_31_6, ty_29, le_29, sl_29, ar_29, of_52_2, ty_50, le_50, sl_50, ar_50, ty_59, fnok_25, le_53, sl_53, ar_53, ty_28, fnok_42, of_31_0, cellI, intI, accF0, accF1, accF2, accF3, partF0, partF1, partF2, intI, oprF0, oprF1, oprF2, oprF3, oprF4, oprF5, oprF6, oprF7, oprF8, oprF9, oprF10, oprF11, oprF12, oprF13, oprF14, oprF15, ptI, cnt_s, cnt_z])
 | ((fail_if_success (with_reducible show AW _ _ _ _)); simp (disch := omega) only [seaWrap, seaDiv, seaMod])
 | ((with_reducible refine hK _ ?_); clear hK K)
 | (with_reducible apply_assumption -exfalso only [*]))
  all_goals (first | exact rgt_0 (by assumption) | exact rgt_1 hl hv (by assumption) (by assumption) | exact rgt_3 hl hv (by assumption) hai (by assumption) haj (by assumption) (by assumption) | skip)

set_option maxRecDepth 100000 in
set_option maxHeartbeats 4000000 in
theorem rmoved_p (a b : Acc) (ha : a.m ≤ 9223372036854775807) (hq : a.q ≤ 9223372036854775807) (hb : b.m ≤ 9223372036854775807) (hr : b.q ≤ 9223372036854775807) : CallsP Tryz.prog 22 [accP a, accP b] (.tup [.one (.lst 5 (mvR a b).length (cellI fun i o => ((mvR a b).getD i fun _ => 0) o)), .one (.g (.int .i64 (conE a b)))]) := by
  have aS : True := trivial
  refine CallsP_of Tryz.func22 rfl (by rw [Tryz.ntmps22]; simp) ?_
  simp only [Tryz.ntmps22, List.map_cons, List.map_nil, PT.tv, argEnv, Nat.zero_add, Nat.reduceAdd]
  repeat' (first
 | ((with_reducible show AW _ _ _ _); first
 | (with_reducible refine AW_seq_k fun K hK => ?_)
 | (with_reducible refine AW_skip ?_)
 | (with_reducible refine AW_exit ?_)
 | (with_reducible refine AW_ret ?_)
 | (with_reducible refine AW_condI ?_)
 | (with_reducible refine AW_block ?_)
 | ((with_reducible show AW _ (Code.region _ _ _) _ _); first
 | (with_reducible refine AW_regionP 0 [0, 1] ?_)
 | (with_reducible refine AW_regionP 1 [2, 3] ?_)
 | (with_reducible refine AW_regionP 2 [2, 3, 6] ?_)
 | (with_reducible refine AW_regionP 3 [] ?_)
 | (with_reducible refine AW_regionP 4 [2, 3] ?_)
 | (with_reducible refine AW_regionP 5 [2, 3, 7] ?_)
 | (with_reducible refine AW_regionP 6 [2, 3, 7, 8] ?_)
 | (with_reducible refine AW_regionP 7 [2, 3, 7, 8] ?_)
 | (with_reducible refine AW_regionP 8 [2, 3, 7, 8] ?_)
 | (with_reducible refine AW_regionP 9 [2, 3, 7, 8, 9] ?_)
 | (with_reducible refine AW_regionP 10 [2, 3, 7, 8, 9] ?_)
 | (with_reducible refine AW_regionP 11 [2, 3, 7, 8, 9] ?_)
 | ((with_reducible refine AW_prune (c := Code.region 12 _ true) [2, 3, 7, 8, 9, 10] ?_); (with_reducible refine AW_regionD ?_ ?_ ?_ ?_); (focus kernel_rfl); (focus kernel_rfl); (focus kernel_rfl))
 | ((with_reducible refine AW_prune (c := Code.region 13 _ true) [2, 3, 7, 8, 9, 10, 11] ?_); (with_reducible refine AW_regionD ?_ ?_ ?_ ?_); (focus kernel_rfl); (focus kernel_rfl); (focus kernel_rfl))
 | ((with_reducible refine AW_prune (c := Code.region 14 _ true) [2, 3, 7, 8, 9, 10] ?_); (with_reducible refine AW_regionD ?_ ?_ ?_ ?_); (focus kernel_rfl); (focus kernel_rfl); (focus kernel_rfl))
 | (with_reducible refine AW_regionP 15 [2, 3, 7, 8, 9, 10, 12] ?_)
 | (with_reducible refine AW_regionP 16 [7] ?_))
 | ((with_reducible show AW _ (Code.loop _) _ _); first
 | ((with_reducible refine AW_loopQ (c := (Code.seq (Code.seq (Code.region 6 _ _) _) _)) (ι := Nat) [2, 3] (fun i => [(7, .t (.one (.slc 2 0 (mvO a b i).length 5))), (8, iA .i64 (i : Int))]) (fun i => [(2, rowS (mvO a b i))]) (fun i => i ≤ b.m) (fun i => b.m - i) 0 ?lg6 ?l16 ?l26 ?li6 ?lr6); (case' lg6 => rintro i _); (case' li6 => try (first | trivial | omega | (simp; done) | (simp; omega))); (case' lr6 => rintro i hi KR hR6; have nO := mvO_le nB (B := b) i; simp only [keepE, hupd, hset, lk, if_true, if_false, Nat.reduceEqDiff, reduceIte, List.cons_append, List.nil_append, cellI, intI, accF0, accF1, accF2, accF3, aS, rowS_len, mvQ_0, mvO_0, maxLen]))
 | ((with_reducible refine AW_loopQ (c := (Code.seq (Code.seq (Code.region 9 _ _) _) _)) (ι := Nat) [2, 3, 8] (fun j => [(7, .t (.one (.slc 2 0 (mvQ a b i (mvO a b i) j).length 5))), (9, iA .i64 (j : Int))]) (fun j => [(2, rowS (mvQ a b i (mvO a b i) j))]) (fun j => j ≤ a.m) (fun j => a.m - j) 0 ?lg9 ?l19 ?l29 ?li9 ?lr9); (case' lg9 => rintro j _); (case' li9 => try (first | trivial | omega | (simp; done) | (simp; omega))); (case' lr9 => rintro j hj KR hR9; have nQ := mvQ_le a b i (mvO a b i) j; clear aS; have aS := fun l q => rowS_one l (shM a b i j) q; simp only [c5, shM] at aS; simp only [keepE, hupd, hset, lk, if_true, if_false, Nat.reduceEqDiff, reduceIte, List.cons_append, List.nil_append, cellI, intI, accF0, accF1, accF2, accF3, aS, rowS_len, mvQ_0, mvO_0, maxLen]))))
 | ((first | (with_reducible refine And.intro ?_ ?_) | (with_reducible refine Need.mk ?_)); focus (first | exact True.intro | (with_reducible assumption) | omega | (refine ⟨?_, ?_⟩ <;> omega) | (intro _; first | exact True.intro | (with_reducible assumption) | omega) | (intros; (repeat' (first | exact True.intro | omega | (with_reducible assumption) | (with_reducible refine And.intro ?_ ?_))); done) | (simp (disch := omega) only [Bool.and_eq_true, Bool.or_eq_true, decide_eq_true_eq, bne_iff_ne, ne_eq] at *; first | done | omega | (intros; omega)) | (simp; done) | (simp; omega) | (simp +contextual; done) | (intro h; rw [h]; rfl) | (intro hq; have hq2 := hq; simp only [Bool.and_eq_true, Bool.or_eq_true, Bool.not_eq_true', Bool.not_not, Bool.not_eq_false', decide_eq_true_eq, decide_eq_false_iff_not] at hq2; (repeat' (first | exact hq | (with_reducible refine And.intro ?_ ?_) | omega | (simp_all; done))); done) | (intros; simp_all; done)))
 | (with_reducible refine retK_n ?_)
 | (with_reducible refine retK_n' ?_)
 | (with_reducible refine retH_n rfl rfl rfl ?_)
 | (with_reducible refine retH_n' rfl rfl rfl ?_)
 | ((with_reducible show condN _ _ _ _ _ _); first
 | ((with_reducible refine condN_t ?_ ?_) <;> (intro hc; (try simp only [Bool.and_eq_true, Bool.or_eq_true, Bool.not_eq_true', Bool.and_eq_false_iff, Bool.or_eq_false_iff, decide_eq_true_eq, decide_eq_false_iff_not, bne_iff_ne, beq_iff_eq, reduceCtorEq, bne_eq_false_iff_eq, beq_eq_false_iff_ne, Bool.not_eq_false', Int.not_le, Int.not_lt, Bool.not_not] at hc); ((try (have hc0 : cmpB a b = true := hc; have nB := (cmp_bd hc hq hr).1.m; have nB2 := (cmp_bd hc hq hr).2.m)); (try (have e0 : j = a.m := (by omega); subst e0)); (try (have e0 : i = b.m := (by omega); subst e0))); (try (exfalso; first | contradiction | omega)))))
 | ((with_reducible refine And.intro ?_ ?_); focus ((with_reducible show chkR _ _ _ = true); kernel_rfl))
 | ((with_reducible show callN _ _ _ _ _ _ _ _ _ _); first
 | (refine callN_q (k := 46) fnok_46 (rtwo_p a b ha hq hb hr) ?_ ?_))
 | ((with_reducible show callDN _ _ _ _ _ _ _ _ _ _ _ _ _); first
 | (refine callDN_q (k := 33) fnok_33 (rins_p _ _ _ _ _ _ _ _) ?_ ?_)
 | (refine callDN_q (k := 55) fnok_55 (rmeetbox_p _ _ _ _ _ _ _ _) ?_ ?_))
 | ((with_reducible refine hR6 _ (i + 1) ?_); (try clear hR6 KR))
 | ((with_reducible refine hR9 _ (j + 1) ?_); (try clear hR9 KR))
 | ((with_reducible refine Told.mk ?_); simp only [go_sem, reduceIte, reduceCtorEq, Nat.reduceAdd, Nat.reduceLT, Nat.reduceLeDiff, Nat.reduceEqDiff, Nat.reduceMul, Nat.reduceSub, Nat.reduceBEq, cellI, intI, accF0, accF1, accF2, accF3, aS, rowS_len, mvQ_0, mvO_0, maxLen] <;> (first | exact True.intro | (((try simp (disch := omega) only [seaWrap, Int.natCast_add, Int.cast_ofNat_Int, and_true, true_and, and_self]); (repeat' (first | exact True.intro | omega | rfl | (with_reducible assumption) | (with_reducible refine And.intro ?_ ?_) | (exact all_succ (by assumption) (by assumption)) | ((exact wkC_eq rfl (rowS_iv _))) | ((rw [mvQ_r1 hc0 (by assumption) (by assumption) hc])) | ((rw [mvQ_r2 hc0 (by assumption) (by assumption) hc])) | ((simp only [List.length_append, List.length_cons, List.length_nil, Nat.zero_add]; done)))); done)) | (refine Stuck.out ?_)))
 | ((fail_if_success (with_reducible show AW _ _ _ _)); simp (maxSteps := 2000000) only [go_sem, reduceIte, reduceCtorEq, Nat.reduceAdd, Nat.reduceLT, Nat.reduceLeDiff, Nat.reduceEqDiff, Nat.reduceMul, Nat.reduceSub, Nat.reduceBEq, Tryz.f22, ty_26, fnok_46, of_26_2, ty_23, le_23, sl_23, ar_23, ty_67, zc_67, of_67_1, ty_65, fnok_33, of_67_0, ty_3, fnok_55, zc_65, fo_67, pl_67_0, pl_67_1, cellI, intI, accF0, accF1, accF2, accF3, aS, rowS_len, mvQ_0, mvO_0, maxLen])
 | ((fail_if_success (with_reducible show AW _ _ _ _)); simp (disch := omega) only [seaWrap, seaDiv, seaMod])
 | ((with_reducible refine hK _ ?_); clear hK K)
 | (with_reducible apply_assumption -exfalso only [*]))
  all_goals first | (simp [mvR, conE, hc]; done) | (have e : mvR a b = mvO a b b.m := if_pos (by assumption); have e2 : conE a b = 0 := if_pos (by assumption); rw [e, e2]; exact ⟨rowS_iv _, ⟨rfl, fun i o hi ho => rowS_eqv _ i o hi ho⟩, rfl⟩) | (have e : mvR a b = mvO a b b.m := if_pos (by assumption); have e2 : conE a b = 0 := if_pos (by assumption); rw [e, e2]; exact ⟨⟨rfl, fun i o hi ho => rowS_eqv _ i o hi ho⟩, rfl⟩) | skip

end Go.Proofs.YtbckibbgajfihaaGreat
