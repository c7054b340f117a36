/- Hc: walks on abstract states. -/
import Derived.Test.YtbckibbgajfihaaGreatHb
set_option linter.unusedVariables false
set_option linter.unusedSimpArgs false
namespace Go.Proofs.YtbckibbgajfihaaGreat
open Go.RowKit Go.Sea
theorem fnok_49 : fnOk Tryz.prog 49 = true := by kernel_rfl
theorem fnok_50 : fnOk Tryz.prog 50 = true := by kernel_rfl
theorem fnok_52 : fnOk Tryz.prog 52 = true := by kernel_rfl

theorem rgt_0 {n : Nat} {a : Nat → Acc} {N : NotS} (h : listB n a = false ∨ notB N = false) : 0 = rgtV n a N ∧ 1 = rgtE n a N := by
  have e : rgtB n a N = false := by unfold rgtB; rcases h with h | h <;> rw [h] <;> simp
  unfold rgtV rgtE; rw [e]; exact ⟨rfl, rfl⟩
theorem rgt_t {n : Nat} {a : Nat → Acc} {N : NotS} (h : listB n a = true) (hv : notB N = true) : rgtV n a N = rgV (rgtA n a N) N ∧ rgtE n a N = 0 := by
  have e : rgtB n a N = true := by unfold rgtB; rw [h, hv]; rfl
  unfold rgtV rgtE; rw [e]; exact ⟨rfl, rfl⟩
theorem rgt_1 {n : Nat} {a : Nat → Acc} {N : NotS} (h : listB n a = true) (hv : notB N = true) {i : Nat} (hi : (N.n : Int) ≤ i) (g : ∀ i', i' < i → gdI (rgtA n a N) N.oc (N.p i') (N.p i').k) : (-1) = rgtV n a N ∧ 0 = rgtE n a N := by
  rw [(rgt_t h hv).1, (rgt_t h hv).2]
  exact ⟨(rg_none fun i' hi' => g i' (by omega)).symm, rfl⟩
theorem rgt_2 {n : Nat} {a : Nat → Acc} {N : NotS} (h : listB n a = true) (hv : notB N = true) {i j l : Nat} (hi : (i : Int) < N.n) (g : ∀ i', i' < i → gdI (rgtA n a N) N.oc (N.p i') (N.p i').k) (hj : (j : Int) < (N.p i).k) (gj : ∀ j', j' < j → badP (rgtA n a N) N.oc ((N.p i).o j') = false) (hl : (l : Int) < namN ((N.p i).o j)) (gl : ofV (rgtA n a N) (namP ((N.p i).o j) l 0) (namP ((N.p i).o j) l 1) ≠ N.oc) : ((cnt N.p i : Nat) : Int) + j = rgtV n a N ∧ 0 = rgtE n a N := by
  rw [(rgt_t h hv).1, (rgt_t h hv).2, rg_hit (i := i) (j := j) (by omega) (by omega) g gj (bad_1 hl gl)]
  exact ⟨by omega, rfl⟩
theorem cnt_s (p : Nat → PartS) (i : Nat) : cnt p (i + 1) = cnt p i + (p i).k := rfl
theorem cnt_z (p : Nat → PartS) : cnt p 0 = 0 := rfl
theorem gdI_e {A : Acc} {oc : Int} {p : PartS} {j : Nat} (hj : (p.k : Int) ≤ j) (g : ∀ j', j' < j → badP A oc (p.o j') = false) : gdI A oc p p.k := fun j' hj' => g j' (by omega)
theorem nam_eq3 {o : OpS} (h : o.kd = 3) : namN o = 1 ∧ ∀ i c, namP o i c = if c = 0 then o.x else o.y := ⟨by unfold namN; rw [if_pos h], fun i c => by unfold namP; rw [if_pos h]⟩
theorem nam_eqA {o : OpS} (h : o.kd = 1) (hp : o.f.kd = 3 ∨ o.f.kd = 6) : namN o = o.f.n ∧ ∀ i c, namP o i c = o.f.P i c := ⟨by unfold namN; rw [if_neg (by omega), if_neg (by omega), if_pos hp], fun i c => by unfold namP; rw [if_neg (by omega), if_neg (by omega), if_pos hp]⟩
theorem nam_eqD {o : OpS} (h : o.kd = 1) (hp : ¬ (o.f.kd = 3 ∨ o.f.kd = 6)) : namN o = 1 ∧ ∀ i c, namP o i c = if c = 0 then o.f.x else o.f.y := ⟨by unfold namN; rw [if_neg (by omega), if_neg (by omega), if_neg hp], fun i c => by unfold namP; rw [if_neg (by omega), if_neg (by omega), if_neg hp]⟩
theorem pt_eqv {P : Nat → Nat → Int} {i c : Nat} {x : Int} (h : P i c = x) : (IV.g (.int .i64 x)).eqv (ptI P i c) := by
  unfold ptI; rw [h]; exact IV.eqv_refl _

set_option maxRecDepth 100000 in
set_option maxHeartbeats 4000000 in
theorem named_p (o : OpS) (ho : o.f.Ok) : CallsP Tryz.prog 52 [.agg [.g (.int .i64 (o.kd)), .g (.int .i64 (o.id)), .g (.int .i64 (o.f.id)), .g (.int .i64 (o.f.kd)), .g (.int .i64 (o.f.x)), .g (.int .i64 (o.f.y)), .g (.int .i64 (o.f.r)), .lst 2 o.f.n (ptI o.f.P), .g (.int .i64 (o.f.d)), .g (.int .i64 (o.f.s)), .lst 6 o.f.m (ptI o.f.S), .g (.int .i64 (o.x)), .g (.int .i64 (o.y)), .g (.int .i64 (o.r)), .g (.int .i64 (o.d)), .g (.int .i64 (o.s))]] (.t (.one (.lst 2 (namN o) (ptI (namP o))))) := by
  refine CallsP_of Tryz.func52 rfl (by rw [Tryz.ntmps52]; simp) ?_
  simp only [Tryz.ntmps52, List.map_cons, List.map_nil, PT.tv, argEnv, Nat.zero_add, Nat.reduceAdd]
  repeat' (first
 | ((with_reducible show AW _ _ _ _); first
 | (with_reducible refine AW_seq_k fun K hK => ?_)
 | (with_reducible refine AW_skip ?_)
 | (with_reducible refine AW_exit ?_)
 | (with_reducible refine AW_ret ?_)
 | (with_reducible refine AW_condI ?_)
 | (with_reducible refine AW_block ?_)
 | ((with_reducible show AW _ (Code.region _ _ _) _ _); first
 | (with_reducible refine AW_regionP 0 [0] ?_)
 | (with_reducible refine AW_regionP 1 [1] ?_)
 | (with_reducible refine AW_regionP 2 [1, 3] ?_)
 | (with_reducible refine AW_regionP 3 [1] ?_)
 | (with_reducible refine AW_regionP 4 [1, 3] ?_)
 | (with_reducible refine AW_regionP 5 [] ?_)
 | (with_reducible refine AW_regionP 6 [3] ?_)
 | (with_reducible refine AW_regionP 7 [3] ?_)
 | (with_reducible refine AW_regionP 8 [3] ?_)))
 | ((first | (with_reducible refine And.intro ?_ ?_) | (with_reducible refine Need.mk ?_)); focus (first | exact True.intro | (with_reducible assumption) | omega | (refine ⟨?_, ?_⟩ <;> omega) | (intro _; first | exact True.intro | (with_reducible assumption) | omega) | (intros; (repeat' (first | exact True.intro | omega | (with_reducible assumption) | (with_reducible refine And.intro ?_ ?_))); done) | (simp (disch := omega) only [Bool.and_eq_true, Bool.or_eq_true, decide_eq_true_eq, bne_iff_ne, ne_eq] at *; first | done | omega | (intros; omega)) | (simp; done) | (simp; omega) | (simp +contextual; done) | (intro h; rw [h]; rfl) | (intro hq; have hq2 := hq; simp only [Bool.and_eq_true, Bool.or_eq_true, Bool.not_eq_true', Bool.not_not, Bool.not_eq_false', decide_eq_true_eq, decide_eq_false_iff_not] at hq2; (repeat' (first | exact hq | (with_reducible refine And.intro ?_ ?_) | omega | (simp_all; done))); done) | (intros; simp_all; done)))
 | (with_reducible refine retK_n ?_)
 | (with_reducible refine retK_n' ?_)
 | (with_reducible refine retH_n rfl rfl rfl ?_)
 | (with_reducible refine retH_n' rfl rfl rfl ?_)
 | ((with_reducible show condN _ _ _ _ _ _); first
 | ((with_reducible refine condN_t ?_ ?_) <;> (intro hc; (try simp only [Bool.and_eq_true, Bool.or_eq_true, Bool.not_eq_true', Bool.and_eq_false_iff, Bool.or_eq_false_iff, decide_eq_true_eq, decide_eq_false_iff_not, bne_iff_ne, beq_iff_eq, reduceCtorEq, bne_eq_false_iff_eq, beq_eq_false_iff_ne, Bool.not_eq_false', Int.not_le, Int.not_lt, Bool.not_not] at hc); (skip); (try (exfalso; first | contradiction | omega)))))
 | ((fail_if_success (with_reducible show AW _ _ _ _)); simp (maxSteps := 2000000) only [go_sem, reduceIte, reduceCtorEq, Nat.reduceAdd, Nat.reduceLT, Nat.reduceLeDiff, Nat.reduceEqDiff, Nat.reduceMul, Nat.reduceSub, Nat.reduceBEq, Tryz.f52, of_59_2, ty_57, zc_57, of_59_0, ty_3, of_59_3, ty_28, sl_53, zc_28, of_57_1, of_57_4, ty_53, of_57_2])
 | ((with_reducible refine hK _ ?_); clear hK K))
  all_goals (first
    | (simp [namN, namP, ptI, *]; done)
    | (refine ⟨(nam_eq3 (by assumption)).1.symm, fun i q hi hq => ?_⟩; obtain rfl : i = 0 := (by omega); rcases q with _ | _ | q; (focus exact pt_eqv ((nam_eq3 (by assumption)).2 0 0)); (focus exact pt_eqv ((nam_eq3 (by assumption)).2 0 1)); omega)
    | (refine ⟨(nam_eqA (by assumption) (by assumption)).1.symm, fun i q hi hq => pt_eqv ((nam_eqA (by assumption) (by assumption)).2 i q)⟩)
    | (refine ⟨(nam_eqD (by assumption) (by omega)).1.symm, fun i q hi hq => ?_⟩; obtain rfl : i = 0 := (by omega); rcases q with _ | _ | q; (focus exact pt_eqv ((nam_eqD (by assumption) (by omega)).2 0 0)); (focus exact pt_eqv ((nam_eqD (by assumption) (by omega)).2 0 1)); omega)
    | skip)

set_option maxRecDepth 100000 in
set_option maxHeartbeats 4000000 in
theorem rplaces_p (o : OpS) (ho : o.f.Ok) : CallsP Tryz.prog 25 [.agg [.g (.int .i64 (o.kd)), .g (.int .i64 (o.id)), .g (.int .i64 (o.f.id)), .g (.int .i64 (o.f.kd)), .g (.int .i64 (o.f.x)), .g (.int .i64 (o.f.y)), .g (.int .i64 (o.f.r)), .lst 2 o.f.n (ptI o.f.P), .g (.int .i64 (o.f.d)), .g (.int .i64 (o.f.s)), .lst 6 o.f.m (ptI o.f.S), .g (.int .i64 (o.x)), .g (.int .i64 (o.y)), .g (.int .i64 (o.r)), .g (.int .i64 (o.d)), .g (.int .i64 (o.s))]] (.t (.one (.lst 2 (namN o) (ptI (namP o))))) := by
  refine CallsP_of Tryz.func25 rfl (by rw [Tryz.ntmps25]; simp) ?_
  simp only [Tryz.ntmps25, List.map_cons, List.map_nil, PT.tv, argEnv, Nat.zero_add, Nat.reduceAdd]
  repeat' (first
 | ((with_reducible show AW _ _ _ _); first
 | (with_reducible refine AW_seq_k fun K hK => ?_)
 | (with_reducible refine AW_skip ?_)
 | (with_reducible refine AW_exit ?_)
 | (with_reducible refine AW_ret ?_)
 | (with_reducible refine AW_condI ?_)
 | (with_reducible refine AW_block ?_)
 | ((with_reducible show AW _ (Code.region _ _ _) _ _); first
 | (with_reducible refine AW_regionP 0 [0] ?_)
 | (with_reducible refine AW_regionP 1 [1] ?_)
 | (with_reducible refine AW_regionP 2 [1] ?_)
 | (with_reducible refine AW_regionP 3 [1] ?_)
 | (with_reducible refine AW_regionP 4 [] ?_)
 | (with_reducible refine AW_regionP 5 [1] ?_)
 | (with_reducible refine AW_regionP 6 [1, 3] ?_)
 | (with_reducible refine AW_regionP 7 [1] ?_)
 | (with_reducible refine AW_regionP 8 [1] ?_)))
 | ((first | (with_reducible refine And.intro ?_ ?_) | (with_reducible refine Need.mk ?_)); focus (first | exact True.intro | (with_reducible assumption) | omega | (refine ⟨?_, ?_⟩ <;> omega) | (intro _; first | exact True.intro | (with_reducible assumption) | omega) | (intros; (repeat' (first | exact True.intro | omega | (with_reducible assumption) | (with_reducible refine And.intro ?_ ?_))); done) | (simp (disch := omega) only [Bool.and_eq_true, Bool.or_eq_true, decide_eq_true_eq, bne_iff_ne, ne_eq] at *; first | done | omega | (intros; omega)) | (simp; done) | (simp; omega) | (simp +contextual; done) | (intro h; rw [h]; rfl) | (intro hq; have hq2 := hq; simp only [Bool.and_eq_true, Bool.or_eq_true, Bool.not_eq_true', Bool.not_not, Bool.not_eq_false', decide_eq_true_eq, decide_eq_false_iff_not] at hq2; (repeat' (first | exact hq | (with_reducible refine And.intro ?_ ?_) | omega | (simp_all; done))); done) | (intros; simp_all; done)))
 | (with_reducible refine retK_n ?_)
 | (with_reducible refine retK_n' ?_)
 | (with_reducible refine retH_n rfl rfl rfl ?_)
 | (with_reducible refine retH_n' rfl rfl rfl ?_)
 | ((with_reducible show condN _ _ _ _ _ _); first
 | ((with_reducible refine condN_t ?_ ?_) <;> (intro hc; (try simp only [Bool.and_eq_true, Bool.or_eq_true, Bool.not_eq_true', Bool.and_eq_false_iff, Bool.or_eq_false_iff, decide_eq_true_eq, decide_eq_false_iff_not, bne_iff_ne, beq_iff_eq, reduceCtorEq, bne_eq_false_iff_eq, beq_eq_false_iff_ne, Bool.not_eq_false', Int.not_le, Int.not_lt, Bool.not_not] at hc); (skip); (try (exfalso; first | contradiction | omega)))))
 | ((with_reducible show callN _ _ _ _ _ _ _ _ _ _); first
 | (refine callN_q (k := 56) fnok_56 (rpolyg_p _) ?_ ?_))
 | ((fail_if_success (with_reducible show AW _ _ _ _)); simp (maxSteps := 2000000) only [go_sem, reduceIte, reduceCtorEq, Nat.reduceAdd, Nat.reduceLT, Nat.reduceLeDiff, Nat.reduceEqDiff, Nat.reduceMul, Nat.reduceSub, Nat.reduceBEq, Tryz.f25, of_59_0, ty_3, of_59_3, ty_28, sl_53, zc_28, of_59_2, of_57_1, fnok_56, of_57_4, ty_53, of_57_2])
 | ((with_reducible refine hK _ ?_); clear hK K))
  all_goals (first
    | (simp [namN, namP, ptI, *]; done)
    | (refine ⟨(nam_eq3 (by assumption)).1.symm, fun i q hi hq => ?_⟩; obtain rfl : i = 0 := (by omega); rcases q with _ | _ | q; (focus exact pt_eqv ((nam_eq3 (by assumption)).2 0 0)); (focus exact pt_eqv ((nam_eq3 (by assumption)).2 0 1)); omega)
    | (refine ⟨(nam_eqA (by assumption) (by assumption)).1.symm, fun i q hi hq => pt_eqv ((nam_eqA (by assumption) (by assumption)).2 i q)⟩)
    | (refine ⟨(nam_eqD (by assumption) (by omega)).1.symm, fun i q hi hq => ?_⟩; obtain rfl : i = 0 := (by omega); rcases q with _ | _ | q; (focus exact pt_eqv ((nam_eqD (by assumption) (by omega)).2 0 0)); (focus exact pt_eqv ((nam_eqD (by assumption) (by omega)).2 0 1)); omega)
    | skip)

set_option maxRecDepth 100000 in
set_option maxHeartbeats 4000000 in
theorem Right_p (n : Nat) (a : Nat → Acc) (N : NotS) (hn : n ≤ 9223372036854775807) (ha : ∀ i, i < n → (a i).m ≤ 9223372036854775807 ∧ (a i).q ≤ 9223372036854775807) (ho : N.Ok) : CallsP Tryz.prog 19 [.one (.lst 4 n (accF a)), .agg [.g (.int .i64 N.oc), .g (.int .i64 N.nu), .g (.int .i64 N.kd), .g (.int .i64 N.fr), .g (.int .i64 N.un), .g (.int .i64 N.ca), .lst 3 N.n (partF N.p)]] (.tup [.one (.g (.int .i64 (rgtV n a N))), .one (.g (.int .i64 (rgtE n a N)))]) := by
  have hnn := ho.n
  refine CallsP_of Tryz.func19 rfl (by rw [Tryz.ntmps19]; simp) ?_
  simp only [Tryz.ntmps19, List.map_cons, List.map_nil, PT.tv, argEnv, Nat.zero_add, Nat.reduceAdd]
  repeat' (first
 | ((with_reducible show AW _ _ _ _); first
 | (with_reducible refine AW_seq_k fun K hK => ?_)
 | (with_reducible refine AW_label ?_)
 | (with_reducible refine AW_scope ?_)
 | (with_reducible refine AW_skip ?_)
 | (with_reducible refine AW_exit ?_)
 | (with_reducible refine AW_ret ?_)
 | (with_reducible refine AW_condI ?_)
 | (with_reducible refine AW_block ?_)
 | ((with_reducible show AW _ (Code.region _ _ _) _ _); first
 | (with_reducible refine AW_regionP 0 [0, 1, 2] ?_)
 | (with_reducible refine AW_regionP (ops := #[⟨some 14, _, _, _, _, _⟩, _, _, _, _, _, _, _]) 1 [0, 3] ?_)
 | (with_reducible refine AW_regionP (ops := #[⟨some 5, _, _, _, _, _⟩, _, _, _, _]) 1 [0, 1] ?_)
 | (with_reducible refine AW_regionP (ops := #[⟨some 6, _, _, _, _, _⟩, _, _]) 1 [0, 1] ?_)
 | ((with_reducible refine AW_prune (c := Code.region 1 _ true) [1, 2, 3] ?_); (with_reducible refine AW_regionD ?_ ?_ ?_ ?_); (focus kernel_rfl); (focus kernel_rfl); (focus kernel_rfl))
 | (with_reducible refine AW_regionP (ops := #[⟨some 4, _, _, _, _, _⟩, _]) 2 [] ?_)
 | (with_reducible refine AW_regionP (ops := #[⟨some 9, _, _, _, _, _⟩]) 2 [0, 1, 7, 8] ?_)
 | (with_reducible refine AW_regionP (ops := #[⟨some 22, _, _, _, _, _⟩, _, _, _, _, _]) 3 [0, 3] ?_)
 | (with_reducible refine AW_regionP (ops := #[⟨some 10, _, _, _, _, _⟩, _]) 3 [0, 1, 7, 8] ?_)
 | (with_reducible refine AW_regionP (ops := #[⟨some 26, _, _, _, _, _⟩, _]) 4 [3, 6] ?_)
 | (with_reducible refine AW_regionP (ops := #[⟨some 11, _, _, _, _, _⟩, _, _, _, _, _]) 4 [0, 1, 5, 7, 8] ?_)
 | (with_reducible refine AW_regionP (ops := #[⟨some 8, _, _, _, _, _⟩]) 5 [3, 7] ?_)
 | (with_reducible refine AW_regionP (ops := #[⟨some 17, _, _, _, _, _⟩, _]) 5 [5] ?_)
 | (with_reducible refine AW_regionP (ops := #[⟨some 9, _, _, _, _, _⟩]) 6 [3, 7, 8] ?_)
 | (with_reducible refine AW_regionP (ops := #[⟨some 18, _, _, _, _, _⟩, _]) 6 [0, 1, 7, 8] ?_)
 | (with_reducible refine AW_regionP (ops := #[⟨some 27, _, _, _, _, _⟩, _, _, _]) 7 [3, 7, 8, 9] ?_)
 | (with_reducible refine AW_regionP (ops := #[⟨some 4, _, _, _, _, _⟩]) 7 [] ?_)
 | (with_reducible refine AW_regionP 8 [7, 8, 9, 28, 29, 30] ?_)
 | (with_reducible refine AW_regionP 9 [7, 8, 9, 28, 29, 30] ?_)
 | (with_reducible refine AW_regionP 10 [7, 8, 9, 11, 28, 29, 30] ?_)
 | (with_reducible refine AW_regionP 11 [7, 8, 9, 28, 29, 30, 35, 36, 37] ?_)
 | (with_reducible refine AW_regionP 12 [7, 8, 9, 28, 29, 30, 35, 36, 37] ?_)
 | (with_reducible refine AW_regionP 13 [7, 8, 9, 13, 28, 29, 30, 35, 36, 37] ?_)
 | (with_reducible refine AW_regionP 14 [8] ?_)
 | (with_reducible refine AW_regionP 15 [7, 8, 9, 28, 29, 30, 35, 36, 37] ?_)
 | (with_reducible refine AW_regionP 16 [7, 8, 9, 28, 29, 30, 35, 36, 37] ?_)
 | (with_reducible refine AW_regionP 17 [7, 8, 9, 28, 29, 30] ?_)
 | (with_reducible refine AW_regionP 18 [9] ?_))
 | ((with_reducible show AW _ (Code.loop _) _ _); first
 | ((with_reducible refine AW_loopQ (c := (Code.seq (Code.region 8 _ _) _)) (ι := Nat) [7, 28, 29] (fun i => [(8, iA .i64 (cnt N.p i : Int)), (9, iA .i64 (-1)), (30, iA .i64 (i : Int))]) (fun i => []) (fun i => i ≤ N.n ∧ (∀ i', i' < i → gdI (rgtA n a N) N.oc (N.p i') (N.p i').k)) (fun i => N.n - i) 0 ?lg8 ?l18 ?l28 ?li8 ?lr8); (case' lg8 => rintro i _); (case' li8 => try (exact ⟨Nat.zero_le _, fun i hi => absurd hi (Nat.not_lt_zero _)⟩)); (case' lr8 => rintro i ⟨hi, hai⟩ KR hR8; have b1 := cnt_le hv i hi; have b2 := not_n hv; simp only [keepE, hupd, hset, lk, if_true, if_false, Nat.reduceEqDiff, reduceIte, List.cons_append, List.nil_append, cellI, intI, accF0, accF1, accF2, accF3, partF0, partF1, partF2, intI, oprF0, oprF1, oprF2, oprF3, oprF4, oprF5, oprF6, oprF7, oprF8, oprF9, oprF10, oprF11, oprF12, oprF13, oprF14, oprF15, ptI, cnt_s, cnt_z, rgtA]))
 | ((with_reducible refine AW_loopQ (c := (Code.seq (Code.region 11 _ _) _)) (ι := Nat) [7, 28, 29, 30, 35, 36] (fun j => [(8, iA .i64 ((cnt N.p i : Int) + j)), (9, iA .i64 (-1)), (37, iA .i64 (j : Int))]) (fun j => []) (fun j => j ≤ (N.p i).k ∧ (∀ j', j' < j → badP (rgtA n a N) N.oc ((N.p i).o j') = false)) (fun j => (N.p i).k - j) 0 ?lg11 ?l111 ?l211 ?li11 ?lr11); (case' lg11 => rintro j _); (case' li11 => try (exact ⟨Nat.zero_le _, fun i hi => absurd hi (Nat.not_lt_zero _)⟩)); (case' lr11 => rintro j ⟨hj, haj⟩ KR hR11; have b3 := not_k hv (i := i) (by omega); simp only [keepE, hupd, hset, lk, if_true, if_false, Nat.reduceEqDiff, reduceIte, List.cons_append, List.nil_append, cellI, intI, accF0, accF1, accF2, accF3, partF0, partF1, partF2, intI, oprF0, oprF1, oprF2, oprF3, oprF4, oprF5, oprF6, oprF7, oprF8, oprF9, oprF10, oprF11, oprF12, oprF13, oprF14, oprF15, ptI, cnt_s, cnt_z, rgtA]))
 | ((with_reducible refine AW_loopQ (c := (Code.seq (Code.region 2 _ _) _)) (ι := Nat) [0, 1, 7] (fun l => [(8, iA .i64 (l : Int))]) (fun l => []) (fun l => l ≤ namN ((N.p i).o j) ∧ (∀ l', l' < l → ofV (rgtA n a N) (namP ((N.p i).o j) l' 0) (namP ((N.p i).o j) l' 1) = N.oc)) (fun l => namN ((N.p i).o j) - l) 0 ?lg2 ?l12 ?l22 ?li2 ?lr2); (case' lg2 => rintro l _); (case' li2 => try (exact ⟨Nat.zero_le _, fun i hi => absurd hi (Nat.not_lt_zero _)⟩)); (case' lr2 => rintro l ⟨hl1, hal⟩ KR hR2; have hno := namN_le ((ho.p i (by omega)).o j (by omega)); simp only [keepE, hupd, hset, lk, if_true, if_false, Nat.reduceEqDiff, reduceIte, List.cons_append, List.nil_append, cellI, intI, accF0, accF1, accF2, accF3, partF0, partF1, partF2, intI, oprF0, oprF1, oprF2, oprF3, oprF4, oprF5, oprF6, oprF7, oprF8, oprF9, oprF10, oprF11, oprF12, oprF13, oprF14, oprF15, ptI, cnt_s, cnt_z, rgtA]))))
 | ((first | (with_reducible refine And.intro ?_ ?_) | (with_reducible refine Need.mk ?_)); focus (first | exact True.intro | (with_reducible assumption) | omega | (refine ⟨?_, ?_⟩ <;> omega) | (intro _; first | exact True.intro | (with_reducible assumption) | omega) | (intros; (repeat' (first | exact True.intro | omega | (with_reducible assumption) | (with_reducible refine And.intro ?_ ?_))); done) | (simp (disch := omega) only [Bool.and_eq_true, Bool.or_eq_true, decide_eq_true_eq, bne_iff_ne, ne_eq] at *; first | done | omega | (intros; omega)) | (simp; done) | (simp; omega) | (simp +contextual; done) | (intro h; rw [h]; rfl) | (intro hq; have hq2 := hq; simp only [Bool.and_eq_true, Bool.or_eq_true, Bool.not_eq_true', Bool.not_not, Bool.not_eq_false', decide_eq_true_eq, decide_eq_false_iff_not] at hq2; (repeat' (first | exact hq | (with_reducible refine And.intro ?_ ?_) | omega | (simp_all; done))); done) | (intros; simp_all; done)))
 | (with_reducible refine retK_n ?_)
 | (with_reducible refine retK_n' ?_)
 | (with_reducible refine retH_n rfl rfl rfl ?_)
 | (with_reducible refine retH_n' rfl rfl rfl ?_)
 | ((with_reducible show condN _ _ _ _ _ _); first
 | ((with_reducible refine condN_t ?_ ?_) <;> (intro hc; (try simp only [Bool.and_eq_true, Bool.or_eq_true, Bool.not_eq_true', Bool.and_eq_false_iff, Bool.or_eq_false_iff, decide_eq_true_eq, decide_eq_false_iff_not, bne_iff_ne, beq_iff_eq, reduceCtorEq, bne_eq_false_iff_eq, beq_eq_false_iff_ne, Bool.not_eq_false', Int.not_le, Int.not_lt, Bool.not_not] at hc); ((try (have hl : listB n a = true := hc.1; have hv : notB N = true := hc.2))); (try (exfalso; first | contradiction | omega)))))
 | ((with_reducible refine And.intro ?_ ?_); focus ((with_reducible show chkR _ _ _ = true); kernel_rfl))
 | ((with_reducible show callN _ _ _ _ _ _ _ _ _ _); first
 | (refine callN_q (k := 9) fnok_9 (list_p n a hn ha) ?_ ?_)
 | (refine callN_q (k := 49) fnok_49 (Not_p N ho) ?_ ?_)
 | (refine callN_q (k := 40) fnok_40 (force_p n a _ hn) ?_ ?_)
 | (refine callN_q (k := 52) fnok_52 (named_p _ ((ho.p i (by omega)).o j (by omega))) ?_ ?_)
 | (refine callN_q (k := 39) fnok_39 (of_p (rgtA n a N) _ _ (last_m ha (fN_le _ _ _)).1) ?_ ?_)
 | ((refine callN_i (k := 51) Tryz.func51 rfl fnok_51 (by rw [Tryz.ntmps51]; simp) ?_ ?_ (fun K hK => ?_)); (focus (first | exact True.intro | (with_reducible assumption) | omega | (refine ⟨?_, ?_⟩ <;> omega) | (intro _; first | exact True.intro | (with_reducible assumption) | omega) | (intros; (repeat' (first | exact True.intro | omega | (with_reducible assumption) | (with_reducible refine And.intro ?_ ?_))); done) | (simp (disch := omega) only [Bool.and_eq_true, Bool.or_eq_true, decide_eq_true_eq, bne_iff_ne, ne_eq] at *; first | done | omega | (intros; omega)) | (simp; done) | (simp; omega) | (simp +contextual; done) | (intro h; rw [h]; rfl) | (intro hq; have hq2 := hq; simp only [Bool.and_eq_true, Bool.or_eq_true, Bool.not_eq_true', Bool.not_not, Bool.not_eq_false', decide_eq_true_eq, decide_eq_false_iff_not] at hq2; (repeat' (first | exact hq | (with_reducible refine And.intro ?_ ?_) | omega | (simp_all; done))); done) | (intros; simp_all; done))); (focus (first | (simp [lsF]; done) | assumption | exact ⟨Nat.ne_of_lt (Nat.lt_succ_self _), by assumption⟩)); simp only [Tryz.ntmps51, List.map_cons, List.map_nil, List.nil_append, List.cons_append, List.append_nil, LV.tv, argEnv, Nat.zero_add, Nat.reduceAdd])
 | ((refine callN_i (k := 71) Tryz.func71 rfl fnok_71 (by rw [Tryz.ntmps71]; simp) ?_ ?_ (fun K hK => ?_)); (focus (first | exact True.intro | (with_reducible assumption) | omega | (refine ⟨?_, ?_⟩ <;> omega) | (intro _; first | exact True.intro | (with_reducible assumption) | omega) | (intros; (repeat' (first | exact True.intro | omega | (with_reducible assumption) | (with_reducible refine And.intro ?_ ?_))); done) | (simp (disch := omega) only [Bool.and_eq_true, Bool.or_eq_true, decide_eq_true_eq, bne_iff_ne, ne_eq] at *; first | done | omega | (intros; omega)) | (simp; done) | (simp; omega) | (simp +contextual; done) | (intro h; rw [h]; rfl) | (intro hq; have hq2 := hq; simp only [Bool.and_eq_true, Bool.or_eq_true, Bool.not_eq_true', Bool.not_not, Bool.not_eq_false', decide_eq_true_eq, decide_eq_false_iff_not] at hq2; (repeat' (first | exact hq | (with_reducible refine And.intro ?_ ?_) | omega | (simp_all; done))); done) | (intros; simp_all; done))); (focus (first | (simp [lsF]; done) | assumption | exact ⟨Nat.ne_of_lt (Nat.lt_succ_self _), by assumption⟩)); simp only [Tryz.ntmps71, List.map_cons, List.map_nil, List.nil_append, List.cons_append, List.append_nil, LV.tv, argEnv, Nat.zero_add, Nat.reduceAdd])
 | ((refine callN_ic (k := 50) Tryz.func50 rfl fnok_50 (by rw [Tryz.ntmps50]; simp) ?_ ?_ (fun K hK => ?_)); (focus (first | exact True.intro | (with_reducible assumption) | omega | (refine ⟨?_, ?_⟩ <;> omega) | (intro _; first | exact True.intro | (with_reducible assumption) | omega) | (intros; (repeat' (first | exact True.intro | omega | (with_reducible assumption) | (with_reducible refine And.intro ?_ ?_))); done) | (simp (disch := omega) only [Bool.and_eq_true, Bool.or_eq_true, decide_eq_true_eq, bne_iff_ne, ne_eq] at *; first | done | omega | (intros; omega)) | (simp; done) | (simp; omega) | (simp +contextual; done) | (intro h; rw [h]; rfl) | (intro hq; have hq2 := hq; simp only [Bool.and_eq_true, Bool.or_eq_true, Bool.not_eq_true', Bool.not_not, Bool.not_eq_false', decide_eq_true_eq, decide_eq_false_iff_not] at hq2; (repeat' (first | exact hq | (with_reducible refine And.intro ?_ ?_) | omega | (simp_all; done))); done) | (intros; simp_all; done))); (focus (first | (simp [lsF]; done) | assumption | exact ⟨Nat.ne_of_lt (Nat.lt_succ_self _), by assumption⟩)); simp only [Tryz.ntmps50, List.map_cons, List.map_nil, List.nil_append, List.cons_append, List.append_nil, LV.tv, argEnv, Nat.zero_add, Nat.reduceAdd]))
 | ((with_reducible show callGN _ _ _ _ _ _ _ _ _ _); first
 | (refine callGN_q (k := 49) fnok_49 (fun hg => Not_p N ho) ?_ ?_))
 | ((with_reducible show callDN _ _ _ _ _ _ _ _ _ _ _ _ _); first
 | (refine callDN_q (k := 39) fnok_39 (of_p (rgtA n a N) _ _ (last_m ha (fN_le _ _ _)).1) ?_ ?_))
 | ((with_reducible refine hR8 _ (i + 1) ?_); (try clear hR8 KR))
 | ((with_reducible refine hR11 _ (j + 1) ?_); (try clear hR11 KR))
 | ((with_reducible refine hR2 _ (l + 1) ?_); (try clear hR2 KR))
 | ((with_reducible refine Told.mk ?_); simp only [go_sem, reduceIte, reduceCtorEq, Nat.reduceAdd, Nat.reduceLT, Nat.reduceLeDiff, Nat.reduceEqDiff, Nat.reduceMul, Nat.reduceSub, Nat.reduceBEq, cellI, intI, accF0, accF1, accF2, accF3, partF0, partF1, partF2, intI, oprF0, oprF1, oprF2, oprF3, oprF4, oprF5, oprF6, oprF7, oprF8, oprF9, oprF10, oprF11, oprF12, oprF13, oprF14, oprF15, ptI, cnt_s, cnt_z, rgtA] <;> (first | exact True.intro | (((try simp (disch := omega) only [seaWrap, Int.natCast_add, Int.cast_ofNat_Int, and_true, true_and, and_self]); (repeat' (first | exact True.intro | omega | rfl | (with_reducible assumption) | (with_reducible refine And.intro ?_ ?_) | (exact all_succ (by assumption) (by assumption)) | ((exact all_succ (by assumption) (gdI_e (by assumption) (by assumption)))))); done)) | (((try simp (disch := omega) only [seaWrap, Int.natCast_add, Int.cast_ofNat_Int, and_true, true_and, and_self]); (repeat' (first | exact True.intro | omega | rfl | (with_reducible assumption) | (with_reducible refine And.intro ?_ ?_) | (exact all_succ (by assumption) (by assumption)) | ((exact all_succ (by assumption) (bad_0 (by assumption) (by assumption)))))); done)) | (((try simp (disch := omega) only [seaWrap, Int.natCast_add, Int.cast_ofNat_Int, and_true, true_and, and_self]); (repeat' (first | exact True.intro | omega | rfl | (with_reducible assumption) | (with_reducible refine And.intro ?_ ?_) | (exact all_succ (by assumption) (by assumption)) )); done)) | (refine Stuck.out ?_)))
 | ((fail_if_success (with_reducible show AW _ _ _ _)); simp (maxSteps := 2000000) only [go_sem, reduceIte, reduceCtorEq, Nat.reduceAdd, Nat.reduceLT, Nat.reduceLeDiff, Nat.reduceEqDiff, Nat.reduceMul, Nat.reduceSub, Nat.reduceBEq, Tryz.f19, Tryz.f51, Tryz.f71, Tryz.f50, fnok_9, ty_31, fnok_49, of_31_3, ty_3, fnok_40, zc_26, ty_26, of_31_6, ty_29, le_29, sl_29, ar_29, ty_52, zc_52, of_52_2, ty_50, le_50, sl_50, ar_50, ty_59, zc_59, fnok_52, fnok_51, fnok_71, le_53, sl_53, ar_53, ty_28, fnok_39, of_31_0, cellI, intI, accF0, accF1, accF2, accF3, partF0, partF1, partF2, intI, oprF0, oprF1, oprF2, oprF3, oprF4, oprF5, oprF6, oprF7, oprF8, oprF9, oprF10, oprF11, oprF12, oprF13, oprF14, oprF15, ptI, cnt_s, cnt_z, rgtA])
 | ((fail_if_success (with_reducible show AW _ _ _ _)); simp (disch := omega) only [seaWrap, seaDiv, seaMod])
 | ((with_reducible refine hK _ ?_); clear hK K)
 | (with_reducible apply_assumption -exfalso only [*]))
  all_goals (first | exact rgt_0 (by assumption) | exact rgt_1 hl hv (by assumption) (by assumption) | exact rgt_2 hl hv (by assumption) hai (by assumption) haj (by assumption) (by assumption) | skip)

end Go.Proofs.YtbckibbgajfihaaGreat
