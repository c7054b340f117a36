/- Hf: walks on abstract states. -/
import Derived.Test.YtbckibbgajfihaaGreatHc
import Derived.Test.YtbckibbgajfihaaGreatHe
import Derived.Test.YtbckibbgajfihaaGreatJ
set_option linter.unusedVariables false
set_option linter.unusedSimpArgs false
namespace Go.Proofs.YtbckibbgajfihaaGreat
open Go.RowKit Go.Sea
theorem fnok_19 : fnOk Tryz.prog 19 = true := by kernel_rfl
theorem fnok_24 : fnOk Tryz.prog 24 = true := by kernel_rfl
theorem fnok_25 : fnOk Tryz.prog 25 = true := by kernel_rfl

theorem rgt_cases (n : Nat) (a : Nat → Acc) (N : NotS) : (rgtE n a N = 1 ∧ rgtV n a N = 0) ∨ (rgtE n a N = 0 ∧ listB n a = true ∧ notB N = true ∧ rgtV n a N = rgV (rgtA n a N) N) := by
  cases hl : listB n a with
  | false => have := rgt_0 (N := N) (Or.inl hl); exact Or.inl ⟨this.2.symm, this.1.symm⟩
  | true =>
    cases hv : notB N with
    | false => have := rgt_0 (n := n) (a := a) (Or.inr hv); exact Or.inl ⟨this.2.symm, this.1.symm⟩
    | true => exact Or.inr ⟨(rgt_t hl hv).2, rfl, rfl, (rgt_t hl hv).1⟩
theorem rgt_ok {n : Nat} {a : Nat → Acc} {N : NotS} (h : rgtE n a N = 0) : listB n a = true ∧ notB N = true ∧ rgtV n a N = rgV (rgtA n a N) N := by
  rcases rgt_cases n a N with g | g
  · omega
  · exact g.2
theorem rgt_err {n : Nat} {a : Nat → Acc} {N : NotS} (h : rgtE n a N ≠ 0) : rgtE n a N = 1 ∧ rgtV n a N = 0 := by
  rcases rgt_cases n a N with g | g
  · exact g
  · omega
theorem own_rgt {n : Nat} {a : Nat → Acc} {N : NotS} (hl : listB n a = true) (hv : notB N = true) {x y : Int} (hp : ptB x y = true) : (ownE n a x y N.fr = 0 ∧ ownV n a x y N.fr = N.oc) ↔ ofV (rgtA n a N) x y = N.oc := by
  have h1 : ownB n a x y N.fr = true := by
    unfold ownB
    rw [hl, (vbox_d x x y y).2 (by have := (ptB_iff _ _).1 hp; omega), decide_eq_true (not_fr hv)]; rfl
  have h2 := (not_oc hv).1
  unfold ownE ownV ownN
  rw [if_pos h1, if_pos h1]
  show _ ↔ ofV (lastA (fN a N.fr n) a) x y = N.oc
  constructor
  · exact fun h => h.2
  · intro h; exact ⟨by rw [if_neg (by omega)], h⟩
theorem ent_s {n : Nat} {a : Nat → Acc} {N : NotS} (hl : listB n a = true) (hv : notB N = true) {o : OpS} (ho : opB o = true) {l : Nat} (h : (l : Int) < namN o) : (entB (rgtA n a N) N.oc o l && ownE n a (namP o l 0) (namP o l 1) N.fr == 0 && ownV n a (namP o l 0) (namP o l 1) N.fr == N.oc) = entB (rgtA n a N) N.oc o (l + 1) := by
  have h1 := own_rgt hl hv (nam_pt ho l (by omega))
  refine Bool.eq_iff_iff.2 ?_
  simp only [Bool.and_eq_true, beq_iff_eq, entB, decide_eq_true_eq]
  constructor
  · rintro ⟨⟨g1, g2⟩, g3⟩; exact all_succ g1 (h1.1 ⟨g2, g3⟩)
  · intro g
    have := h1.2 (g l (by omega))
    exact ⟨⟨fun l' hl' => g l' (by omega), this.1⟩, this.2⟩
theorem ent_0 (A : Acc) (oc : Int) (o : OpS) : entB A oc o 0 = true := decide_eq_true fun l h => absurd h (Nat.not_lt_zero _)
/-- An operation ahead of the one that is named. -/
theorem ent_t {n : Nat} {a : Nat → Acc} {N : NotS} (h : rgtE n a N = 0) {i j l : Nat} (hi : (i : Int) < N.n) (hj : (j : Int) < (N.p i).k) (hai : ∀ i', i' < i → gdI (rgtA n a N) N.oc (N.p i') (N.p i').k) (haj : ∀ j', j' < j → badP (rgtA n a N) N.oc ((N.p i).o j') = false) (hl : (namN ((N.p i).o j) : Int) ≤ l) (hl2 : l ≤ namN ((N.p i).o j)) (hk : ((cnt N.p i : Nat) : Int) + j ≠ rgtV n a N) : entB (rgtA n a N) N.oc ((N.p i).o j) l = true ∧ badP (rgtA n a N) N.oc ((N.p i).o j) = false := by
  have e := ent_bad (A := rgtA n a N) (oc := N.oc) hl hl2
  cases hb : badP (rgtA n a N) N.oc ((N.p i).o j) with
  | false => rw [hb] at e; exact ⟨by simpa using e.symm, rfl⟩
  | true =>
    exfalso
    have := rg_hit (i := i) (j := j) (by omega) (by omega) hai haj hb
    rw [(rgt_ok h).2.2, this] at hk
    omega
/-- The operation that is named. -/
theorem ent_f {n : Nat} {a : Nat → Acc} {N : NotS} (h : rgtE n a N = 0) {i j l : Nat} (hi : (i : Int) < N.n) (hj : (j : Int) < (N.p i).k) (hai : ∀ i', i' < i → gdI (rgtA n a N) N.oc (N.p i') (N.p i').k) (haj : ∀ j', j' < j → badP (rgtA n a N) N.oc ((N.p i).o j') = false) (hl : (namN ((N.p i).o j) : Int) ≤ l) (hl2 : l ≤ namN ((N.p i).o j)) (hk : ((cnt N.p i : Nat) : Int) + j = rgtV n a N) : (!entB (rgtA n a N) N.oc ((N.p i).o j) l) = true := by
  have e := ent_bad (A := rgtA n a N) (oc := N.oc) hl hl2
  rw [← e]
  exact rg_bad (by omega) (by omega) hai haj (by rw [← (rgt_ok h).2.2]; omega)
theorem ent_n {n : Nat} {a : Nat → Acc} {N : NotS} (h : rgtE n a N = 0) {i : Nat} (hi : (N.n : Int) ≤ i) (hai : ∀ i', i' < i → gdI (rgtA n a N) N.oc (N.p i') (N.p i').k) : rgtV n a N = -1 := by
  rw [(rgt_ok h).2.2]; exact rg_none fun i' hi' => hai i' (by omega)

set_option maxRecDepth 100000 in
set_option maxHeartbeats 4000000 in
theorem right_law (n : Nat) (a : Nat → Acc) (N : NotS) (hn : n ≤ 9223372036854775807) (ha : ∀ i, i < n → (a i).m ≤ 9223372036854775807 ∧ (a i).q ≤ 9223372036854775807) (ho : N.Ok) : CallsP Tryz.prog 4 [.one (.lst 4 n (accF a)), .agg [.g (.int .i64 N.oc), .g (.int .i64 N.nu), .g (.int .i64 N.kd), .g (.int .i64 N.fr), .g (.int .i64 N.un), .g (.int .i64 N.ca), .lst 3 N.n (partF N.p)]] (.t (.one (.g (.bool (true))))) := by
  have hnn := ho.n
  refine CallsP_of Tryz.func4 rfl (by rw [Tryz.ntmps4]; simp) ?_
  simp only [Tryz.ntmps4, List.map_cons, List.map_nil, PT.tv, argEnv, Nat.zero_add, Nat.reduceAdd]
  repeat' (first
    | ((with_reducible show AW _ _ _ _); first
      | (with_reducible refine AW_seq_k fun K hK => ?_)
      | (with_reducible refine AW_skip ?_)
      | (with_reducible refine AW_label ?_)
      | (with_reducible refine AW_scope ?_)
      | (with_reducible refine AW_exit ?_)
      | (with_reducible refine AW_ret ?_)
      | (with_reducible refine AW_condI ?_)
      | (with_reducible refine AW_block ?_)
      | ((with_reducible show AW _ (Code.region _ _ _) _ _); first
          | (with_reducible refine AW_regionP 0 [0, 1] ?_)
          | (with_reducible refine AW_regionP 1 [0, 3] ?_)
          | (with_reducible refine AW_regionP 2 [0, 3, 5] ?_)
          | (with_reducible refine AW_regionP 3 [5] ?_)
          | (with_reducible refine AW_regionP 4 [0, 3, 5] ?_)
          | (with_reducible refine AW_regionP 5 [0, 3, 5, 6, 7] ?_)
          | (with_reducible refine AW_regionP 6 [5, 6, 7] ?_)
          | (with_reducible refine AW_regionP 7 [0, 3, 5, 6] ?_)
          | (with_reducible refine AW_regionP 8 [0, 3, 5, 6, 8] ?_)
          | (with_reducible refine AW_regionP 9 [0, 3, 5, 6, 8, 9] ?_)
          | (with_reducible refine AW_regionP 10 [0, 3, 5, 6, 8, 9] ?_)
          | (with_reducible refine AW_regionP 11 [0, 3, 5, 6, 8, 9] ?_)
          | (with_reducible refine AW_regionP 12 [0, 3, 5, 6, 8, 9, 10] ?_)
          | (with_reducible refine AW_regionP 13 [0, 3, 5, 6, 8, 9, 10] ?_)
          | (with_reducible refine AW_regionP 14 [0, 3, 5, 6, 8, 9, 10] ?_)
          | (with_reducible refine AW_regionP 15 [0, 3, 5, 6, 8, 9, 10, 11] ?_)
          | (with_reducible refine AW_regionP 16 [0, 3, 5, 6, 8, 9, 10, 11, 12] ?_)
          | (with_reducible refine AW_regionP 17 [0, 3, 5, 6, 8, 9, 10, 11, 12, 13] ?_)
          | (with_reducible refine AW_regionP 18 [0, 3, 5, 6, 8, 9, 10, 11, 12, 13] ?_)
          | ((with_reducible refine AW_prune (c := Code.region 19 _ true) [0, 3, 5, 6, 8, 9, 10, 11, 12, 13] ?_); (with_reducible refine AW_regionD ?_ ?_ ?_ ?_); (focus kernel_rfl); (focus kernel_rfl); (focus kernel_rfl))
          | (with_reducible refine AW_regionP 20 [0, 3, 5, 6, 8, 9, 10, 11, 12, 13, 14, 15] ?_)
          | (with_reducible refine AW_regionP 21 [0, 3, 5, 6, 8, 9, 10, 11] ?_)
          | (with_reducible refine AW_regionP 22 [5, 11] ?_)
          | (with_reducible refine AW_regionP 23 [0, 3, 5, 6, 8, 9, 10, 11] ?_)
          | (with_reducible refine AW_regionP 24 [0, 3, 5, 6, 8, 9, 10] ?_)
          | (with_reducible refine AW_regionP 25 [5, 6] ?_))
      | ((with_reducible show AW _ (Code.loop _) _ _); first
          | ((with_reducible refine AW_loopQ (c := (Code.seq (Code.seq (Code.region 9 _ _) _) _)) (ι := Nat) [0, 3, 6] (fun i => [(5, bA true), (8, iA .i64 (cnt N.p i : Int)), (9, iA .i64 (i : Int))]) (fun i => []) (fun i => i ≤ N.n ∧ (∀ i', i' < i → gdI (rgtA n a N) N.oc (N.p i') (N.p i').k)) (fun i => N.n - i) 0 ?lg9 ?l19 ?l29 ?li9 ?lr9); (case' lg9 => rintro i _); (case' li9 => try (exact ⟨Nat.zero_le _, fun i hi => absurd hi (Nat.not_lt_zero _)⟩)); (case' lr9 => rintro i ⟨hi, hai⟩ KR hR9; have hv := (rgt_ok hE).2.1; have hl0 := (rgt_ok hE).1; have b1 := cnt_le hv i hi; have b2 := not_n hv; simp only [keepE, hupd, hset, lk, if_true, if_false, Nat.reduceEqDiff, reduceIte, List.cons_append, List.nil_append, cellI, intI, accF0, accF1, accF2, accF3, partF0, partF1, partF2, intI, oprF0, oprF1, oprF2, oprF3, oprF4, oprF5, oprF6, oprF7, oprF8, oprF9, oprF10, oprF11, oprF12, oprF13, oprF14, oprF15, ptI, cnt_s, cnt_z, ent_0]))
          | ((with_reducible refine AW_loopQ (c := (Code.seq (Code.seq (Code.region 12 _ _) _) _)) (ι := Nat) [0, 3, 6, 9] (fun j => [(5, bA true), (8, iA .i64 ((cnt N.p i : Int) + j)), (10, iA .i64 (j : Int))]) (fun j => []) (fun j => j ≤ (N.p i).k ∧ (∀ j', j' < j → badP (rgtA n a N) N.oc ((N.p i).o j') = false)) (fun j => (N.p i).k - j) 0 ?lg12 ?l112 ?l212 ?li12 ?lr12); (case' lg12 => rintro j _); (case' li12 => try (exact ⟨Nat.zero_le _, fun i hi => absurd hi (Nat.not_lt_zero _)⟩)); (case' lr12 => rintro j ⟨hj, haj⟩ KR hR12; have b3 := not_k hv (i := i) (by omega); simp only [keepE, hupd, hset, lk, if_true, if_false, Nat.reduceEqDiff, reduceIte, List.cons_append, List.nil_append, cellI, intI, accF0, accF1, accF2, accF3, partF0, partF1, partF2, intI, oprF0, oprF1, oprF2, oprF3, oprF4, oprF5, oprF6, oprF7, oprF8, oprF9, oprF10, oprF11, oprF12, oprF13, oprF14, oprF15, ptI, cnt_s, cnt_z, ent_0]))
          | ((with_reducible refine AW_loopQ (c := (Code.seq (Code.seq (Code.region 17 _ _) _) _)) (ι := Nat) [0, 3, 5, 6, 8, 9, 10, 12] (fun l => [(11, bA (entB (rgtA n a N) N.oc ((N.p i).o j) l)), (13, iA .i64 (l : Int))]) (fun l => []) (fun l => l ≤ namN ((N.p i).o j)) (fun l => namN ((N.p i).o j) - l) 0 ?lg17 ?l117 ?l217 ?li17 ?lr17); (case' lg17 => rintro l _); (case' li17 => try (first | trivial | omega | (simp; done) | (simp; omega))); (case' lr17 => rintro l hl1 KR hR17; have hno := namN_le ((ho.p i (by omega)).o j (by omega)); have hop := not_op hv (i := i) (j := j) (by omega) (by omega); simp only [keepE, hupd, hset, lk, if_true, if_false, Nat.reduceEqDiff, reduceIte, List.cons_append, List.nil_append, cellI, intI, accF0, accF1, accF2, accF3, partF0, partF1, partF2, intI, oprF0, oprF1, oprF2, oprF3, oprF4, oprF5, oprF6, oprF7, oprF8, oprF9, oprF10, oprF11, oprF12, oprF13, oprF14, oprF15, ptI, cnt_s, cnt_z, ent_0]))))
    | ((first | (with_reducible refine And.intro ?_ ?_) | (with_reducible refine Need.mk ?_)); focus (first | exact True.intro | (with_reducible assumption) | omega | (refine ⟨?_, ?_⟩ <;> omega) | (intro _; first | exact True.intro | (with_reducible assumption) | omega) | (intros; (repeat' (first | exact True.intro | omega | (with_reducible assumption) | (with_reducible refine And.intro ?_ ?_))); done) | (simp (disch := omega) only [Bool.and_eq_true, Bool.or_eq_true, decide_eq_true_eq, bne_iff_ne, ne_eq] at *; first | done | omega | (intros; omega)) | (simp; done) | (simp; omega) | (simp +contextual; done) | (intro h; rw [h]; rfl) | (intro hq; have hq2 := hq; simp only [Bool.and_eq_true, Bool.or_eq_true, Bool.not_eq_true', Bool.not_not, Bool.not_eq_false', decide_eq_true_eq, decide_eq_false_iff_not] at hq2; (repeat' (first | exact hq | (with_reducible refine And.intro ?_ ?_) | omega | (simp_all; done))); done) | (intros; simp_all; done)))
    | (with_reducible refine retK_n ?_)
    | (with_reducible refine retK_n' ?_)
    | (with_reducible refine retH_n rfl rfl rfl ?_)
    | (with_reducible refine retH_n' rfl rfl rfl ?_)
    | (with_reducible refine retO_n ?_ ?_)
    | (with_reducible refine retO_n' ?_ ?_)
    | ((with_reducible show condN _ _ _ _ _ _); first
      | ((with_reducible refine condN_t ?_ ?_) <;> (intro hc; (try simp only [Bool.and_eq_true, Bool.or_eq_true, Bool.not_eq_true', Bool.and_eq_false_iff, Bool.or_eq_false_iff, decide_eq_true_eq, decide_eq_false_iff_not, bne_iff_ne, beq_iff_eq, reduceCtorEq, bne_eq_false_iff_eq, beq_eq_false_iff_ne, Bool.not_eq_false', Int.not_le, Int.not_lt, Bool.not_not] at hc); ((try (have hE : rgtE n a N = 0 := hc))); (try (exfalso; first | contradiction | omega)))))
    | ((with_reducible refine And.intro ?_ ?_); focus ((with_reducible show chkR _ _ _ = true); kernel_rfl))
    | ((with_reducible show callN _ _ _ _ _ _ _ _ _ _); first
      | (refine callN_q (k := 5) fnok_5 (head_p) ?_ ?_)
      | (refine callN_q (k := 6) fnok_6 (few_p n a hn) ?_ ?_)
      | (refine callN_q (k := 19) fnok_19 (Right_p n a N hn ha ho) ?_ ?_)
      | (refine callN_q (k := 25) fnok_25 (rplaces_p _ ((ho.p i (by omega)).o j (by omega))) ?_ ?_))
    | ((with_reducible show callGN _ _ _ _ _ _ _ _ _ _); first
      | (refine callGN_q (k := 24) fnok_24 (fun hg => rLen_p N ho) ?_ ?_))
    | ((with_reducible show callDN _ _ _ _ _ _ _ _ _ _ _ _ _); first
      | (refine callDN_q (k := 11) fnok_11 (owner_p n a _ _ _ hn ha) ?_ ?_))
    | ((with_reducible refine hR9 _ (i + 1) ?_); (try clear hR9 KR))
    | ((with_reducible refine hR12 _ (j + 1) ?_); (try clear hR12 KR))
    | ((with_reducible refine hR17 _ (l + 1) ?_); (try clear hR17 KR))
    | ((with_reducible refine Told.mk ?_); simp only [go_sem, reduceIte, reduceCtorEq, Nat.reduceAdd, Nat.reduceLT, Nat.reduceLeDiff, Nat.reduceEqDiff, Nat.reduceMul, Nat.reduceSub, Nat.reduceBEq, cellI, intI, accF0, accF1, accF2, accF3, partF0, partF1, partF2, intI, oprF0, oprF1, oprF2, oprF3, oprF4, oprF5, oprF6, oprF7, oprF8, oprF9, oprF10, oprF11, oprF12, oprF13, oprF14, oprF15, ptI, cnt_s, cnt_z, ent_0] <;> (first | exact True.intro | (((try simp (disch := omega) only [seaWrap, Int.natCast_add, Int.cast_ofNat_Int, and_true, true_and, and_self]); (repeat' (first | exact True.intro | omega | rfl | (with_reducible assumption) | (with_reducible refine And.intro ?_ ?_) | (exact all_succ (by assumption) (by assumption)) | ((exact all_succ (by assumption) (gdI_e (by assumption) (by assumption)))))); done)) | (((try simp (disch := omega) only [seaWrap, Int.natCast_add, Int.cast_ofNat_Int, and_true, true_and, and_self]); (repeat' (first | exact True.intro | omega | rfl | (with_reducible assumption) | (with_reducible refine And.intro ?_ ?_) | (exact all_succ (by assumption) (by assumption)) | ((exact (ent_t hE (by assumption) (by assumption) hai haj (by assumption) (by assumption) hc).1)) | ((exact all_succ (by assumption) (ent_t hE (by assumption) (by assumption) hai haj (by assumption) (by assumption) hc).2)))); done)) | (((try simp (disch := omega) only [seaWrap, Int.natCast_add, Int.cast_ofNat_Int, and_true, true_and, and_self]); (repeat' (first | exact True.intro | omega | rfl | (with_reducible assumption) | (with_reducible refine And.intro ?_ ?_) | (exact all_succ (by assumption) (by assumption)) | ((exact ent_s hl0 hv hop (by assumption))) | ((exact (ent_s hl0 hv hop (by assumption)).symm)))); done)) | (refine Stuck.out ?_)))
    | ((fail_if_success (with_reducible show AW _ _ _ _)); simp (maxSteps := 2000000) only [go_sem, reduceIte, reduceCtorEq, Nat.reduceAdd, Nat.reduceLT, Nat.reduceLeDiff, Nat.reduceEqDiff, Nat.reduceMul, Nat.reduceSub, Nat.reduceBEq, Tryz.f4, fnok_5, fnok_6, ty_31, fnok_24, fnok_19, of_31_6, ty_29, le_29, sl_29, ar_29, of_52_2, ty_50, le_50, sl_50, ar_50, ty_59, fnok_25, le_53, sl_53, ar_53, ty_28, of_31_3, ty_3, fnok_11, of_31_0, cellI, intI, accF0, accF1, accF2, accF3, partF0, partF1, partF2, intI, oprF0, oprF1, oprF2, oprF3, oprF4, oprF5, oprF6, oprF7, oprF8, oprF9, oprF10, oprF11, oprF12, oprF13, oprF14, oprF15, ptI, cnt_s, cnt_z, ent_0])
    | ((fail_if_success (with_reducible show AW _ _ _ _)); simp (disch := omega) only [seaWrap, seaDiv, seaMod])
    | ((with_reducible refine hK _ ?_); clear hK K)
    | (with_reducible apply_assumption -exfalso only [*]))
  all_goals (first | (exact ent_f hE (by assumption) (by assumption) hai haj (by assumption) (by assumption) hc) | (have e := rgt_err hc; rw [e.1, e.2]; rfl) | (rw [ent_n hE (by assumption) hai]; rfl) | skip)

end Go.Proofs.YtbckibbgajfihaaGreat
