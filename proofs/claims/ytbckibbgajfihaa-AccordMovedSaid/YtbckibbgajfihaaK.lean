/- K: walks on abstract states. -/
import Derived.Test.YtbckibbgajfihaaJ
set_option linter.unusedVariables false
set_option linter.unusedSimpArgs false
namespace Go.Proofs.Ytbckibbgajfihaa
open Go.RowKit Go.Sea
attribute [local go_sem] callK_N gf gk gdrop lkL setL lsF ltAll rdyL bodyF roundQ roundS loopQ loopS jumpOf inLs yV yA bAV zipPut purgeG List.tail_cons Option.isNone_none Option.isNone_some callGK_f callDK_f callDGK_f retN retHN blockA arun_nil arun_plain arun_guard plainF guardF guardB arunD_nil arunD_plain arunD_guard plainDF guardDF guardDB AS.ent Eff.noApp Eff.tgt ftF AV.refs TV.refs CV.refs LV.refs Op.operands Call.operands List.append_toArray List.push_toArray List.flatMap_cons List.flatMap_nil List.toList_toArray Option.toArray List.reverse_cons List.reverse_nil opF AS.ev constA lk AS.get AV.tv AV.nd AS.eff AS.put argEnv PT.tv PV.av AV.mbOf hset hget TV.cells dstOk thenA gB isB toB TV.bool? TV.int? intF loadF storeF fieldF indexF lenF sliceF optI appF minmaxF ipCells fillF repC partsF lvsF TV.lv LV.tv purgeE purgeC purgeH AV.purge CV.purge AV.has TV.has CV.has LV.has calleeF argsF tvsF toPT toIV toIVs toPTs toPV civ isIv iA bA List.map_cons List.map_nil List.length_nil List.length_cons List.getElem?_cons_zero List.getElem?_cons_succ List.getElem?_nil Option.getD_some Option.getD_none Option.bind_some Option.bind_none List.take_succ_cons List.take_zero List.drop_succ_cons List.drop_zero List.take_nil List.drop_nil List.cons_append List.nil_append List.append_nil List.getD_cons_zero List.getD_cons_succ Option.map_some Option.map_none Option.isSome_some Option.isSome_none List.size_toArray List.any_cons List.any_nil List.mem_cons if_true if_false ite_true ite_false cond_true cond_false Nat.zero_add Nat.add_zero Nat.sub_zero Nat.le_refl Nat.zero_mul Nat.mul_zero Nat.one_mul Nat.mul_one Int.toNat_zero Int.toNat_natCast Bool.or_false Bool.false_or Bool.or_true Bool.true_or Bool.and_true Bool.true_and Bool.and_false Bool.false_and beq_self_eq_true beq_true beq_false Bool.not_true Bool.not_false and_true true_and and_false false_and and_self imp_self Bool.cond_false_right Bool.cond_true_left implies_true forall_const true_implies false_implies Option.some.injEq Prod.mk.injEq ne_eq not_false_eq_true not_true_eq_false eq_self Nat.lt_irrefl Nat.not_lt_zero callDK_t calleeT eqN barOp boF seaMin seaMax seaNat1 seaNat2 Value.bool.injEq Value.int.injEq srcF lstC TV.dp IV.eqv PT.eqv PV.eqv All2 keepE hupd callZ_N AS.frz AS.frzW frzs frzsOk frzOk frzE frzA frzT frzC frzG frzH hdel cmpS eqF eqC gvs eqVs eqV decide_true resF tupA inlQ okL okGL okG nextL wkH wkC wkV nilA nilC AV.ok TV.ok CV.ok LV.ok okB forall_eq_or_imp forall_eq List.not_mem_nil List.mem_singleton true_or or_true or_false false_or or_self exists_prop AV.t.injEq TV.one.injEq CV.iv.injEq IV.g.injEq TV.agg.injEq List.cons.injEq
theorem bo_4 : boD Try.prog 4 = true := by kernel_rfl
theorem fnok_10 : fnOk Try.prog 10 = true := by kernel_rfl
theorem fnok_12 : fnOk Try.prog 12 = true := by kernel_rfl
theorem fnok_13 : fnOk Try.prog 13 = true := by kernel_rfl
theorem fnok_9 : fnOk Try.prog 9 = true := by kernel_rfl

theorem at_eq (a : Nat → Acc) (t : Int) : ∀ k, atA a t k = lastA (fN a t k) a
  | 0 => rfl
  | k + 1 => by
    simp only [atA, fN]
    by_cases h : (a k).frm ≤ t
    · rw [if_pos h, if_neg (by omega)]; simp [lastA]
    · rw [if_neg h, if_pos (by omega)]; exact at_eq a t k
theorem fN_eq {a : Nat → Acc} {t u : Int} : ∀ k, (∀ i, i < k → ¬ (min t u < (a i).frm ∧ (a i).frm ≤ max t u)) → fN a t k = fN a u k
  | 0, _ => rfl
  | k + 1, h => by
    have h0 := h k (by omega)
    have ih := fN_eq (a := a) (t := t) (u := u) k fun i hi => h i (by omega)
    simp only [fN]
    by_cases h1 : t < (a k).frm
    · rw [if_pos h1, if_pos (by omega)]; exact ih
    · rw [if_neg h1, if_neg (by omega)]
theorem of_ge {sh : Nat → Nat → Int} {x y : Int} : ∀ k, (∀ i, i < k → 1 ≤ sh i 0 ∧ sh i 0 ≤ 20) → ∀ i, i < k → hasB (sh i 1) (sh i 2) (sh i 3) (sh i 4) x y = true → 0 < ofF sh x y k ∧ ofF sh x y k ≤ sh i 0
  | 0, _, i, hi, _ => absurd hi (Nat.not_lt_zero _)
  | k + 1, hb, i, hi, hh => by
    have b0 := ofF_bd (sh := sh) (x := x) (y := y) k fun j hj => hb j (by omega)
    have bk := hb k (by omega)
    simp only [ofF]
    rcases Nat.lt_or_ge i k with h1 | h1
    · have ih := of_ge k (fun j hj => hb j (by omega)) i h1 hh
      split
      · rename_i h; omega
      · exact ih
    · obtain rfl : i = k := by omega
      by_cases h : hasB (sh i 1) (sh i 2) (sh i 3) (sh i 4) x y = true ∧ (ofF sh x y i = 0 ∨ sh i 0 < ofF sh x y i)
      · rw [if_pos h]; omega
      · rw [if_neg h]
        have : ¬ (ofF sh x y i = 0 ∨ sh i 0 < ofF sh x y i) := fun h' => h ⟨hh, h'⟩
        omega
theorem of_ex {sh : Nat → Nat → Int} {x y : Int} : ∀ k, ofF sh x y k ≠ 0 → ∃ i, i < k ∧ hasB (sh i 1) (sh i 2) (sh i 3) (sh i 4) x y = true ∧ sh i 0 = ofF sh x y k
  | 0, h => absurd rfl h
  | k + 1, h => by
    simp only [ofF] at h ⊢
    by_cases h1 : hasB (sh k 1) (sh k 2) (sh k 3) (sh k 4) x y = true ∧ (ofF sh x y k = 0 ∨ sh k 0 < ofF sh x y k)
    · rw [if_pos h1]; exact ⟨k, by omega, h1.1, rfl⟩
    · rw [if_neg h1] at h ⊢
      obtain ⟨i, h2, h3⟩ := of_ex k h
      exact ⟨i, by omega, h3⟩
theorem ow_f {n : Nat} {a : Nat → Acc} {x y t u : Int} (ht : ownE n a x y t ≠ 1) (hu : ownE n a x y u ≠ 1) (h : fN a t n = fN a u n) : ownV n a x y t = ownV n a x y u ∧ ownE n a x y t = ownE n a x y u := by
  have h1 : ownB n a x y t = true := by
    cases hb : ownB n a x y t with
    | true => rfl
    | false => unfold ownE at ht; rw [hb] at ht; simp at ht
  have h2 : ownB n a x y u = true := by
    cases hb : ownB n a x y u with
    | true => rfl
    | false => unfold ownE at hu; rw [hb] at hu; simp at hu
  unfold ownV ownE ownN
  rw [h1, h2, h]
  exact ⟨rfl, rfl⟩

set_option maxRecDepth 100000 in
set_option maxHeartbeats 4000000 in
theorem force_law (n : Nat) (a : Nat → Acc) (x y t u : Int) (hn : n ≤ 9223372036854775807) (ha : ∀ i, i < n → (a i).m ≤ 9223372036854775807 ∧ (a i).q ≤ 9223372036854775807) : CallsP Try.prog 8 [.one (.lst 4 n (accF a)), .agg [.g (.int .i64 (x)), .g (.int .i64 (y))], .one (.g (.int .i64 (t))), .one (.g (.int .i64 (u)))] (.t (.one (.g (.bool (true))))) := by
  refine CallsP_of Try.func8 rfl (by rw [Try.ntmps8]; simp) ?_
  simp only [Try.ntmps8, List.map_cons, List.map_nil, PT.tv, argEnv, Nat.zero_add, Nat.reduceAdd]
  repeat' (first
    | (with_reducible refine AW_seq_k fun K hK => ?_)
    | ((first | (with_reducible refine And.intro ?_ ?_) | (with_reducible refine Need.mk ?_)); focus (first | exact True.intro | (with_reducible assumption) | omega | (refine ⟨?_, ?_⟩ <;> omega) | (intro _; first | exact True.intro | (with_reducible assumption) | omega) | (intros; (repeat' (first | exact True.intro | omega | (with_reducible assumption) | (with_reducible refine And.intro ?_ ?_))); done) | (simp (disch := omega) only [Bool.and_eq_true, Bool.or_eq_true, decide_eq_true_eq, bne_iff_ne, ne_eq] at *; first | done | omega | (intros; omega)) | (simp; done) | (simp; omega) | (simp +contextual; done) | (intro h; rw [h]; rfl) | (intros; simp_all; done)))
    | (with_reducible refine AW_skip ?_)
    | (with_reducible refine AW_exit ?_)
    | (with_reducible refine AW_ret ?_)
    | (with_reducible refine retK_n ?_)
    | (with_reducible refine retK_n' ?_)
    | (with_reducible refine retH_n rfl rfl rfl ?_)
    | (with_reducible refine retH_n' rfl rfl rfl ?_)
    | (with_reducible refine AW_condI ?_)
    | (with_reducible refine AW_block ?_)
    | ((with_reducible refine condN_t ?_ ?_) <;> (intro hc; (try simp only [Bool.and_eq_true, Bool.or_eq_true, Bool.not_eq_true', Bool.and_eq_false_iff, Bool.or_eq_false_iff, decide_eq_true_eq, decide_eq_false_iff_not, bne_iff_ne, beq_iff_eq, reduceCtorEq, bne_eq_false_iff_eq, beq_eq_false_iff_ne, Bool.not_eq_false', Int.not_le, Int.not_lt, Bool.not_not] at hc); (skip); (try (exfalso; first | contradiction | omega))))
    | (with_reducible refine AW_regionP 0 [0, 1, 2, 3] ?_)
    | (with_reducible refine AW_regionP 1 [0, 2, 3, 5] ?_)
    | (with_reducible refine AW_regionP 2 [0, 2, 3, 5, 9] ?_)
    | (with_reducible refine AW_regionP 3 [9] ?_)
    | (with_reducible refine AW_regionP 4 [0, 2, 3, 5, 9] ?_)
    | (with_reducible refine AW_regionP 5 [0, 2, 3, 5, 9, 10, 11] ?_)
    | (with_reducible refine AW_regionP 6 [0, 2, 3, 9, 10, 11, 12, 13] ?_)
    | (with_reducible refine AW_regionP 7 [9] ?_)
    | (with_reducible refine AW_regionP 8 [0, 2, 3, 9, 10, 11, 12, 13] ?_)
    | (with_reducible refine AW_regionP 9 [0, 2, 3, 9, 10, 11, 12, 13, 14] ?_)
    | (with_reducible refine AW_regionP 10 [0, 2, 3, 9, 10, 11, 12, 13, 14] ?_)
    | (with_reducible refine AW_regionP 11 [0, 2, 3, 9, 10, 11, 12, 13, 14] ?_)
    | (with_reducible refine AW_regionP 12 [9] ?_)
    | (with_reducible refine AW_regionP 13 [9, 10, 11, 12, 13] ?_)
    | (refine callN_q (k := 9) fnok_9 (head_p) ?_ ?_)
    | (refine callN_q (k := 10) fnok_10 (few_p n a hn) ?_ ?_)
    | (refine callN_q (k := 11) fnok_11 (owner_p n a _ _ _ hn ha) ?_ ?_)
    | ((with_reducible refine AW_loopQ (c := (Code.seq (Code.seq (Code.region 9 _ _) _) _)) (ι := Nat) [0, 2, 3, 9, 10, 11, 12, 13] (fun k => [(14, iA .i64 (k : Int))]) (fun k => []) (fun k => k ≤ n ∧ (∀ i, i < k → ¬ (min t u < (a i).frm ∧ (a i).frm ≤ max t u))) (fun k => n - k) 0 ?lg9 ?l19 ?l29 ?li9 ?lr9); (case' lg9 => rintro k _); (case' li9 => try (exact ⟨Nat.zero_le _, fun i hi => absurd hi (Nat.not_lt_zero _)⟩)); (case' lr9 => rintro k ⟨h1, h2⟩ KR hR9; skip; simp only [keepE, hupd, hset, lk, if_true, if_false, Nat.reduceEqDiff, reduceIte, List.cons_append, List.nil_append, cellI, intI, accF0, accF1, accF2, accF3]))
    | ((with_reducible refine hR9 _ (k + 1) ?_); (try clear hR9 KR))
    | ((with_reducible refine Told.mk ?_); simp only [go_sem, reduceIte, reduceCtorEq, Nat.reduceAdd, Nat.reduceLT, Nat.reduceLeDiff, Nat.reduceEqDiff, Nat.reduceMul, Nat.reduceSub, Nat.reduceBEq, cellI, intI, accF0, accF1, accF2, accF3] <;> (first | exact True.intro | (((try simp (disch := omega) only [seaWrap, Int.natCast_add, Int.cast_ofNat_Int, and_true, true_and, and_self]); (repeat' (first | exact True.intro | omega | rfl | (with_reducible assumption) | (with_reducible refine And.intro ?_ ?_) | (exact all_succ (by assumption) (by assumption)) | (exact all_succ (by assumption) (by omega)))); done)) | (refine Stuck.out ?_)))
    | ((fail_if_success (with_reducible show AW _ _ _ _)); simp (maxSteps := 2000000) only [go_sem, reduceIte, reduceCtorEq, Nat.reduceAdd, Nat.reduceLT, Nat.reduceLeDiff, Nat.reduceEqDiff, Nat.reduceMul, Nat.reduceSub, Nat.reduceBEq, Try.f8, fnok_9, fnok_10, ty_24, fnok_11, le_22, sl_22, ar_22, of_33_1, ty_3, cellI, intI, accF0, accF1, accF2, accF3])
    | ((fail_if_success (with_reducible show AW _ _ _ _)); simp (disch := omega) only [seaWrap, seaDiv, seaMod])
    | ((with_reducible refine hK _ ?_); clear hK K)
    | (with_reducible apply_assumption -exfalso only [*]))
  all_goals (have e := ow_f (by assumption : ownE n a x y t ≠ 1 ∧ ownE n a x y u ≠ 1).1 (by assumption : ownE n a x y t ≠ 1 ∧ ownE n a x y u ≠ 1).2 (fN_eq n fun i hi => h2 i (by omega)); simp [e.1, e.2])

theorem in_clash {a : Acc} (hv : valB a = true) {x y : Int} {i j : Nat} (hi : i < a.m) (hj : j < a.m) (h1 : inB (a.sh i 1) (a.sh i 2) (a.sh i 3) (a.sh i 4) x y = true) (h2 : hasB (a.sh j 1) (a.sh j 2) (a.sh j 3) (a.sh j 4) x y = true) : a.sh i 0 = a.sh j 0 := by
  have hv' := of_decide_eq_true hv
  have si := of_decide_eq_true (hv'.2.1 i hi).1
  have sj := of_decide_eq_true (hv'.2.1 j hj).1
  have h1' := of_decide_eq_true h1
  have h2' := of_decide_eq_true h2
  have vb : ∀ p q r s : Int, (-1000000 ≤ p ∧ p < q ∧ q ≤ 1000000) → (-1000000 ≤ r ∧ r < s ∧ s ≤ 1000000) → vbox p q r s = true := fun p q r s h h' => by
    unfold vbox; simp only [Bool.and_eq_true, decide_eq_true_eq]; omega
  refine Classical.byContradiction fun hne => ?_
  have key : ∀ p q : Nat, q < p → p < a.m → a.sh p 0 ≠ a.sh q 0 → (max (a.sh p 1) (a.sh q 1) < min (a.sh p 2) (a.sh q 2) ∧ max (a.sh p 3) (a.sh q 3) < min (a.sh p 4) (a.sh q 4)) → False := fun p q hqp hp hne' hm => by
    have sp := of_decide_eq_true (hv'.2.1 p hp).1
    have sq := of_decide_eq_true (hv'.2.1 q (by omega)).1
    have := (hv'.2.1 p hp).2 q hqp
    unfold clB insB at this
    rw [vb _ _ _ _ sp.2.1 sp.2.2, vb _ _ _ _ sq.2.1 sq.2.2, decide_eq_true hne', decide_eq_true hm] at this
    cases this
  rcases Nat.lt_trichotomy i j with h | h | h
  · exact key j i h hj (Ne.symm hne) (by omega)
  · subst h; exact hne rfl
  · exact key i j h hi hne (by omega)

theorem own_e {n : Nat} {a : Nat → Acc} {x y t : Int} (h : ownE n a x y t ≠ 1) : ownB n a x y t = true ∧ ownV n a x y t = ofV (atA a t n) x y ∧ (ownV n a x y t = 0 ↔ ownE n a x y t = 4) := by
  have h1 : ownB n a x y t = true := by
    cases hb : ownB n a x y t with
    | true => rfl
    | false => unfold ownE at h; rw [hb] at h; simp at h
  refine ⟨h1, ?_, ?_⟩
  · unfold ownV ownN; rw [h1, at_eq]; rfl
  · unfold ownV ownE; rw [h1]
    by_cases h2 : ownN n a x y t = 0 <;> simp [h2]
theorem at_val {n : Nat} {a : Nat → Acc} {x y t : Int} (h : ownB n a x y t = true) : (atA a t n).m = 0 ∨ valB (atA a t n) = true := by
  simp only [ownB, Bool.and_eq_true] at h
  have hl := list_all h.1.1
  rw [at_eq]
  unfold lastA
  by_cases h0 : fN a t n = 0
  · left; rw [if_pos h0]; rfl
  · right; rw [if_neg h0]
    have := fN_le a t n
    exact (fol_0 (hl.2 (fN a t n - 1) (by omega))).1
theorem own_facts {n : Nat} {a : Nat → Acc} {x y t : Int} (h : ownE n a x y t ≠ 1) :
    (∀ i, i < (atA a t n).m → (hasB ((atA a t n).sh i 1) ((atA a t n).sh i 2) ((atA a t n).sh i 3) ((atA a t n).sh i 4) x y = true → 0 < ownV n a x y t ∧ ownV n a x y t ≤ (atA a t n).sh i 0) ∧
      (inB ((atA a t n).sh i 1) ((atA a t n).sh i 2) ((atA a t n).sh i 3) ((atA a t n).sh i 4) x y = true → ownV n a x y t = (atA a t n).sh i 0)) ∧
    (ownV n a x y t ≠ 0 → ∃ i, i < (atA a t n).m ∧ hasB ((atA a t n).sh i 1) ((atA a t n).sh i 2) ((atA a t n).sh i 3) ((atA a t n).sh i 4) x y = true ∧ (atA a t n).sh i 0 = ownV n a x y t) := by
  obtain ⟨h1, h2, h3⟩ := own_e h
  rw [h2]
  have hv := at_val h1
  generalize atA a t n = F at hv
  rcases hv with hv | hv
  · exact ⟨fun i hi => by omega, fun h' => by (unfold ofV at h'; rw [hv] at h'; exact absurd rfl h')⟩
  · have hb : ∀ i, i < F.m → 1 ≤ F.sh i 0 ∧ F.sh i 0 ≤ 20 := fun i hi => (of_decide_eq_true ((of_decide_eq_true hv).2.1 i hi).1).1
    have ge := fun i hi hh => of_ge (x := x) (y := y) F.m hb i hi hh
    have ex := of_ex (sh := F.sh) (x := x) (y := y) F.m
    refine ⟨fun i hi => ⟨ge i hi, fun hin => ?_⟩, ex⟩
    have hh : hasB (F.sh i 1) (F.sh i 2) (F.sh i 3) (F.sh i 4) x y = true := by
      have := of_decide_eq_true hin
      unfold hasB; exact decide_eq_true (by omega)
    have g := ge i hi hh
    obtain ⟨j, hj, hj1, hj2⟩ := ex (by omega)
    have := in_clash hv hi hj hin hj1
    show ofF F.sh x y F.m = F.sh i 0
    omega
def fndK (n : Nat) (a : Nat → Acc) (x y t : Int) (k : Nat) : Bool := decide (ownV n a x y t = 0 ∨ ∃ i, i < k ∧ hasB ((atA a t n).sh i 1) ((atA a t n).sh i 2) ((atA a t n).sh i 3) ((atA a t n).sh i 4) x y = true ∧ (atA a t n).sh i 0 = ownV n a x y t)
theorem ow_up {V o : Int} {p q : Bool} (h1 : p = true → 0 < V ∧ V ≤ o) (h2 : q = true → V = o) : ((!p || decide (V > 0) && decide (V ≤ o)) && (!q || V == o)) = true := by
  rw [Bool.and_eq_true]
  constructor
  · cases p with
    | false => rfl
    | true => have := h1 rfl; simp; omega
  · cases q with
    | false => rfl
    | true => have := h2 rfl; simp; omega
theorem fnd_s (n : Nat) (a : Nat → Acc) (x y t : Int) (k : Nat) : (fndK n a x y t k || hasB ((atA a t n).sh k 1) ((atA a t n).sh k 2) ((atA a t n).sh k 3) ((atA a t n).sh k 4) x y && (atA a t n).sh k 0 == ownV n a x y t) = fndK n a x y t (k + 1) := by
  rw [Bool.eq_iff_iff]
  simp only [fndK, Bool.or_eq_true, Bool.and_eq_true, decide_eq_true_eq, beq_iff_eq]
  constructor
  · rintro ((h | ⟨i, hi, h⟩) | h)
    · exact Or.inl h
    · exact Or.inr ⟨i, by omega, h⟩
    · exact Or.inr ⟨k, by omega, h⟩
  · rintro (h | ⟨i, hi, h⟩)
    · exact Or.inl (Or.inl h)
    · rcases Nat.lt_or_ge i k with h1 | h1
      · exact Or.inl (Or.inr ⟨i, h1, h⟩)
      · obtain rfl : i = k := by omega
        exact Or.inr h
theorem fnd_0 (n : Nat) (a : Nat → Acc) (x y t : Int) : (ownV n a x y t == 0) = fndK n a x y t 0 := by
  rw [Bool.eq_iff_iff]
  simp [fndK]
theorem fnd_e {n : Nat} {a : Nat → Acc} {x y t : Int} {k : Nat} (hE : ownE n a x y t ≠ 1) (hk : ((atA a t n).m : Int) ≤ k) : (fndK n a x y t k && (ownV n a x y t == 0) == (ownE n a x y t == 4)) = true := by
  have e : ((ownV n a x y t == 0) == (ownE n a x y t == 4)) = true := by
    rw [beq_iff_eq, Bool.eq_iff_iff, beq_iff_eq, beq_iff_eq]
    exact (own_e hE).2.2
  have f : fndK n a x y t k = true := by
    refine decide_eq_true ?_
    by_cases h0 : ownV n a x y t = 0
    · exact Or.inl h0
    · obtain ⟨i, hi, h⟩ := (own_facts hE).2 h0
      exact Or.inr ⟨i, by omega, h⟩
  rw [f, e]; rfl
theorem ow_1 {n : Nat} {a : Nat → Acc} {x y t : Int} (h : ownE n a x y t = 1) : (ownV n a x y t == 0) = true := by
  rw [beq_iff_eq]
  unfold ownE at h; unfold ownV
  by_cases hb : ownB n a x y t = true
  · rw [if_pos hb] at h; split at h <;> omega
  · rw [if_neg hb]

set_option maxRecDepth 100000 in
set_option maxHeartbeats 4000000 in
theorem owner_law (n : Nat) (a : Nat → Acc) (x y t : Int) (hn : n ≤ 9223372036854775807) (ha : ∀ i, i < n → (a i).m ≤ 9223372036854775807 ∧ (a i).q ≤ 9223372036854775807) (hat : (atA a t n).m ≤ 9223372036854775807) : CallsP Try.prog 3 [.one (.lst 4 n (accF a)), .agg [.g (.int .i64 (x)), .g (.int .i64 (y))], .one (.g (.int .i64 (t)))] (.t (.one (.g (.bool (true))))) := by
  refine CallsP_of Try.func3 rfl (by rw [Try.ntmps3]; simp) ?_
  simp only [Try.ntmps3, List.map_cons, List.map_nil, PT.tv, argEnv, Nat.zero_add, Nat.reduceAdd]
  repeat' (first
    | (with_reducible refine AW_seq_k fun K hK => ?_)
    | ((first | (with_reducible refine And.intro ?_ ?_) | (with_reducible refine Need.mk ?_)); focus (first | exact True.intro | (with_reducible assumption) | omega | (refine ⟨?_, ?_⟩ <;> omega) | (intro _; first | exact True.intro | (with_reducible assumption) | omega) | (intros; (repeat' (first | exact True.intro | omega | (with_reducible assumption) | (with_reducible refine And.intro ?_ ?_))); done) | (simp (disch := omega) only [Bool.and_eq_true, Bool.or_eq_true, decide_eq_true_eq, bne_iff_ne, ne_eq] at *; first | done | omega | (intros; omega)) | (simp; done) | (simp; omega) | (simp +contextual; done) | (intro h; rw [h]; rfl) | (intros; simp_all; done)))
    | (with_reducible refine AW_skip ?_)
    | (with_reducible refine AW_exit ?_)
    | (with_reducible refine AW_ret ?_)
    | (with_reducible refine retK_n ?_)
    | (with_reducible refine retK_n' ?_)
    | (with_reducible refine retH_n rfl rfl rfl ?_)
    | (with_reducible refine retH_n' rfl rfl rfl ?_)
    | (with_reducible refine AW_condI ?_)
    | (with_reducible refine AW_block ?_)
    | ((with_reducible refine condN_t ?_ ?_) <;> (intro hc; (try simp only [Bool.and_eq_true, Bool.or_eq_true, Bool.not_eq_true', Bool.and_eq_false_iff, Bool.or_eq_false_iff, decide_eq_true_eq, decide_eq_false_iff_not, bne_iff_ne, beq_iff_eq, reduceCtorEq, bne_eq_false_iff_eq, beq_eq_false_iff_ne, Bool.not_eq_false', Int.not_le, Int.not_lt, Bool.not_not] at hc); (try have hE : ownE n a x y t ≠ 1 := hc); (try (exfalso; first | contradiction | omega))))
    | (with_reducible refine AW_regionP 0 [0, 1, 2] ?_)
    | (with_reducible refine AW_regionP 1 [0, 2, 4] ?_)
    | (with_reducible refine AW_regionP 2 [0, 2, 4, 7] ?_)
    | (with_reducible refine AW_regionP 3 [7] ?_)
    | (with_reducible refine AW_regionP 4 [0, 2, 4, 7] ?_)
    | (with_reducible refine AW_regionP 5 [0, 2, 4, 7, 8, 9] ?_)
    | (with_reducible refine AW_regionP 6 [7, 8] ?_)
    | (with_reducible refine AW_regionP 7 [0, 2, 4, 7, 8, 9] ?_)
    | (with_reducible refine AW_regionP 8 [4, 7, 8, 9, 10] ?_)
    | (with_reducible refine AW_regionP 9 [4, 7, 8, 9, 10, 11] ?_)
    | (with_reducible refine AW_regionP 10 [4, 7, 8, 9, 10, 11, 12] ?_)
    | (with_reducible refine AW_regionP 11 [4, 7, 8, 9, 10, 11, 12] ?_)
    | ((with_reducible refine AW_prune (c := Code.region 12 _ true) [4, 7, 8, 9, 10, 11, 12] ?_); (with_reducible refine AW_regionD ?_ ?_ ?_ ?_); (focus kernel_rfl); (focus kernel_rfl); (focus kernel_rfl))
    | (with_reducible refine AW_regionP 13 [4, 7, 8, 9, 10, 11, 12, 13, 14] ?_)
    | (with_reducible refine AW_regionP 14 [4, 7, 8, 9, 10, 11, 12, 13, 14] ?_)
    | (with_reducible refine AW_regionP 15 [7, 8, 9, 11] ?_)
    | ((with_reducible refine And.intro ?_ ?_); focus ((with_reducible show chkR _ _ _ = true); kernel_rfl))
    | (refine callN_q (k := 9) fnok_9 (head_p) ?_ ?_)
    | (refine callN_q (k := 10) fnok_10 (few_p n a hn) ?_ ?_)
    | (refine callN_q (k := 11) fnok_11 (owner_p n a _ _ _ hn ha) ?_ ?_)
    | (refine callN_q (k := 12) fnok_12 (at_p n a t hn) ?_ ?_)
    | (refine callDN_q (k := 13) fnok_13 (in_p _ _ _ _ _ _) ?_ ?_)
    | ((with_reducible refine AW_loopQ (c := (Code.seq (Code.seq (Code.region 10 _ _) _) _)) (ι := Nat) [4, 8, 9, 10] (fun k => [(7, bA true), (11, bA (fndK n a x y t k)), (12, iA .i64 (k : Int))]) (fun k => []) (fun k => k ≤ (atA a t n).m) (fun k => (atA a t n).m - k) 0 ?lg10 ?l110 ?l210 ?li10 ?lr10); (case' lg10 => rintro k _); (case' li10 => try (first | trivial | omega | (simp; done) | (simp; omega))); (case' lr10 => rintro k hk KR hR10; skip; simp only [keepE, hupd, hset, lk, if_true, if_false, Nat.reduceEqDiff, reduceIte, List.cons_append, List.nil_append, cellI, intI, accF0, accF1, accF2, accF3]))
    | ((with_reducible refine hR10 _ (k + 1) ?_); (try clear hR10 KR))
    | ((with_reducible refine Told.mk ?_); simp only [go_sem, reduceIte, reduceCtorEq, Nat.reduceAdd, Nat.reduceLT, Nat.reduceLeDiff, Nat.reduceEqDiff, Nat.reduceMul, Nat.reduceSub, Nat.reduceBEq, cellI, intI, accF0, accF1, accF2, accF3] <;> (first | exact True.intro | (((try simp (disch := omega) only [seaWrap, Int.natCast_add, Int.cast_ofNat_Int, and_true, true_and, and_self]); (repeat' (first | exact True.intro | omega | rfl | (with_reducible assumption) | (with_reducible refine And.intro ?_ ?_) | (exact all_succ (by assumption) (by assumption)) | (exact ow_up ((own_facts hE).1 k (by omega)).1 ((own_facts hE).1 k (by omega)).2) | (exact fnd_s _ _ _ _ _ _) | (exact fnd_0 _ _ _ _ _))); done)) | (refine Stuck.out ?_)))
    | ((fail_if_success (with_reducible show AW _ _ _ _)); simp (maxSteps := 2000000) only [go_sem, reduceIte, reduceCtorEq, Nat.reduceAdd, Nat.reduceLT, Nat.reduceLeDiff, Nat.reduceEqDiff, Nat.reduceMul, Nat.reduceSub, Nat.reduceBEq, Try.f3, fnok_9, fnok_10, ty_24, fnok_11, fnok_12, zc_33, ty_33, of_33_2, ty_30, le_30, sl_30, ar_30, of_42_1, ty_40, fnok_13, of_42_0, ty_3, bo_4, cellI, intI, accF0, accF1, accF2, accF3])
    | ((fail_if_success (with_reducible show AW _ _ _ _)); simp (disch := omega) only [seaWrap, seaDiv, seaMod])
    | ((with_reducible refine hK _ ?_); clear hK K)
    | (with_reducible apply_assumption -exfalso only [*]))
  all_goals first | exact ow_1 (by assumption) | exact fnd_e (by assumption) (by assumption)

theorem owner_law' (n : Nat) (a : Nat → Acc) (x y t : Int) (hn : n ≤ 9223372036854775807) (ha : ∀ i, i < n → (a i).m ≤ 9223372036854775807 ∧ (a i).q ≤ 9223372036854775807) : CallsP Try.prog 3 [.one (.lst 4 n (accF a)), .agg [.g (.int .i64 (x)), .g (.int .i64 (y))], .one (.g (.int .i64 (t)))] (.t (.one (.g (.bool (true))))) :=
  owner_law n a x y t hn ha (by rw [at_eq]; exact (last_m ha (fN_le _ _ _)).1)

end Go.Proofs.Ytbckibbgajfihaa
