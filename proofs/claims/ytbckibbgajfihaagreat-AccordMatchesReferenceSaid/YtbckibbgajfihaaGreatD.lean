/- D: walks on abstract states. -/
import Derived.Test.YtbckibbgajfihaaGreatC
import Derived.Test.YtbckibbgajfihaaGreatGr
set_option linter.unusedVariables false
set_option linter.unusedSimpArgs false
namespace Go.Proofs.YtbckibbgajfihaaGreat
open Go.RowKit Go.Sea
theorem ar_116 : arD Tryz.prog 116 = none := by kernel_rfl
theorem fnok_98 : fnOk Tryz.prog 98 = true := by kernel_rfl
theorem le_116 : lenD Tryz.prog 116 = some true := by kernel_rfl
theorem sl_116 : slD Tryz.prog 116 = some (1, 24, 23) := by kernel_rfl

theorem ipC_len (c : Nat → IV) : ∀ n k, (ipCells c n k).length = n
  | 0, _ => rfl
  | n + 1, k => by simp [ipCells, ipC_len c n (k + 1)]
theorem ipC_get (c : Nat → IV) : ∀ n k o, o < n → (ipCells c n k)[o]? = some (.iv (c (k + o)))
  | n + 1, k, 0, _ => by simp [ipCells]
  | n + 1, k, o + 1, h => by
    simp only [ipCells, List.getElem?_cons_succ]
    rw [ipC_get c n (k + 1) o (by omega), show k + 1 + o = k + (o + 1) by omega]
theorem lstC_get (f : Nat → Nat → IV) (E : Nat) : ∀ n k i o, i < n → o < E → (lstC f E n k)[i * E + o]? = some (.iv (f (k + i) o))
  | n + 1, k, 0, o, _, ho => by
    simp only [lstC, Nat.zero_mul, Nat.zero_add]
    rw [List.getElem?_append_left (by rw [ipC_len]; exact ho), ipC_get _ _ _ _ ho, Nat.zero_add]; rfl
  | n + 1, k, i + 1, o, h, ho => by
    simp only [lstC]
    rw [show (i + 1) * E + o = E + (i * E + o) by rw [Nat.add_mul]; omega, List.getElem?_append_right (by rw [ipC_len]; omega), ipC_len, Nat.add_sub_cancel_left, lstC_get f E n (k + 1) i o (by omega) ho, show k + 1 + i = k + (i + 1) by omega]
theorem ipC_iv (c : Nat → IV) : ∀ n k x, x ∈ ipCells c n k → isIv x
  | 0, _, x, h => by simp [ipCells] at h
  | n + 1, k, x, h => by
    simp only [ipCells, List.mem_cons] at h
    rcases h with rfl | h
    · trivial
    · exact ipC_iv c n (k + 1) x h
theorem lstC_iv (f : Nat → Nat → IV) (E : Nat) : ∀ n k x, x ∈ lstC f E n k → isIv x
  | 0, _, x, h => by simp [lstC] at h
  | n + 1, k, x, h => by
    simp only [lstC, List.mem_append] at h
    rcases h with h | h
    · exact ipC_iv _ _ _ x h
    · exact lstC_iv f E n (k + 1) x h
theorem purge_iv (i : Nat) {l : List CV} (h : ∀ c, c ∈ l → isIv c) : List.map (CV.purge i) l = l := by
  conv => rhs; rw [← List.map_id l]
  refine List.map_congr_left fun c hc => ?_
  have := h c hc
  cases c <;> first | rfl | exact this.elim
def twoF (m1 : Nat) (g1 : Nat → Nat → Int) (m2 : Nat) (g2 : Nat → Nat → Int) : Nat → Nat → IV
  | 0, _ => .lst 5 m1 (cellI g1)
  | _ + 1, _ => .lst 5 m2 (cellI g2)
def sm2 (m1 m2 : Nat) : Nat → Nat
  | 0 => 0
  | 1 => m1
  | _ + 2 => m1 + m2
def catG (g1 : Nat → Nat → Int) (m1 : Nat) (g2 : Nat → Nat → Int) (i o : Nat) : Int := if i < m1 then g1 i o else g2 (i - m1) o
def catC (m1 : Nat) (g1 : Nat → Nat → Int) (m2 : Nat) (g2 : Nat → Nat → Int) : Nat → List CV
  | 0 => []
  | 1 => lstC (cellI g1) 5 m1 0
  | _ + 2 => lstC (cellI g1) 5 m1 0 ++ lstC (cellI g2) 5 m2 0
theorem catC_iv (m1 : Nat) (g1 : Nat → Nat → Int) (m2 : Nat) (g2 : Nat → Nat → Int) : ∀ k c, c ∈ catC m1 g1 m2 g2 k → isIv c
  | 0, c, h => by simp [catC] at h
  | 1, c, h => lstC_iv _ _ _ _ c h
  | k + 2, c, h => by
    simp only [catC, List.mem_append] at h
    rcases h with h | h
    · exact lstC_iv _ _ _ _ c h
    · exact lstC_iv _ _ _ _ c h
theorem catC_len (m1 : Nat) (g1 : Nat → Nat → Int) (m2 : Nat) (g2 : Nat → Nat → Int) : ∀ k, (catC m1 g1 m2 g2 k).length = sm2 m1 m2 k * 5
  | 0 => rfl
  | 1 => by simp only [catC, sm2]; rw [lstC_len]
  | k + 2 => by simp only [catC, sm2, List.length_append]; rw [lstC_len, lstC_len]; omega
theorem cat_eqv {m1 : Nat} {g1 : Nat → Nat → Int} {m2 : Nat} {g2 : Nat → Nat → Int} (i o : Nat) (hi : i < m1 + m2) (ho : o < 5) : (civ ((catC m1 g1 m2 g2 2).getD (i * 5 + o) .any)).eqv (cellI (catG g1 m1 g2) i o) := by
  have e : (catC m1 g1 m2 g2 2)[i * 5 + o]? = some (.iv (cellI (catG g1 m1 g2) i o)) := by
    simp only [catC]
    by_cases h : i < m1
    · rw [List.getElem?_append_left (by rw [lstC_len]; omega), lstC_get _ _ _ _ _ _ h ho, Nat.zero_add]
      simp [cellI, catG, h]
    · rw [List.getElem?_append_right (by rw [lstC_len]; omega), lstC_len, show i * 5 + o - m1 * 5 = (i - m1) * 5 + o by omega, lstC_get _ _ _ _ _ _ (by omega) ho, Nat.zero_add]
      simp [cellI, catG, h]
  rw [List.getD, e]
  exact IV.eqv_refl _
theorem two_c {m1 : Nat} {g1 : Nat → Nat → Int} {m2 : Nat} {g2 : Nat → Nat → Int} {k : Nat} (hk : k ≤ 2) : (k = 0 ∧ (twoF m1 g1 m2 g2 k 0 = .lst 5 m1 (cellI g1) ∧ sm2 m1 m2 k = 0 ∧ sm2 m1 m2 (k + 1) = m1 ∧ ∀ i, List.map (CV.purge i) (catC m1 g1 m2 g2 k ++ lstC (cellI g1) 5 m1 0) = catC m1 g1 m2 g2 (k + 1))) ∨
    (k = 1 ∧ (twoF m1 g1 m2 g2 k 0 = .lst 5 m2 (cellI g2) ∧ sm2 m1 m2 k = m1 ∧ sm2 m1 m2 (k + 1) = m1 + m2 ∧ ∀ i, List.map (CV.purge i) (catC m1 g1 m2 g2 k ++ lstC (cellI g2) 5 m2 0) = catC m1 g1 m2 g2 (k + 1))) ∨ (k = 2 ∧ sm2 m1 m2 k = m1 + m2) := by
  rcases k with _ | _ | _ | k
  · exact Or.inl ⟨rfl, rfl, rfl, rfl, fun i => by simp only [catC, List.nil_append]; exact purge_iv i (lstC_iv _ _ _ _)⟩
  · exact Or.inr (Or.inl ⟨rfl, rfl, rfl, rfl, fun i => purge_iv i (catC_iv m1 g1 m2 g2 2)⟩)
  · exact Or.inr (Or.inr ⟨rfl, rfl⟩)
  · omega

set_option maxRecDepth 100000 in
set_option maxHeartbeats 4000000 in
theorem concat_p (m1 : Nat) (g1 : Nat → Nat → Int) (m2 : Nat) (g2 : Nat → Nat → Int) (h1 : m1 ≤ 100) (h2 : m2 ≤ 100) : CallsP Tryz.prog 84 [.one (.lst 1 2 (twoF m1 g1 m2 g2))] (.t (.one (.lst 5 (m1 + m2) (cellI (catG g1 m1 g2))))) := by
  have hsx : True := trivial
  refine CallsP_of Tryz.func84 rfl (by rw [Tryz.ntmps84]; simp) ?_
  simp only [Tryz.ntmps84, List.map_cons, List.map_nil, PT.tv, argEnv, Nat.zero_add, Nat.reduceAdd]
  repeat' (first
 | ((with_reducible show AW _ _ _ _); first
 | (with_reducible refine AW_seq_k fun K hK => ?_)
 | (with_reducible refine AW_skip ?_)
 | (with_reducible refine AW_exit ?_)
 | (with_reducible refine AW_ret ?_)
 | (with_reducible refine AW_condI ?_)
 | (with_reducible refine AW_block ?_)
 | ((with_reducible show AW _ (Code.region _ _ _) _ _); first
 | (with_reducible refine AW_regionP 0 [0] ?_)
 | (with_reducible refine AW_regionP 1 [0] ?_)
 | (with_reducible refine AW_regionP 2 [0, 3] ?_)
 | (with_reducible refine AW_regionP 3 [0, 3, 9, 10, 11] ?_)
 | (with_reducible refine AW_regionP 4 [0, 3, 9, 10, 11] ?_)
 | (with_reducible refine AW_regionP 5 [0, 3, 5, 9, 10, 11] ?_)
 | (with_reducible refine AW_regionP 6 [0, 3, 9, 10, 11] ?_)
 | (with_reducible refine AW_regionP 7 [0, 3, 9, 10, 11] ?_)
 | (with_reducible refine AW_regionP 8 [0, 3, 9, 10, 11] ?_)
 | (with_reducible refine AW_regionP 9 [0, 3] ?_)
 | (with_reducible refine AW_regionP 10 [0, 6] ?_)
 | (with_reducible refine AW_regionP 11 [6, 25, 26, 27] ?_)
 | (with_reducible refine AW_regionP 12 [6, 25, 26, 27] ?_)
 | (with_reducible refine AW_regionP 13 [6, 8, 25, 26, 27] ?_)
 | (with_reducible refine AW_regionP 14 [6, 25, 26, 27] ?_)
 | (with_reducible refine AW_regionP 15 [6] ?_))
 | ((with_reducible show AW _ (Code.loop _) _ _); first
 | ((with_reducible refine AW_loopQ (c := (Code.seq (Code.region 3 _ _) _)) (ι := Nat) [0, 9, 10] (fun k => [(3, iA .i64 ((sm2 m1 m2 k : Nat) : Int)), (11, iA .i64 (k : Int))]) (fun k => []) (fun k => k ≤ 2) (fun k => 2 - k) 0 ?lg3 ?l13 ?l23 ?li3 ?lr3); (case' lg3 => rintro k _); (case' li3 => try omega); (case' lr3 => rintro k hk KR hR3; (clear hsx; rcases two_c (m1 := m1) (g1 := g1) (m2 := m2) (g2 := g2) hk with ⟨hz, hsx⟩ | ⟨hz, hsx⟩ | ⟨hz, hsx⟩); simp only [keepE, hupd, hset, lk, if_true, if_false, Nat.reduceEqDiff, reduceIte, List.cons_append, List.nil_append, hsx, catC_len, Int.natCast_add, maxLen]))
 | ((with_reducible refine AW_loopQ (c := (Code.seq (Code.region 11 _ _) _)) (ι := Nat) [25, 26] (fun k => [(6, .t (.one (.slc 0 0 (sm2 m1 m2 k) 5))), (27, iA .i64 (k : Int))]) (fun k => [(0, catC m1 g1 m2 g2 k)]) (fun k => k ≤ 2) (fun k => 2 - k) 0 ?lg11 ?l111 ?l211 ?li11 ?lr11); (case' lg11 => rintro k _); (case' li11 => try omega); (case' lr11 => rintro k hk KR hR11; (clear hsx; rcases two_c (m1 := m1) (g1 := g1) (m2 := m2) (g2 := g2) hk with ⟨hz, hsx⟩ | ⟨hz, hsx⟩ | ⟨hz, hsx⟩); simp only [keepE, hupd, hset, lk, if_true, if_false, Nat.reduceEqDiff, reduceIte, List.cons_append, List.nil_append, hsx, catC_len, Int.natCast_add, maxLen]))))
 | ((first | (with_reducible refine And.intro ?_ ?_) | (with_reducible refine Need.mk ?_)); focus (first | exact True.intro | (with_reducible assumption) | omega | (refine ⟨?_, ?_⟩ <;> omega) | (intro _; first | exact True.intro | (with_reducible assumption) | omega) | (intros; (repeat' (first | exact True.intro | omega | (with_reducible assumption) | (with_reducible refine And.intro ?_ ?_))); done) | (simp (disch := omega) only [Bool.and_eq_true, Bool.or_eq_true, decide_eq_true_eq, bne_iff_ne, ne_eq] at *; first | done | omega | (intros; omega)) | (simp; done) | (simp; omega) | (simp +contextual; done) | (intro h; rw [h]; rfl) | (intros; simp_all; done)))
 | (with_reducible refine retK_n ?_)
 | (with_reducible refine retK_n' ?_)
 | (with_reducible refine retH_n rfl rfl rfl ?_)
 | (with_reducible refine retH_n' rfl rfl rfl ?_)
 | ((with_reducible show condN _ _ _ _ _ _); first
 | ((with_reducible refine condN_t ?_ ?_) <;> (intro hc; (try simp only [Bool.and_eq_true, Bool.or_eq_true, Bool.not_eq_true', Bool.and_eq_false_iff, Bool.or_eq_false_iff, decide_eq_true_eq, decide_eq_false_iff_not, bne_iff_ne, beq_iff_eq, reduceCtorEq, bne_eq_false_iff_eq, beq_eq_false_iff_ne, Bool.not_eq_false', Int.not_le, Int.not_lt, Bool.not_not] at hc); (skip); (try (exfalso; first | contradiction | omega)))))
 | ((with_reducible show callN _ _ _ _ _ _ _ _ _ _); first
 | (refine callN_hpq (k := 98) fnok_98 (grow_h (m1 + m2) (by omega) _) ?_ ?_))
 | ((with_reducible refine hR3 _ (k + 1) ?_); (try clear hR3 KR))
 | ((with_reducible refine hR11 _ (k + 1) ?_); (try clear hR11 KR))
 | ((with_reducible refine Told.mk ?_); simp only [go_sem, reduceIte, reduceCtorEq, Nat.reduceAdd, Nat.reduceLT, Nat.reduceLeDiff, Nat.reduceEqDiff, Nat.reduceMul, Nat.reduceSub, Nat.reduceBEq, hsx, catC_len, Int.natCast_add, maxLen] <;> (first | exact True.intro | (((try simp (disch := omega) only [seaWrap, Int.natCast_add, Int.cast_ofNat_Int, and_true, true_and, and_self]); (repeat' (first | exact True.intro | omega | rfl | (with_reducible assumption) | (with_reducible refine And.intro ?_ ?_) | (exact all_succ (by assumption) (by assumption)) | ((rw [hsx.2.2.1]; omega)))); done)) | (((try simp (disch := omega) only [seaWrap, Int.natCast_add, Int.cast_ofNat_Int, and_true, true_and, and_self]); (repeat' (first | exact True.intro | omega | rfl | (with_reducible assumption) | (with_reducible refine And.intro ?_ ?_) | (exact all_succ (by assumption) (by assumption)) )); done)) | (((try simp (disch := omega) only [seaWrap, Int.natCast_add, Int.cast_ofNat_Int, and_true, true_and, and_self]); (repeat' (first | exact True.intro | omega | rfl | (with_reducible assumption) | (with_reducible refine And.intro ?_ ?_) | (exact all_succ (by assumption) (by assumption)) | ((rw [hsx.2.2.1]; omega)) | ((exact wkC_eq rfl (catC_iv _ _ _ _ _))))); done)) | (first | ((try simp (disch := omega) only [seaWrap, Int.natCast_add, Int.cast_ofNat_Int, and_true, true_and, and_self]); (repeat' (first | exact True.intro | omega | rfl | (with_reducible assumption) | (with_reducible refine And.intro ?_ ?_) | (exact all_succ (by assumption) (by assumption)) )); done) | (simp [catC, sm2, wkC]; done)) | (refine Stuck.out ?_)))
 | ((fail_if_success (with_reducible show AW _ _ _ _)); simp (maxSteps := 2000000) only [go_sem, reduceIte, reduceCtorEq, Nat.reduceAdd, Nat.reduceLT, Nat.reduceLeDiff, Nat.reduceEqDiff, Nat.reduceMul, Nat.reduceSub, Nat.reduceBEq, Tryz.f84, le_116, sl_116, ar_116, ty_23, le_23, fnok_98, sl_23, hsx, catC_len, Int.natCast_add, maxLen])
 | ((fail_if_success (with_reducible show AW _ _ _ _)); simp (disch := omega) only [seaWrap, seaDiv, seaMod])
 | ((with_reducible refine hK _ ?_); clear hK K)
 | (with_reducible apply_assumption -exfalso only [*]))
  all_goals (subst hz; exact ⟨fun c hc => catC_iv _ _ _ _ _ c hc, fun i o hi ho => cat_eqv i o hi ho⟩)

end Go.Proofs.YtbckibbgajfihaaGreat
