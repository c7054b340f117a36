/- Part 16 of 16: contracts of functions and plain laws for the root text. No condition. -/
import Derived.Test.YtdhgiklbkmkblaaGreatM01
import Derived.Test.YtdhgiklbkmkblaaGreatM02
import Derived.Test.YtdhgiklbkmkblaaGreatM03
import Derived.Test.YtdhgiklbkmkblaaGreatM04
import Derived.Test.YtdhgiklbkmkblaaGreatM05
import Derived.Test.YtdhgiklbkmkblaaGreatM06
import Derived.Test.YtdhgiklbkmkblaaGreatM07
import Derived.Test.YtdhgiklbkmkblaaGreatM08
import Derived.Test.YtdhgiklbkmkblaaGreatM09
import Derived.Test.YtdhgiklbkmkblaaGreatM10
import Derived.Test.YtdhgiklbkmkblaaGreatM11
import Derived.Test.YtdhgiklbkmkblaaGreatM12
import Derived.Test.YtdhgiklbkmkblaaGreatM13
import Derived.Test.YtdhgiklbkmkblaaGreatM14
import Derived.Test.YtdhgiklbkmkblaaGreatM15
import Derived.Shelf.SlGeneric
import Derived.Ground.SlgfProg
import Derived.Shelf.SlicesE.DeleteFunc
import Derived.Test.YtdhgiklbkmkblaaGreatProg
set_option linter.unusedVariables false
set_option linter.unusedSimpArgs false
set_option maxRecDepth 100000
set_option maxHeartbeats 4000000
namespace Go.Proofs.YtdhgiklbkmkblaaGreat
open Go.RowKit Go.Sea
open Nat renaming reduceAdd → xA, reduceLT → xL, reduceLeDiff → xD, reduceEqDiff → xE, reduceMul → xM, reduceSub → xS, reduceBEq → xB
theorem fo_43 : fieldsOk Tryz.prog 43 = true := by kernel_rfl
theorem of_43_1 : offOf Tryz.prog 43 1 = some 1 := by kernel_rfl
theorem pl_43_0 : placeF Tryz.prog 43 0 = some (0, 1) := by kernel_rfl
theorem sl_38 : slD Tryz.prog 38 = some (2, 32, 43) := by kernel_rfl
theorem sl_39 : slD Tryz.prog 39 = some (1, 24, 46) := by kernel_rfl
theorem ty_43 : tyD Tryz.prog 43 = some (true, 2) := by kernel_rfl
theorem zc_43 : zeroC Tryz.prog 43 = some [.iv (.g (.int .i64 0)), .iv (.g (.slice none 0 0))] := by kernel_rfl
theorem zc_46 : zeroC Tryz.prog 46 = some [.iv (.g (.slice none 0 0))] := by kernel_rfl
attribute [go_sem] fo_43 of_43_1 pl_43_0 sl_38 sl_39 ty_43 zc_43 zc_46
theorem wkC_snoc2 {ok : Nat → Prop} {a b c d : CV} (h1 : wkV ok a c) (h2 : wkV ok b d) : ∀ {l : List CV}, (∀ c, c ∈ l → isIv c) → wkC ok (l ++ [a, b]) (l ++ [c, d])
  | [], _ => ⟨h1, h2, trivial⟩
  | x :: l, h => by
    refine ⟨Or.inr (Or.inl ⟨rfl, ?_⟩), wkC_snoc2 h1 h2 fun c hc => h c (List.mem_cons_of_mem _ hc)⟩
    have := h x (List.mem_cons_self ..)
    cases x <;> first | trivial | exact this.elim
theorem wk_step {ok : Nat → Prop} {l : List StepS} {s : StepS} {f : Nat → Nat → IV} (h : ∀ i o, i < s.q → o < 1 → (f i o).eqv (.g (.int .i64 (s.a i)))) : wkC ok (rowS l ++ [.iv (.g (.int .i64 s.nu)), .iv (.lst 1 s.q f)]) (rowS (l ++ [s])) := by
  rw [← rowS_snoc]
  have e2 : (IV.lst 1 s.q f).eqv (.lst 1 s.q (intI s.a)) := ⟨rfl, rfl, h⟩
  exact wkC_snoc2 (a := .iv (.g (.int .i64 s.nu))) (b := .iv (.lst 1 s.q f)) (c := .iv (.g (.int .i64 s.nu))) (d := .iv (.lst 1 s.q (intI s.a))) (Or.inr (Or.inl ⟨rfl, trivial⟩)) (Or.inr (Or.inr e2)) (rowS_iv _)
theorem rowS_put (l : List StepS) (a b : IV) (i : Nat) : List.map (CV.purge i) (rowS l ++ [.iv a, .iv b]) = rowS l ++ [.iv a, .iv b] := purge_iv i fun c hc => by
  rcases List.mem_append.1 hc with h | h
  · exact rowS_iv _ c h
  · simp at h; rcases h with rfl | rfl <;> trivial
theorem rowO_eqv2 (l : List PartS) : ∀ i o, i < l.length → o < 1 → (civ ((rowO l).getD (i + o) .any)).eqv (opsF l i o) := fun i o hi ho => by
  have := rowO_eqv l i o hi ho
  rwa [Nat.mul_one] at this
theorem prt_bd {N : NotS} {ch : Int} (h : notB N = true) (hb : prtB N ch = true) : (prt N ch).q ≤ 100 ∧ (prt N ch).k ≤ 100 := by
  have h1 := (of_decide_eq_true h).2 _ (of_decide_eq_true hb)
  have h2 := of_decide_eq_true h1.2
  exact ⟨h2.1.2.1, h2.1.2.2⟩
theorem has_zL (l : List Int) (x : Int) : hasL l.length (zL l) x = l.contains x := by
  have e : liI l.length (zL l) = l := by
    unfold liI
    refine List.ext_getElem (by simp) fun i h1 h2 => ?_
    simp [zL, List.getD, h2]
  rw [← has_con, e]
theorem keep_t {l : List Int} {a : Nat → Int} {j m : Nat} (hm : m = l.length) (h : hasL m (zL l) (a j) = true) : keepL l a (j + 1) = keepL l a j ++ [a j] := keepL_t (by rw [← has_zL, ← hm]; exact h)
theorem keep_f {l : List Int} {a : Nat → Int} {j m : Nat} (hm : m = l.length) (h : hasL m (zL l) (a j) = false) : keepL l a (j + 1) = keepL l a j := keepL_f (by rw [← has_zL, ← hm]; exact h)
theorem rst_f (n : Nat) (N : Nat → NotS) (ch : Int) (hn : n ≤ 9223372036854775807) (hN : ∀ i, i < n → (N i).Ok) (hB : StB n N ch = false) : CallsP Tryz.prog 16 [.one (.lst 7 n (notF N)), .one (.g (.int .i64 ch))] (.tup [.one (.lst 2 (StL n N ch).length (stpF (StL n N ch))), .one (.lst 1 (OpL n N ch).length (opsF (OpL n N ch))), .one (.g (.int .i64 (StE n N ch)))]) := by
  refine CallsP_of Tryz.func16 rfl (by rw [Tryz.ntmps16]; simp) ?_
  simp only [Tryz.ntmps16, zM, PT.tv, argEnv, Nat.zero_add, Nat.reduceAdd]
  repeat' (first
 | ((with_reducible show AW _ _ _ _); first
 | (with_reducible first | refine aS (fun K hK => ?_) | refine aI ?_ | refine aT ?_ | refine aC ?_)
 | ((with_reducible first | refine aP 0 [0,1] ?_ | refine aP 1 [0,1] ?_ | refine aP 2 [0,1,7] ?_ | refine aP 3 [] ?_)))
 | ((first | (with_reducible refine And.intro ?_ ?_) | (with_reducible refine Need.mk ?_)); focus (first | exact True.intro | (simp; done)))
 | (with_reducible refine retK_n ?_)
 | ((with_reducible show condN _ _ _ _ _ _); first
 | ((with_reducible refine condN_t ?_ ?_) <;> (intro hc; (try simp only [zB, zC, reduceCtorEq] at hc); (try (exfalso; contradiction)))))
 | ((with_reducible show callN _ _ _ _ _ _ _ _ _ _); first
 | (refine callN_q (k := 36) fnok_36 (rnts_p n N hn hN) ?_ ?_))
 | ((fail_if_success (with_reducible show AW _ _ _ _)); simp (maxSteps := 2000000) only [go_sem, reduceIte, reduceCtorEq, xA, xL, xD, xE, xM, xS, xB, Tryz.f16])
 | ((with_reducible refine hK _ ?_); clear hK K))
  all_goals (first | (have e := st_bad hB; rw [e.1, e.2.1, e.2.2]; (repeat' (first | exact rfl | (with_reducible refine And.intro ?_ ?_))); done) | exact (st_no hB hc).elim)
theorem rst_t (n : Nat) (N : Nat → NotS) (ch : Int) (hn : n ≤ 9223372036854775807) (hN : ∀ i, i < n → (N i).Ok) (hB : StB n N ch = true) : CallsP Tryz.prog 16 [.one (.lst 7 n (notF N)), .one (.g (.int .i64 ch))] (.tup [.one (.lst 2 (StL n N ch).length (stpF (StL n N ch))), .one (.lst 1 (OpL n N ch).length (opsF (OpL n N ch))), .one (.g (.int .i64 (StE n N ch)))]) := by
  have mk0 : True := trivial
  have hpv : True := trivial
  have h4 := st_spl hB
  have hw := h4.1
  have hn2 := h4.2.1
  have hc1 := h4.2.2
  refine CallsP_of Tryz.func16 rfl (by rw [Tryz.ntmps16]; simp) ?_
  simp only [Tryz.ntmps16, zM, PT.tv, argEnv, Nat.zero_add, Nat.reduceAdd]
  repeat' (first
 | ((with_reducible show AW _ _ _ _); first
 | (with_reducible first | refine aS (fun K hK => ?_) | refine aI ?_ | refine aX ?_ | refine aT ?_ | refine aC ?_ | refine aB ?_)
 | (first
 | (with_reducible first | refine aP 0 [0,1] ?_ | refine aP 1 [0,1] ?_ | refine aP 2 [0,1,7] ?_ | refine aP 4 [0,1] ?_ | refine aP 5 [0,1,8] ?_ | refine aP 6 [0,1,8,9] ?_ | refine aP 7 [0,1,8,9] ?_ | refine aP 8 [0,1,8,9] ?_ | refine aP 9 [0,1,8,9] ?_ | refine AW_frz (c := Code.region 10 _ false) [0] ?_ (aP 10 [0,1,8] ?_) | refine aP 11 [0,1,8,10] ?_ | refine aP 12 [0,1,8,10,11] ?_ | refine aP 13 [0,1,8,10,11,12] ?_ | refine aP 14 [0,1,8,10,11,12] ?_ | refine aP 15 [0,1,8,10,11,12] ?_)
 | ((with_reducible refine aR (c := Code.region 16 _ true) [0,1,8,10,11,12] ?_); (with_reducible refine aD ?_ ?_ ?_ ?_); (focus kernel_rfl); (focus kernel_rfl); (focus kernel_rfl))
 | (with_reducible first | refine aP 17 [0,1,8,10,11,12,13] ?_ | refine aP 18 [0,1,8,10,11,12,13,14] ?_ | refine aP 19 [0,1,8,10,11,12,13,14,15] ?_ | refine aP 20 [0,1,8,10,11,12,13,14,15] ?_ | refine aP 21 [0,1,8,10,11,12,13,14,15] ?_)
 | ((with_reducible refine aR (c := Code.region 22 _ true) [0,1,8,10,11,12,13,14,15] ?_); (with_reducible refine AW_regionB 8 ?_ ?_ ?_ ?_ ?_); (focus kernel_rfl); (focus kernel_rfl); (focus kernel_rfl); (focus kernel_rfl))
 | (with_reducible first | refine AW_frz (c := Code.region 23 _ false) [8] ?_ (aP 23 [0,1,8,10,11,12,13,14] ?_) | refine aP 24 [0,1,8,10,11,12,13] ?_ | refine aP 25 [10,11] ?_))
 | ((with_reducible show AW _ (Code.loop _) _ _); first
 | ((with_reducible refine aL (c := (Code.seq (Code.seq (Code.region 6 _ _) _) _)) (ι := Nat) [0,1] (fun u => [(8, .t (.one (.slc 0 0 (cnI N ch u).length 1))), (9, iA .i64 (u : Int))]) (fun u => [(0, rowI (numL N ch u))]) (fun u => u ≤ n) (fun u => n - u) 0 ?lg6 ?l16 ?l26 ?li6 ?lr6); (case' lg6 => rintro u _); (case' li6 => try (omega)); (case' lr6 => rintro u hu KR hR6; have oL := cnI_le N ch u; simp only [keepE, hupd, hset, lk, if_true, if_false, xE, reduceIte, zN, hw, hpv, prt_e, rowI_pur, rowI_snoc, rowI_len, rowI_frz, rowS_put, rowS_pur, rowS_frz, rowS_len, rowO_pur, rowO_frz, rowO_snoc, rowO_len, maxLen, numL_0, numL_len, keepL_0, stpL_len, opsL_len, List.length_append, List.length_cons, List.length_nil, Nat.le_refl, Int.toNat_natCast]))
 | ((with_reducible refine aL (c := (Code.seq (Code.seq (Code.region 13 _ _) _) _)) (ι := Nat) [0,1] (fun i => [(8, .t (.one (.iv (.lst 1 (numL N ch n).length (intI (zL (numL N ch n))))))), (10, .t (.one (.slc 1 0 (cnI N ch i).length 2))), (11, .t (.one (.slc 2 0 (cnI N ch i).length 1))), (12, iA .i64 (i : Int))]) (fun i => [(1, rowS (stpL N ch (numL N ch n) i)), (2, rowO (opsL N ch i))]) (fun i => i ≤ n) (fun i => n - i) 0 ?lg13 ?l113 ?l213 ?li13 ?lr13); (case' lg13 => rintro i _); (case' li13 => try (omega)); (case' lr13 => rintro i hi KR hR13; have oL := cnI_le N ch i; simp only [keepE, hupd, hset, lk, if_true, if_false, xE, reduceIte, zN, hw, hpv, prt_e, rowI_pur, rowI_snoc, rowI_len, rowI_frz, rowS_put, rowS_pur, rowS_frz, rowS_len, rowO_pur, rowO_frz, rowO_snoc, rowO_len, maxLen, numL_0, numL_len, keepL_0, stpL_len, opsL_len, List.length_append, List.length_cons, List.length_nil, Nat.le_refl, Int.toNat_natCast]))
 | ((with_reducible refine aL (c := (Code.seq (Code.seq (Code.region 19 _ _) _) _)) (ι := Nat) [0,1,8,10,11,12,13,14] (fun j => [(15, iA .i64 (j : Int))]) (fun j => [(3, [.iv (.g (.int .i64 (N i).nu)), .slc 8 0 (keepL (numL N ch n) (prt (N i) ch).a j).length 1]), (8, rowI (keepL (numL N ch n) (prt (N i) ch).a j))]) (fun j => j ≤ (prt (N i) ch).q) (fun j => (prt (N i) ch).q - j) 0 ?lg19 ?l119 ?l219 ?li19 ?lr19); (case' lg19 => rintro j _); (case' li19 => try (omega)); (case' lr19 => rintro j hj KR hR19; have kL := keepL_le (numL N ch n) (prt (N i) ch).a j; simp only [keepE, hupd, hset, lk, if_true, if_false, xE, reduceIte, zN, hw, hpv, prt_e, rowI_pur, rowI_snoc, rowI_len, rowI_frz, rowS_put, rowS_pur, rowS_frz, rowS_len, rowO_pur, rowO_frz, rowO_snoc, rowO_len, maxLen, numL_0, numL_len, keepL_0, stpL_len, opsL_len, List.length_append, List.length_cons, List.length_nil, Nat.le_refl, Int.toNat_natCast]))))
 | ((first | (with_reducible refine And.intro ?_ ?_) | (with_reducible refine Need.mk ?_)); focus (first | exact rowI_iv _ | first | exact True.intro | omega | (simp; done)))
 | (with_reducible refine retK_n ?_)
 | ((with_reducible show condN _ _ _ _ _ _); first
 | ((with_reducible refine condN_t ?_ ?_) <;> (intro hc; (try simp only [zB, zC, reduceCtorEq] at hc); ((try (have oL := cnI_le N ch i)); (try (have e0 : n = u := (by omega); subst e0)); (try (have hNi := (hN i (by omega)).n)); (try (clear mk0; clear hpv; have hpb := cnc_spl (by assumption : cncB (N i) ch = true); have hpv := (prtV_t hpb.1).1; have hpj := (prtV_t hpb.1).2; have hP : (prt (N i) ch).Ok := (hN i (by omega)).p _ hpj; have hPk := hP.k; have hPq := hP.q; have hbd := prt_bd ((nts_n hw).2 i (by omega)).1 hpb.1)); (try (have e0 : j = (prt (N i) ch).q := (by omega); subst e0))); (try (exfalso; omega)))))
 | ((with_reducible refine And.intro ?_ ?_); focus (((with_reducible show chkS _ _ _ _ = true); kernel_rfl)))
 | ((with_reducible refine And.intro ?_ ?_); focus ((with_reducible show chkR _ _ _ = true); kernel_rfl))
 | ((with_reducible show callN _ _ _ _ _ _ _ _ _ _); first
 | (refine callN_q (k := 36) fnok_36 (rnts_p n N hn hN) ?_ ?_)
 | (refine callN_q (k := 35) fnok_35 (rcnc_p (N i) ch (hN i (by omega))) ?_ ?_)
 | (refine callN_q (k := 35) fnok_35 (rcnc_p (N u) ch (hN u (by omega))) ?_ ?_)
 | (refine callN_q (k := 33) fnok_33 (rhas_p _ _ _ (by omega)) ?_ ?_))
 | ((with_reducible show callDN _ _ _ _ _ _ _ _ _ _ _ _ _); first
 | (refine callDN_q (k := 31) fnok_31 (rprt_p (N i) ch (hN i (by omega))) ?_ ?_))
 | ((with_reducible refine hR6 _ (u + 1) ?_); (try clear hR6 KR))
 | ((with_reducible refine hR13 _ (i + 1) ?_); (try clear hR13 KR))
 | ((with_reducible refine hR19 _ (j + 1) ?_); (try clear hR19 KR))
 | ((with_reducible refine Told.mk ?_); simp only [go_sem, reduceIte, reduceCtorEq, xA, xL, xD, xE, xM, xS, xB, intI, hw, hpv, prt_e, rowI_pur, rowI_snoc, rowI_len, rowI_frz, rowS_put, rowS_pur, rowS_frz, rowS_len, rowO_pur, rowO_frz, rowO_snoc, rowO_len, maxLen, numL_0, numL_len, keepL_0, stpL_len, opsL_len, List.length_append, List.length_cons, List.length_nil, Nat.le_refl, Int.toNat_natCast] <;> (first | (((try simp (disch := omega) only [seaWrap, Int.natCast_add, Int.cast_ofNat_Int, and_true, true_and, and_self]); (repeat' (first | omega | rfl | (with_reducible refine And.intro ?_ ?_) | ((first | (rw [numL_t (by assumption)]) | (rw [numL_f (by assumption)]) | (rw [cnI_t (by assumption)]) | (rw [cnI_f (by assumption)]))) | ((exact wkC_eq rfl (rowI_iv _))) | ((simp only [List.length_append, List.length_cons, List.length_nil, Nat.zero_add]; done)))); done)) | (((try simp (disch := omega) only [seaWrap, Int.natCast_add, Int.cast_ofNat_Int, and_true, true_and, and_self]); (repeat' (first | omega | rfl | (with_reducible refine And.intro ?_ ?_) | ((exact Or.inr fun i o hi ho => row_zL _ i o (by rw [numL_len]; exact hi) ho)) | ((rw [stpL_f (by assumption)]; exact wkC_eq rfl (rowS_iv _))) | ((rw [opsL_f (by assumption)]; exact wkC_eq rfl (rowO_iv _))) | ((first | (rw [cnI_t (by assumption)]) | (rw [cnI_f (by assumption)]))) | ((rw [stpL_t (by assumption)]; exact wk_step (s := stpO (numL N ch n) (N i) (prt (N i) ch)) fun i o hi ho => row_zL _ i o hi ho)) | ((rw [opsL_t (by assumption)]; exact wkC_eq rfl (rowO_iv _))) | ((simp only [List.length_append, List.length_cons, List.length_nil, Nat.zero_add]; done)))); done)) | (((try simp (disch := omega) only [seaWrap, Int.natCast_add, Int.cast_ofNat_Int, and_true, true_and, and_self]); (repeat' (first | omega | rfl | (with_reducible refine And.intro ?_ ?_) | ((first | (rw [keep_t (numL_len _ _ _).symm (by assumption)]) | (rw [keep_f (numL_len _ _ _).symm (by assumption)]))) | ((exact wkC_eq rfl (rowI_iv _))) | ((exact wkC_eq rfl (rowS_iv _))) | ((exact wkC_eq rfl (rowO_iv _))) | ((simp only [List.length_append, List.length_cons, List.length_nil, Nat.zero_add]; done)))); done))))
 | ((fail_if_success (with_reducible show AW _ _ _ _)); simp (maxSteps := 2000000) only [go_sem, reduceIte, reduceCtorEq, xA, xL, xD, xE, xM, xS, xB, Tryz.f16, intI, hw, hpv, prt_e, rowI_pur, rowI_snoc, rowI_len, rowI_frz, rowS_put, rowS_pur, rowS_frz, rowS_len, rowO_pur, rowO_frz, rowO_snoc, rowO_len, maxLen, numL_0, numL_len, keepL_0, stpL_len, opsL_len, List.length_append, List.length_cons, List.length_nil, Nat.le_refl, Int.toNat_natCast])
 | ((with_reducible refine hK _ ?_); clear hK K)
 | (with_reducible apply_assumption -exfalso only [*]))
  all_goals ((have e := st_ok hB; have e0 : n = i := (by omega); subst e0; rw [e.1, e.2.1, e.2.2]; refine ⟨⟨fun c hc9 => ?_, fun c hc9 => ?_⟩, ⟨(stpL_len _ _ _ _).symm, fun i o hi ho => rowS_eqv _ i o (by rw [stpL_len]; exact hi) ho⟩, ⟨(opsL_len _ _ _).symm, fun i o hi ho => rowO_eqv2 _ i o (by rw [opsL_len]; exact hi) ho⟩, rfl⟩; (have := rowS_iv _ c hc9; cases c <;> trivial); (have := rowO_iv _ c hc9; cases c <;> trivial)))
theorem rst_p (n : Nat) (N : Nat → NotS) (ch : Int) (hn : n ≤ 9223372036854775807) (hN : ∀ i, i < n → (N i).Ok) : CallsP Tryz.prog 16 [.one (.lst 7 n (notF N)), .one (.g (.int .i64 ch))] (.tup [.one (.lst 2 (StL n N ch).length (stpF (StL n N ch))), .one (.lst 1 (OpL n N ch).length (opsF (OpL n N ch))), .one (.g (.int .i64 (StE n N ch)))]) := by
  cases hB : StB n N ch with
  | false => exact rst_f n N ch hn hN hB
  | true => exact rst_t n N ch hn hN hB
end Go.Proofs.YtdhgiklbkmkblaaGreat
namespace Go.Proofs
open Go.Shelf
def Tryz.laysDf54_ren : Go.Shelf.Ren := ⟨fun | 10 => 54 | 6 => 95 | n => n, fun | 22 => 24 | 23 => 3 | 25 => 86 | 3 => 3 | 4 => 4 | 0 => 0 | n => n, fun | n => n⟩
theorem Tryz.laysDf54 : Go.Proofs.SlLaysH.n10 Tryz.prog Tryz.laysDf54_ren := {
  mixed := by kernel_rfl
  f6 := ⟨Tryz.f95.name, by decide, Tryz.func95.trans (congrArg some (by kernel_rfl))⟩
  f10 := ⟨Tryz.f54.name, by decide, Tryz.func54.trans (congrArg some (by kernel_rfl))⟩
  t0 := Tryz.underlying0
  a0 := Tryz.isAgg0
  z0 := Tryz.sizeOf0
  v0 := Tryz.zeroValue0
  t3 := Tryz.underlying3
  a3 := Tryz.isAgg3
  z3 := Tryz.sizeOf3
  v3 := Tryz.zeroValue3
  t4 := Tryz.underlying4
  a4 := Tryz.isAgg4
  z4 := Tryz.sizeOf4
  v4 := Tryz.zeroValue4
  t22 := Tryz.underlying24
  a22 := Tryz.isAgg24
  z22 := Tryz.sizeOf24
  v22 := Tryz.zeroValue24
  a23 := Tryz.isAgg3
  z23 := Tryz.sizeOf3
  t25 := Tryz.underlying86
  a25 := Tryz.isAgg86
  z25 := Tryz.sizeOf86
  v25 := Tryz.zeroValue86 }
end Go.Proofs
namespace Go.Proofs.YtdhgiklbkmkblaaGreat
open Go.RowKit Go.Sea
open Go.Proofs Go.Sort in
theorem fn_give (W : World) (b off : Nat) (v : Value) (x : Int) (c : Bool) (hc : W.cell? ⟨b, off, none⟩ = some v) (hcon : Calls Tryz.prog 53 #[v, .int .i64 x] W fun e w' => e = .returned (.bool c) ∧ w' = W) : FnGives Tryz.prog 52 #[.pointer (some ⟨b, off, none⟩)] #[.int .i64 x] (.bool (!c)) W := by
  show Calls Tryz.prog 52 #[.int .i64 x, .pointer (some ⟨b, off, none⟩)] W _
  go_enter Tryz.func52, Tryz.ntmps52
  go_wp2_with (go_at_call 53; refine hcon.mono ?_; rintro e w' ⟨rfl, rfl⟩)
  go_ret
  exact ⟨rfl, 0, rfl⟩
open Go.Proofs Go.Sort in
theorem del_nil (p : Option Addr) (c : Nat) (fv : Value) (w : World) : Calls Tryz.prog 54 #[.slice p 0 c, fv] w fun e w' => e = .returned (.slice p 0 c) ∧ w' = w := by
  have hI := AnyE.slices_IndexFunc_empty (P := Tryz.prog) (ρ := Tryz.laysDf54_ren) { Tryz.laysDf54 with } p c fv w
  change Calls Tryz.prog 95 #[.slice p 0 c, fv] w _ at hI
  go_enter Tryz.func54, Tryz.ntmps54
  go_wp2_with (go_at_call 95; refine hI.mono ?_; rintro e w' ⟨rfl, rfl⟩)
  go_ret
  exact ⟨rfl, rfl⟩
open Go.Proofs Go.Sort in
theorem del_t (zs ns : List Int) (m q : Nat) (hm : m = zs.length) (hq : q = ns.length) (g : Nat → IV) (hg : (g 0).eqv (.lst 1 q (intI (zL ns)))) (hz : zs.length ≤ 1000000) (hn : ns.length ≤ 1000000) (i : Nat) :
    CallsT Tryz.prog 54 [.one (.slc i 0 m 1), .one (.fn (.func 52) [] [.iv (.ptr 1 g)])] i (rowI zs) (.t (.one (.slc i 0 (zs.filter fun x => ns.contains x).length 1))) (rowI ((zs.filter fun x => ns.contains x) ++ List.replicate (zs.length - (zs.filter fun x => ns.contains x).length) 0)) := by
  intro H hH w0 Z0 J Z s a w vs R hs hv
  subst hs; subst hm
  have eg : ∀ args w, (callFunc 52 args).run Tryz.prog w = .ok (.enter 52 args) w := enters_of Tryz.func52 (by kernel_rfl) rfl
  obtain ⟨vs⟩ := vs
  match vs, hv with
  | [v, fv], ⟨hv, hf, _⟩ =>
    by_cases h0 : zs = []
    · subst h0
      have ev : ∃ p cap, v = .slice p 0 cap := by
        rcases hv with ⟨_, rfl⟩ | ⟨b, cap, c, e, rfl, _⟩ <;> exact ⟨_, _, rfl⟩
      obtain ⟨p, cap, rfl⟩ := ev
      refine (del_nil p cap fv w).mono fun e w' ⟨he, hw⟩ => ?_
      subst hw
      refine ⟨_, J, Z, he, ?_, hv⟩
      exact R.same fun k => by
        by_cases hk : k = i
        · subst hk; rw [hget_hset_same]; exact hH.symm
        · exact hget_hset_ne _ _ _ _ hk
    · rcases hv with ⟨h, _⟩ | ⟨b, cap, c, e, rfl, hj, hc1, hc2, hb, hsz⟩
      · exact absurd (List.eq_nil_of_length_eq_zero h) h0
      · obtain ⟨A, B, rfl, hA, hB⟩ := hf
        obtain ⟨A⟩ := A
        obtain ⟨B⟩ := B
        match A, B, hA, hB with
        | [], [u], _, ⟨hu, _⟩ =>
          have hu : Rd w Z u (.ptr 1 g) := hu
          cases hu with
          | ptr pb po _ _ X hpz h1 h2 =>
            have hX := Rd.eqv (h2 0 (by omega)) hg
            have hc0 := h1 0 (by omega)
            rw [Nat.add_zero] at hc0
            generalize X 0 = xv at hX hc0
            obtain ⟨k1, k2⟩ := row_read R hj hb h0 hH
            have hbz : ∀ y, Z y → y ≠ b := fun y hy e => (R.jlt i b hj).2.2 (e ▸ hy)
            -- the closure, in whatever world in which what is read by value lies as it did
            have give : ∀ (W : World) (x : Int), (∀ y, Z y → W.heap[y]? = w.heap[y]?) → FnGives Tryz.prog 52 #[.pointer (some ⟨pb, po, none⟩)] #[.int .i64 x] (.bool (!ns.contains x)) W := fun W x hW => by
              have hcell : ∀ y o, Z y → W.cell? ⟨y, o, none⟩ = w.cell? ⟨y, o, none⟩ := fun y o hy => by unfold World.cell?; rw [hW y hy]
              refine fn_give W pb po xv x _ ((hcell pb po hpz).trans hc0) ?_
              cases hX with
              | nil p0 cap0 =>
                have : ns = [] := List.eq_nil_of_length_eq_zero hq.symm
                subst this
                exact (Tryz.slices_Contains_int_empty p0 cap0 x W)
              | lst b2 off2 _ cap2 _ _ X2 hz2 hn2 hm2 g1 g2 =>
                have := Tryz.slices_Contains_int b2 off2 q cap2 ns x W (by omega) (by omega) fun j hj => by
                  rw [hcell b2 _ hz2]
                  have q1 := g1 j 0 (by omega) (by omega)
                  have q2 := g2 j 0 (by omega) (by omega)
                  rw [Nat.mul_one, Nat.add_zero] at q1
                  rw [q1]
                  generalize X2 j 0 = y at q2
                  have q2 : Rd w Z y (.g (.int .i64 (ns.getD j 0))) := q2
                  cases q2; rfl
                rw [List.take_of_length_le (by omega)] at this
                exact this
            have hzlt : ∀ y, Z y → y < w.heap.size := R.zlt
            have hpA : PredAt Tryz.prog 52 #[.pointer (some ⟨pb, po, none⟩)] (Value.int .i64) (fun x => !ns.contains x) w := fun W x hbel => give W x fun y hy => hbel.block y (hzlt y hy)
            have hpO : PredOver Tryz.prog 52 #[.pointer (some ⟨pb, po, none⟩)] (Value.int .i64) (fun x => !ns.contains x) b 0 zs.toArray.size w := fun n os dk x _ => give _ x fun y hy => by
              have h1 := hbz y hy
              have h2 := hzlt y hy
              unfold sortWorld
              rw [heap_grow_old _ _ (by rw [size_putRow]; exact h2)]
              unfold putRow mapBlock
              rw [Array.getElem?_modify, if_neg (fun e => h1 e.symm)]
              rfl
            have H1 := AnyE.slices_DeleteFunc (P := Tryz.prog) (ρ := Tryz.laysDf54_ren) Tryz.laysDf54 (Value.int .i64) (fun _ => rfl) (fun x => !ns.contains x) 52 #[.pointer (some ⟨pb, po, none⟩)] eg 0 Tryz.zeroValue3 b 0 cap zs.toArray w hpA hpO (row_holds hb k2) (by simp; omega) (by simpa using hc1)
            change Calls Tryz.prog 54 _ _ _ at H1
            simp only [Bool.not_not, List.size_toArray] at H1
            refine H1.mono fun e' w' ⟨he, nq, hw⟩ => ?_
            subst hw
            have hfl : (zs.filter fun x => ns.contains x).length ≤ zs.length := List.length_filter_le _ _
            have R1 := row_put (rel_ahead R nq) (ys := (zs.filter fun x => ns.contains x) ++ List.replicate (zs.length - (zs.filter fun x => ns.contains x).length) 0) hj hb hH (by rw [List.length_append, List.length_replicate]; omega) k1
            refine ⟨_, J, Z, he, R1, Or.inr ⟨b, cap, putCells (Value.int .i64) 0 ((zs.filter fun x => ns.contains x) ++ List.replicate (zs.length - (zs.filter fun x => ns.contains x).length) 0).toArray c, e, rfl, hj, by omega, hc2, ?_, ?_⟩⟩
            · show (putRow (Value.int .i64) (Sort.ahead w nq) b 0 _).heap[b]? = _
              unfold putRow mapBlock
              rw [Array.getElem?_modify, if_pos rfl]
              show (w.heap[b]?).map _ = _
              rw [hb]; rfl
            · simp only [putCells, Array.size_mapIdx]; omega
theorem keep_flt (ns : List Int) (a : Nat → Int) : ∀ q, keepL ns a q = (liI q a).filter fun x => ns.contains x
  | 0 => rfl
  | q + 1 => by
    have e : liI (q + 1) a = liI q a ++ [a q] := by unfold liI; rw [List.range_succ, List.map_append]; rfl
    rw [e, List.filter_append, ← keep_flt ns a q]
    cases h : ns.contains (a q) with
    | true => rw [keepL_t h, List.filter_cons, if_pos h]; rfl
    | false => rw [keepL_f h, List.filter_cons, if_neg (by rw [h]; simp)]; simp
theorem del_k (ns : List Int) (q u : Nat) (hu : u = ns.length) (a : Nat → Int) (g : Nat → IV) (hg : (g 0).eqv (.lst 1 u (intI (zL ns)))) (hz : q ≤ 1000000) (hn : ns.length ≤ 1000000) (i : Nat) :
    CallsT Tryz.prog 54 [.one (.slc i 0 q 1), .one (.fn (.func 52) [] [.iv (.ptr 1 g)])] i (rowI (liI q a)) (.t (.one (.slc i 0 (keepL ns a q).length 1))) (rowI (keepL ns a q ++ List.replicate (q - (keepL ns a q).length) 0)) := by
  have h := del_t (liI q a) ns q u (liI_len q a).symm hu g hg (by rw [liI_len]; exact hz) hn i
  rw [← keep_flt, liI_len] at h
  exact h
theorem clone_r (q : Nat) (a : Nat → Int) (hq : q ≤ 1000) : CallsN Tryz.prog 55 [.one (.iv (.lst 1 q (intI a)))] (rowI (liI q a)) (fun i => .t (.one (.slc i 0 q 1))) := by
  rw [← liI_row]; exact clone_n q (intI a) hq
theorem AW_ip {P : Program} {c : Code} {E : List (Nat × AV)} {H : List (Option (List CV))} {N : Nat} {g : List (Nat × List (Nat × AV))} {lp : LP} {Q : Exit → AS → Prop} (t m : Nat) (f : Nat → IV) (h : lk E t = .t (.one (.ip m f))) (hA : AW P c ⟨(t, .t (.one (.iv (.ptr m f)))) :: E, H, N, g, lp⟩ Q) : AW P c ⟨E, H, N, g, lp⟩ Q := fun w0 Z0 a w n ⟨J, Z, R⟩ =>
  hA w0 Z0 a w n ⟨J, Z, R.nodef, R.size, R.below, R.zfrom, R.zlt, R.jlt, R.inj, R.hole, R.blk, fun u => by
    show ARel _ _ _ _ (lk ((t, _) :: E) u)
    simp only [lk]
    by_cases hu : u = t
    · rw [if_pos hu]
      have h1 := R.slots u
      rw [hu] at h1 ⊢
      have h1 : ARel w J Z (a.tmps.getD t undef) (lk E t) := h1
      rw [h] at h1
      obtain ⟨b, off, X, e, hz, hx⟩ := h1
      rw [e]
      exact Rd.ptr b off m f X hz (fun o ho => (hx o ho).1) fun o ho => (hx o ho).2
    · rw [if_neg hu]; exact R.slots u, R.ghost, R.loops, R.lnd, R.ro⟩
end Go.Proofs.YtdhgiklbkmkblaaGreat
set_option maxRecDepth 100000
set_option maxHeartbeats 4000000
namespace Go.Proofs.YtdhgiklbkmkblaaGreat
open Go.RowKit Go.Sea
open Nat renaming reduceAdd → xA, reduceLT → xL, reduceLeDiff → xD, reduceEqDiff → xE, reduceMul → xM, reduceSub → xS, reduceBEq → xB
theorem fnok_54 : fnOk Tryz.prog 54 = true := by kernel_rfl
theorem pl_43_1 : placeF Tryz.prog 43 1 = some (1, 1) := by kernel_rfl
theorem ty_38 : tyD Tryz.prog 38 = some (false, 1) := by kernel_rfl
theorem ty_39 : tyD Tryz.prog 39 = some (false, 1) := by kernel_rfl
theorem ty_86 : tyD Tryz.prog 86 = some (false, 1) := by kernel_rfl
theorem zc_38 : zeroC Tryz.prog 38 = some [.iv (.g (.slice none 0 0))] := by kernel_rfl
theorem zc_39 : zeroC Tryz.prog 39 = some [.iv (.g (.slice none 0 0))] := by kernel_rfl
theorem zc_86 : zeroC Tryz.prog 86 = some [.iv (.g (.nilFunc))] := by kernel_rfl
attribute [go_sem] fnok_54 pl_43_1 ty_38 ty_39 ty_86 zc_38 zc_39 zc_86
theorem num_eqv3 {u : Nat} {l : List Int} (hu : u = l.length) : (IV.lst 1 u (fun p o => civ ((rowI l).getD (p + o) .any))).eqv (.lst 1 u (intI (zL l))) := ⟨rfl, rfl, fun i o hi ho => row_zL l i o (by omega) ho⟩
theorem row_pre (l r : List Int) : ∀ i o, i < l.length → o < 1 → (civ ((rowI (l ++ r)).getD (i + o) .any)).eqv (.g (.int .i64 (zL l i))) := fun i o hi ho => by
  obtain rfl : o = 0 := by omega
  rw [Nat.add_zero, rowI_get _ _ (by simp; omega)]
  have : (l ++ r).getD i 0 = zL l i := by unfold zL; rw [List.getD, List.getD, List.getElem?_append_left hi]
  rw [this]; exact IV.eqv_refl _
theorem rowS_p30 (l : List StepS) (a : IV) (n : Nat) : List.map (CV.purge 30) (rowS l ++ [.iv a, .slc 37 0 n 1]) = rowS l ++ [.iv a, .slc 37 0 n 1] := by
  rw [List.map_append, rowS_pur]; rfl
theorem rowS_f37 (l : List StepS) (a : IV) (k r : List Int) : List.map (frzC 37 (rowI (k ++ r))) (rowS l ++ [.iv a, .slc 37 0 k.length 1]) = rowS l ++ [.iv a, .iv (.lst 1 k.length fun p o => civ ((rowI (k ++ r)).getD (p + o) .any))] := by
  rw [List.map_append, rowS_frz]
  have h : 0 + k.length * 1 ≤ (rowI (k ++ r)).length := by rw [rowI_len, List.length_append]; omega
  have e : (fun (p o : Nat) => civ ((rowI (k ++ r)).getD (0 + p * 1 + o) .any)) = fun p o => civ ((rowI (k ++ r)).getD (p + o) .any) := by funext p o; rw [Nat.zero_add, Nat.mul_one]
  show rowS l ++ [CV.iv a, if 37 = 37 then (if 0 + k.length * 1 ≤ (rowI (k ++ r)).length then CV.iv (.lst 1 k.length fun p o => civ ((rowI (k ++ r)).getD (0 + p * 1 + o) .any)) else .any) else CV.slc 37 0 k.length 1] = _
  rw [if_pos rfl, if_pos h, e]
def mark2 : Prop := True
theorem AW_ip2 {P : Program} {c : Code} {s : AS} {Q : Exit → AS → Prop} (t m : Nat) (f : Nat → IV) (h : s.get t = .t (.one (.ip m f))) (hA : AW P c { s with env := (t, .t (.one (.iv (.ptr m f)))) :: s.env } Q) : AW P c s Q := by
  obtain ⟨E, H, N, g, lp⟩ := s
  exact AW_ip t m f h hA
theorem st_f (n : Nat) (N : Nat → NotS) (ch : Int) (hn : n ≤ 9223372036854775807) (hN : ∀ i, i < n → (N i).Ok) (hB : StB n N ch = false) : CallsP Tryz.prog 15 [.one (.lst 7 n (notF N)), .one (.g (.int .i64 ch))] (.tup [.one (.lst 2 (StL n N ch).length (stpF (StL n N ch))), .one (.lst 1 (OpL n N ch).length (opsF (OpL n N ch))), .one (.g (.int .i64 (StE n N ch)))]) := by
  refine CallsP_of Tryz.func15 rfl (by rw [Tryz.ntmps15]; simp) ?_
  simp only [Tryz.ntmps15, zM, PT.tv, argEnv, Nat.zero_add, Nat.reduceAdd]
  repeat' (first
 | ((with_reducible show AW _ _ _ _); first
 | (with_reducible first | refine aS (fun K hK => ?_) | refine aI ?_ | refine aT ?_ | refine aC ?_)
 | ((with_reducible first | refine aP 0 [0,1,28,39,40] ?_ | refine aP 1 [0,1,28,39,40] ?_ | refine aP 2 [] ?_)))
 | ((first | (with_reducible refine And.intro ?_ ?_) | (with_reducible refine Need.mk ?_)); focus (first | exact True.intro | (simp; done)))
 | (with_reducible refine retK_n ?_)
 | ((with_reducible show condN _ _ _ _ _ _); first
 | ((with_reducible refine condN_t ?_ ?_) <;> (intro hc; (try simp only [zB, zC, reduceCtorEq] at hc); (try (exfalso; contradiction)))))
 | ((with_reducible show callN _ _ _ _ _ _ _ _ _ _); first
 | (refine callN_q (k := 50) fnok_50 (nts_p n N hn hN) ?_ ?_))
 | ((fail_if_success (with_reducible show AW _ _ _ _)); simp (maxSteps := 2000000) only [go_sem, reduceIte, reduceCtorEq, xA, xL, xD, xE, xM, xS, xB, Tryz.f15])
 | ((with_reducible refine hK _ ?_); clear hK K))
  all_goals (first | (have e := st_bad hB; rw [e.1, e.2.1, e.2.2]; (repeat' (first | exact rfl | (with_reducible refine And.intro ?_ ?_))); done) | exact (st_no hB hc).elim)
theorem st_t (n : Nat) (N : Nat → NotS) (ch : Int) (hn : n ≤ 9223372036854775807) (hN : ∀ i, i < n → (N i).Ok) (hB : StB n N ch = true) : CallsP Tryz.prog 15 [.one (.lst 7 n (notF N)), .one (.g (.int .i64 ch))] (.tup [.one (.lst 2 (StL n N ch).length (stpF (StL n N ch))), .one (.lst 1 (OpL n N ch).length (opsF (OpL n N ch))), .one (.g (.int .i64 (StE n N ch)))]) := by
  have hSt := hB
  have mkA : True := trivial
  have mkI : True := trivial
  have mkP : True := trivial
  have hps : True := trivial
  have h4 := st_spl hB
  have hw := h4.1
  have hn2 := h4.2.1
  have hc1 := h4.2.2
  refine CallsP_of Tryz.func15 rfl (by rw [Tryz.ntmps15]; simp) ?_
  simp only [Tryz.ntmps15, zM, PT.tv, argEnv, Nat.zero_add, Nat.reduceAdd]
  repeat' (first
 | ((with_reducible show AW _ _ _ _); first
 | (with_reducible first | refine aS (fun K hK => ?_) | refine aI ?_ | refine aX ?_ | refine aT ?_ | refine aC ?_ | refine aB ?_)
 | ((refine AW_rangeFuncH (k := 93) rfl Tryz.func93 rfl fnok_93 (by rw [Tryz.ntmps93]; simp) ?_ ?_ (fun l hlne A B hA hB => ?_)); (focus (simp (maxSteps := 2000000) only [go_sem, reduceIte, reduceCtorEq, xA, xL, xD, xE, xM, xS, xB, Tryz.f15, Tryz.f93, Tryz.f51, intI, hps, rowS_p30, rowS_f37, List.length_replicate, Nat.le_add_right, hw, hc1.1, hc1.2, rowI_pur, rowI_snoc, rowI_len, rowI_frz, rowS_put, rowS_pur, rowS_frz, rowS_len, rowO_pur, rowO_frz, rowO_snoc, rowO_len, maxLen, numL_0, numL_len, stpL_len, opsL_len, List.length_append, List.length_cons, List.length_nil, Nat.le_refl]; try exact True.intro)); (focus (simp (maxSteps := 2000000) only [go_sem, reduceIte, reduceCtorEq, xA, xL, xD, xE, xM, xS, xB, Tryz.f15, Tryz.f93, Tryz.f51, intI, hps, rowS_p30, rowS_f37, List.length_replicate, Nat.le_add_right, hw, hc1.1, hc1.2, rowI_pur, rowI_snoc, rowI_len, rowI_frz, rowS_put, rowS_pur, rowS_frz, rowS_len, rowO_pur, rowO_frz, rowO_snoc, rowO_len, maxLen, numL_0, numL_len, stpL_len, opsL_len, List.length_append, List.length_cons, List.length_nil, Nat.le_refl]; try exact True.intro)); simp only [Tryz.ntmps93, List.map_cons, List.map_nil, LV.tv, argEnv, yV, Nat.zero_add, Nat.reduceAdd]; clear hlne)
 | (with_reducible refine AW_eq (by assumption) ?_)
 | (first
 | ((with_reducible show AW _ (Code.region 7 _ _) _ _); (clear mkI); refine AW_frz [8,0] ?_ (AW_ip2 7 _ _ rfl ?_))
 | (with_reducible first | refine aP (ops := #[⟨some 4, _, _, _, _, _⟩, _, _]) 0 [0,1,28,39,40] ?_ | refine aP (ops := #[⟨some 8, _, _, _, _, _⟩, _, _]) 0 [0,1,2] ?_ | refine aP (ops := #[⟨some 2, _, _, _, _, _⟩, _, _]) 0 [0,1] ?_ | refine aP (ops := #[⟨some 14, _, _, _, _, _⟩, _, _, _, _, _, _, _, _, _, _]) 1 [0,1,28,39,40] ?_ | refine aP (ops := #[⟨some 11, _, _, _, _, _⟩]) 1 [0,2,8,9,10] ?_ | refine aP (ops := #[⟨some 5, _, _, _, _, _⟩, _]) 1 [2,3] ?_ | refine aP (ops := #[⟨some 12, _, _, _, _, _⟩, _, _, _]) 2 [0,2,8,9,10] ?_ | refine aP (ops := #[⟨some 7, _, _, _, _, _⟩]) 3 [0,1,28,39,40] ?_ | refine aP (ops := #[⟨some 15, _, _, _, _, _⟩, _, _, _, _, _, _, _, _]) 3 [0,2,5,8,9,10] ?_ | refine aP (ops := #[⟨some 25, _, _, _, _, _⟩, _, _]) 4 [0,1,7,28,39,40] ?_ | refine aP (ops := #[⟨some 20, _, _, _, _, _⟩, _, _, _, _, _, _, _, _, _, _, _, _]) 4 [0,2,5,6,7,8,9,10] ?_ | refine aP (ops := #[⟨some 8, _, _, _, _, _⟩, _]) 5 [0,1,7,28,39,40] ?_ | refine aP (ops := #[⟨some 33, _, _, _, _, _⟩, _]) 5 [0,2,8,9,10] ?_ | refine aP 6 [0,1,7,8,28,39,40] ?_ | refine aP 7 [0,1,7,39,40] ?_ | refine aP 8 [0,1,9,39,40] ?_ | refine aP 9 [0,1,9,10,39,40] ?_ | refine aP 10 [0,1,9,10,11,39,40] ?_ | refine aP 11 [9,10,11,39,40] ?_ | refine aP 12 [9,10,11,12,39,40] ?_)
 | ((with_reducible refine aR (c := Code.region 13 _ true) [9,10,11,12,13,39,40] ?_); (with_reducible refine AW_regionB 10 ?_ ?_ ?_ ?_ ?_); (focus kernel_rfl); (focus kernel_rfl); (focus kernel_rfl); (focus kernel_rfl))
 | (with_reducible refine AW_frz (c := Code.region 14 _ false) [37] ?_ (aP 14 [9,10,11,13,39,40] ?_))
 | ((with_reducible refine aR (c := Code.region 15 _ true) [10,11] ?_); (with_reducible refine aD ?_ ?_ ?_ ?_); (focus kernel_rfl); (focus kernel_rfl); (focus kernel_rfl)))
 | ((with_reducible show AW _ (Code.loop _) _ _); first
 | ((with_reducible refine aL (c := (Code.seq (Code.region 1 _ _) _)) (ι := Nat) [0,2,8,9] (fun u => [(10, iA .i64 (u : Int))]) (fun u => [(0, [.slc 8 0 (cnI N ch u).length 1]), (8, rowI (numL N ch u))]) (fun u => u ≤ n) (fun u => n - u) 0 ?lg1 ?l11 ?l21 ?li1 ?lr1); (case' lg1 => rintro u _); (case' li1 => try (omega)); (case' lr1 => rintro u hu KR hR1; have oL := cnI_le N ch u; simp only [keepE, hupd, hset, lk, if_true, if_false, xE, reduceIte, zN, hps, rowS_p30, rowS_f37, List.length_replicate, Nat.le_add_right, hw, hc1.1, hc1.2, rowI_pur, rowI_snoc, rowI_len, rowI_frz, rowS_put, rowS_pur, rowS_frz, rowS_len, rowO_pur, rowO_frz, rowO_snoc, rowO_len, maxLen, numL_0, numL_len, stpL_len, opsL_len, List.length_append, List.length_cons, List.length_nil, Nat.le_refl]))))
 | ((refine callGK_s ?_ ?_) <;> (intro hc; (try rw [hc]); (try simp only [zB, zC, reduceCtorEq] at hc); (try (exfalso; contradiction))); (try (have hpb : prtB (N i) ch = true ∧ (N i).kd = 1 := (by assumption); clear mkP; clear hps; have hps := prtS_e hpb.1; have hbd := prt_bd ((nts_n hw).2 i (by omega)).1 hpb.1; have hkL := keepL_le (numL N ch n) (prt (N i) ch).a (prt (N i) ch).q)))
 | ((first | (with_reducible refine And.intro ?_ ?_) | (with_reducible refine Need.mk ?_)); focus (first | exact rowI_iv _ | first | exact True.intro | omega | (simp; done)))
 | (with_reducible refine retK_n ?_)
 | ((with_reducible show condN _ _ _ _ _ _); first
 | ((with_reducible refine condN_t ?_ ?_) <;> (intro hc; (try simp only [zB, zC, reduceCtorEq] at hc); ((try (have oL := cnI_le N ch i)); (try (have oL := cnI_le N ch u)); (try (have hNi := (hN i (by omega)).n)); (try (have hNi := (hN u (by omega)).n)); (try (have e0 : n = u := (by omega); subst e0; have mkB : mark2 := trivial))); (try (exfalso; omega)))))
 | ((with_reducible refine And.intro ?_ ?_); focus (((with_reducible show chkS _ _ _ _ = true); kernel_rfl)))
 | ((with_reducible refine And.intro ?_ ?_); focus ((with_reducible show chkR _ _ _ = true); kernel_rfl))
 | ((with_reducible show callN _ _ _ _ _ _ _ _ _ _); first
 | (refine callN_q (k := 50) fnok_50 (nts_p n N hn hN) ?_ ?_)
 | (refine callN_q (k := 65) fnok_65 (prtF_p (N i) ch (hN i (by omega))) ?_ ?_)
 | (refine callN_q (k := 65) fnok_65 (prtF_p (N u) ch (hN u (by omega))) ?_ ?_)
 | ((refine callN_i (k := 51) Tryz.func51 rfl fnok_51 (by rw [Tryz.ntmps51]; simp) ?_ ?_ (fun K hK => ?_)); (focus (exact True.intro)); (focus ((simp [lsF]; done))); simp only [Tryz.ntmps51, List.map_cons, List.map_nil, List.nil_append, List.cons_append, List.append_nil, LV.tv, argEnv, Nat.zero_add, Nat.reduceAdd]))
 | ((with_reducible show callDN _ _ _ _ _ _ _ _ _ _ _ _ _); first
 | (refine callDN_tq (k := 54) fnok_54 (del_k (numL N ch n) _ _ (numL_len _ _ _).symm _ _ (by exact num_eqv3 (numL_len _ _ _).symm) (by omega) (by rw [numL_len]; omega) _) ?_ rfl ?_ ?_)
 | (refine callDN_nq (k := 55) fnok_55 (clone_r _ _ (by omega)) ?_ ?_))
 | ((have q1 : mark2 := (by assumption); with_reducible refine aL (c := (Code.seq (Code.region 1 _ _) _)) (ι := Nat) [0,2,8,9] (fun i => [(10, iA .i64 (i : Int))]) (fun i => [(10, [.slc 30 0 (cnI N ch i).length 2]), (11, [.slc 31 0 (cnI N ch i).length 1]), (30, rowS (stpL N ch (numL N ch n) i)), (31, rowO (opsL N ch i))]) (fun i => i ≤ n) (fun i => n - i) 0 ?lg1b ?l11b ?l21b ?li1b ?lr1b); (case' lg1b => rintro i _); (case' li1b => try (omega)); (case' lr1b => rintro i hi KR hR1b; have oL := cnI_le N ch i; simp only [keepE, hupd, hset, lk, if_true, if_false, xE, reduceIte, zN, hps, rowS_p30, rowS_f37, List.length_replicate, Nat.le_add_right, hw, hc1.1, hc1.2, rowI_pur, rowI_snoc, rowI_len, rowI_frz, rowS_put, rowS_pur, rowS_frz, rowS_len, rowO_pur, rowO_frz, rowO_snoc, rowO_len, maxLen, numL_0, numL_len, stpL_len, opsL_len, List.length_append, List.length_cons, List.length_nil, Nat.le_refl]))
 | ((with_reducible refine hR1b _ (i + 1) ?_); (try clear hR1b KR))
 | ((with_reducible refine hR1 _ (u + 1) ?_); (try clear hR1 KR))
 | ((with_reducible refine Told.mk ?_); simp only [go_sem, reduceIte, reduceCtorEq, xA, xL, xD, xE, xM, xS, xB, intI, hps, rowS_p30, rowS_f37, List.length_replicate, Nat.le_add_right, hw, hc1.1, hc1.2, rowI_pur, rowI_snoc, rowI_len, rowI_frz, rowS_put, rowS_pur, rowS_frz, rowS_len, rowO_pur, rowO_frz, rowO_snoc, rowO_len, maxLen, numL_0, numL_len, stpL_len, opsL_len, List.length_append, List.length_cons, List.length_nil, Nat.le_refl] <;> (first | (((try simp (disch := omega) only [seaWrap, Int.natCast_add, Int.cast_ofNat_Int, and_true, true_and, and_self]); (repeat' (first | omega | rfl | (with_reducible refine And.intro ?_ ?_) | ((rw [stpL_f (cnc_f (by assumption))]; exact wkC_eq rfl (rowS_iv _))) | ((rw [opsL_f (cnc_f (by assumption))]; exact wkC_eq rfl (rowO_iv _))) | ((first | (rw [cnI_t (cnc_t (by assumption))]) | (rw [cnI_f (cnc_f (by assumption))]))) | ((rw [stpL_t (cnc_t (by assumption))]; exact wk_step (s := stpO (numL N ch n) (N i) (prt (N i) ch)) fun i o hi ho => row_pre _ _ i o hi ho)) | ((rw [opsL_t (cnc_t (by assumption))]; exact wkC_eq rfl (rowO_iv _))) | ((simp only [List.length_append, List.length_cons, List.length_nil, Nat.zero_add]; done)))); done)) | (((try simp (disch := omega) only [seaWrap, Int.natCast_add, Int.cast_ofNat_Int, and_true, true_and, and_self]); (repeat' (first | omega | (with_reducible refine And.intro ?_ ?_) | ((first | rw [numL_t (cnc_t (by assumption))] | rw [numL_f (cnc_f (by assumption))] | rw [cnI_t (cnc_t (by assumption))] | rw [cnI_f (cnc_f (by assumption))])) | ((exact wkC_eq rfl (rowI_iv _))) | ((simp only [List.length_append, List.length_cons, List.length_nil, Nat.zero_add]; done)))); done))))
 | ((fail_if_success (with_reducible show AW _ _ _ _)); simp (maxSteps := 2000000) only [go_sem, reduceIte, reduceCtorEq, xA, xL, xD, xE, xM, xS, xB, Tryz.f15, Tryz.f93, Tryz.f51, intI, hps, rowS_p30, rowS_f37, List.length_replicate, Nat.le_add_right, hw, hc1.1, hc1.2, rowI_pur, rowI_snoc, rowI_len, rowI_frz, rowS_put, rowS_pur, rowS_frz, rowS_len, rowO_pur, rowO_frz, rowO_snoc, rowO_len, maxLen, numL_0, numL_len, stpL_len, opsL_len, List.length_append, List.length_cons, List.length_nil, Nat.le_refl])
 | ((with_reducible show callN _ _ _ _ _ _ (.yld _) _ _ _); (refine callN_y (by simp only [lkL, if_true]; exact rfl) ?_ (by simp) ?_ ?_ (fun K hK => ?_)); (focus (exact True.intro)); (focus (simp [ltAll])); (focus ((simp [lsF]; done))); simp only [zipPut, gf, if_true, Nat.reduceAdd])
 | ((with_reducible refine hK _ ?_); clear hK K)
 | (with_reducible apply_assumption -exfalso only [*]))
  all_goals ((have e := st_ok hSt; have e0 : n = i := (by omega); subst e0; rw [e.1, e.2.1, e.2.2]; refine ⟨⟨fun c hc9 => ?_, fun c hc9 => ?_⟩, ⟨(stpL_len _ _ _ _).symm, fun i o hi ho => rowS_eqv _ i o (by rw [stpL_len]; exact hi) ho⟩, ⟨(opsL_len _ _ _).symm, fun i o hi ho => rowO_eqv2 _ i o (by rw [opsL_len]; exact hi) ho⟩, rfl⟩; (have := rowS_iv _ c hc9; cases c <;> trivial); (have := rowO_iv _ c hc9; cases c <;> trivial)))
theorem st_p (n : Nat) (N : Nat → NotS) (ch : Int) (hn : n ≤ 9223372036854775807) (hN : ∀ i, i < n → (N i).Ok) : CallsP Tryz.prog 15 [.one (.lst 7 n (notF N)), .one (.g (.int .i64 ch))] (.tup [.one (.lst 2 (StL n N ch).length (stpF (StL n N ch))), .one (.lst 1 (OpL n N ch).length (opsF (OpL n N ch))), .one (.g (.int .i64 (StE n N ch)))]) := by
  cases hB : StB n N ch with
  | false => exact st_f n N ch hn hN hB
  | true => exact st_t n N ch hn hN hB
end Go.Proofs.YtdhgiklbkmkblaaGreat
namespace Go.Proofs.YtdhgiklbkmkblaaGreat
open Go.RowKit Go.Sea
def opZ (kd d s : Int) : OpS := ⟨kd, 1, feat0, 0, 0, 0, d, s⟩
def plnP (ch af : Int) (op : OpS) : PartS := ⟨ch, if 0 < af then 1 else 0, fun _ => af, 1, fun _ => op⟩
def plnN (nu ch af : Int) (op : OpS) : NotS := ⟨1, nu, 1, 0, 0, 0, 1, fun _ => plnP ch af op⟩
def ntcN : Nat → NotS
  | 0 => plnN 4 7 0 (opZ 5 0 0)
  | 1 => plnN 5 7 4 (opZ 4 20 0)
  | 2 => plnN 6 8 0 (opZ 5 0 0)
  | 3 => plnN 7 7 5 (opZ 5 0 2)
  | _ => plnN 9 7 8 (opZ 2 0 0)
def wrkF : Feat := ⟨1, 2, 0, 0, 5, 0, fun _ _ => 0, 30, 0, 0, fun _ _ => 0⟩
def wrkS : ShtS := ⟨7, 1, 3, ⟨1000000, 0, 0, 0, 1000000, 0, 0⟩, 100000, 1, fun _ => 4, 1, fun _ => wrkF⟩
def g1 (x : Int) (i : Nat) : Int := x
def g2 (x y : Int) (i : Nat) : Int := if i = 0 then x else y
theorem hd_s : shtB wrkS = true := by kernel_rfl
theorem hd_1 : ApE wrkS (ntcN 1) = 0 := by kernel_rfl
attribute [go_sem] hd_1
theorem hd_1n : (ApS wrkS (ntcN 1)).n = 1 := by kernel_rfl
theorem hd_1d : ((ApS wrkS (ntcN 1)).f 0).d = 20 := by kernel_rfl
theorem hd_1q : eqLI (ApS wrkS (ntcN 1)).q 2 (ApS wrkS (ntcN 1)).dn (g2 4 5) = true := by kernel_rfl
theorem hd_3 : ApE wrkS (ntcN 3) = 16 := by kernel_rfl
theorem hd_0 : ApE wrkS (ntcN 0) = 5 := by kernel_rfl
theorem hd_2 : ApE wrkS (ntcN 2) = 4 := by kernel_rfl
attribute [go_sem] hd_3 hd_0 hd_2
theorem hd_u : UpV wrkS 5 ntcN = 4 ∧ UpE wrkS 5 ntcN = 0 := ⟨by kernel_rfl, by kernel_rfl⟩
theorem hd_x : NxV wrkS 5 ntcN = 5 ∧ NxE wrkS 5 ntcN = 0 := ⟨by kernel_rfl, by kernel_rfl⟩
theorem hd_c1 : CorI wrkS 5 ntcN 1 (g1 7) = 0 ∧ CorE wrkS 5 ntcN 1 (g1 7) = 16 := ⟨by kernel_rfl, by kernel_rfl⟩
theorem hd_c2 : CorI wrkS 5 ntcN 2 (g2 5 7) = -1 ∧ CorE wrkS 5 ntcN 2 (g2 5 7) = 0 := ⟨by kernel_rfl, by kernel_rfl⟩
theorem hd_c3 : (CorS wrkS 5 ntcN 2 (g2 5 7)).ed = 3 := by kernel_rfl
theorem hd_m : MkE wrkS 4 ntcN = 0 ∧ (MkS wrkS 4 ntcN).ed = 4 := ⟨by kernel_rfl, by kernel_rfl⟩
theorem hd_m5 : MkE wrkS 5 ntcN = 16 := by kernel_rfl
theorem hd_b : BrE wrkS (MkS wrkS 4 ntcN) 4 ntcN = 0 := by kernel_rfl
theorem hd_bl : eqLI (BrL wrkS (MkS wrkS 4 ntcN) 4 ntcN).length 2 (zL (BrL wrkS (MkS wrkS 4 ntcN) 4 ntcN)) (g2 5 7) = true := by kernel_rfl
theorem hd_p : CpV (CorS wrkS 5 ntcN 2 (g2 5 7)) (MkS wrkS 4 ntcN) = 0 ∧ CpE (CorS wrkS 5 ntcN 2 (g2 5 7)) (MkS wrkS 4 ntcN) = 0 := ⟨by kernel_rfl, by kernel_rfl⟩
theorem hd_u4 : UpV (MkS wrkS 4 ntcN) 4 ntcN = 7 ∧ UpE (MkS wrkS 4 ntcN) 4 ntcN = 0 := ⟨by kernel_rfl, by kernel_rfl⟩
theorem hd_u5 : UpV (MkS wrkS 4 ntcN) 5 ntcN = 7 ∧ UpE (MkS wrkS 4 ntcN) 5 ntcN = 0 := ⟨by kernel_rfl, by kernel_rfl⟩
theorem hd_st : StE 5 ntcN 7 = 0 ∧ (StL 5 ntcN 7).length = 4 ∧ (OpL 5 ntcN 7).length = 4 := ⟨by kernel_rfl, by kernel_rfl, by kernel_rfl⟩
theorem hd_s3 : ((StL 5 ntcN 7).getD 3 stp0).q = 0 := by kernel_rfl
theorem hd_s2 : eqLI ((StL 5 ntcN 7).getD 2 stp0).q 1 ((StL 5 ntcN 7).getD 2 stp0).a (g1 5) = true := by kernel_rfl
end Go.Proofs.YtdhgiklbkmkblaaGreat
set_option maxRecDepth 100000
set_option maxHeartbeats 4000000
namespace Go.Proofs.YtdhgiklbkmkblaaGreat
open Go.RowKit Go.Sea
open Nat renaming reduceAdd → xA, reduceLT → xL, reduceLeDiff → xD, reduceEqDiff → xE, reduceMul → xM, reduceSub → xS, reduceBEq → xB
theorem ar_38 : arD Tryz.prog 38 = none := by kernel_rfl
theorem fnok_12 : fnOk Tryz.prog 12 = true := by kernel_rfl
theorem fnok_15 : fnOk Tryz.prog 15 = true := by kernel_rfl
theorem fnok_19 : fnOk Tryz.prog 19 = true := by kernel_rfl
theorem fnok_21 : fnOk Tryz.prog 21 = true := by kernel_rfl
theorem fnok_23 : fnOk Tryz.prog 23 = true := by kernel_rfl
theorem fnok_25 : fnOk Tryz.prog 25 = true := by kernel_rfl
theorem fnok_27 : fnOk Tryz.prog 27 = true := by kernel_rfl
theorem fnok_29 : fnOk Tryz.prog 29 = true := by kernel_rfl
theorem fnok_39 : fnOk Tryz.prog 39 = true := by kernel_rfl
theorem fnok_40 : fnOk Tryz.prog 40 = true := by kernel_rfl
theorem fnok_78 : fnOk Tryz.prog 78 = true := by kernel_rfl
theorem fo_23 : fieldsOk Tryz.prog 23 = true := by kernel_rfl
theorem le_38 : lenD Tryz.prog 38 = some true := by kernel_rfl
theorem le_39 : lenD Tryz.prog 39 = some true := by kernel_rfl
theorem pl_23_0 : placeF Tryz.prog 23 0 = some (0, 1) := by kernel_rfl
theorem pl_23_4 : placeF Tryz.prog 23 4 = some (4, 1) := by kernel_rfl
theorem pl_27_0 : placeF Tryz.prog 27 0 = some (0, 1) := by kernel_rfl
theorem pl_27_1 : placeF Tryz.prog 27 1 = some (1, 1) := by kernel_rfl
theorem pl_27_2 : placeF Tryz.prog 27 2 = some (2, 1) := by kernel_rfl
theorem pl_27_3 : placeF Tryz.prog 27 3 = some (3, 7) := by kernel_rfl
theorem pl_27_4 : placeF Tryz.prog 27 4 = some (10, 1) := by kernel_rfl
theorem pl_27_5 : placeF Tryz.prog 27 5 = some (11, 1) := by kernel_rfl
theorem pl_30_0 : placeF Tryz.prog 30 0 = some (0, 1) := by kernel_rfl
theorem pl_30_1 : placeF Tryz.prog 30 1 = some (1, 1) := by kernel_rfl
theorem pl_30_2 : placeF Tryz.prog 30 2 = some (2, 1) := by kernel_rfl
theorem pl_30_6 : placeF Tryz.prog 30 6 = some (6, 1) := by kernel_rfl
theorem pl_58_0 : placeF Tryz.prog 58 0 = some (0, 1) := by kernel_rfl
theorem pl_58_2 : placeF Tryz.prog 58 2 = some (2, 1) := by kernel_rfl
theorem pl_75_0 : placeF Tryz.prog 75 0 = some (0, 1) := by kernel_rfl
theorem pl_75_1 : placeF Tryz.prog 75 1 = some (1, 1) := by kernel_rfl
theorem pl_75_3 : placeF Tryz.prog 75 3 = some (4, 1) := by kernel_rfl
theorem pl_75_5 : placeF Tryz.prog 75 5 = some (6, 1) := by kernel_rfl
theorem pl_91_5 : placeF Tryz.prog 91 5 = some (14, 1) := by kernel_rfl
theorem pl_91_6 : placeF Tryz.prog 91 6 = some (15, 1) := by kernel_rfl
theorem zc_23 : zeroC Tryz.prog 23 = some [.iv (.g (.int .i64 0)), .iv (.g (.int .i64 0)), .iv (.g (.int .i64 0)), .iv (.g (.int .i64 0)), .iv (.g (.int .i64 0)), .iv (.g (.int .i64 0)), .iv (.g (.int .i64 0))] := by kernel_rfl
attribute [go_sem] ar_38 fnok_12 fnok_15 fnok_19 fnok_21 fnok_23 fnok_25 fnok_27 fnok_29 fnok_39 fnok_40 fnok_78 fo_23 le_38 le_39 pl_23_0 pl_23_4 pl_27_0 pl_27_1 pl_27_2 pl_27_3 pl_27_4 pl_27_5 pl_30_0 pl_30_1 pl_30_2 pl_30_6 pl_58_0 pl_58_2 pl_75_0 pl_75_1 pl_75_3 pl_75_5 pl_91_5 pl_91_6 zc_23
theorem plnP_a (ch af : Int) (op : OpS) (h : 0 < af) : plnP ch af op = ⟨ch, 1, fun _ => af, 1, fun _ => op⟩ := by unfold plnP; rw [if_pos h]
theorem plnP_0 (ch : Int) (op : OpS) : plnP ch 0 op = ⟨ch, 0, fun _ => 0, 1, fun _ => op⟩ := rfl
theorem pln_z (nu ch af kd d s : Int) (h0 : af = 0) : CallsP Tryz.prog 78 [.one (.g (.int .i64 nu)), .one (.g (.int .i64 ch)), .one (.g (.int .i64 af)), .agg [.g (.int .i64 kd), .g (.int .i64 1), .g (.int .i64 0), .g (.int .i64 0), .g (.int .i64 0), .g (.int .i64 0), .g (.int .i64 0), .g (.slice none 0 0), .g (.int .i64 0), .g (.int .i64 0), .g (.slice none 0 0), .g (.int .i64 0), .g (.int .i64 0), .g (.int .i64 0), .g (.int .i64 d), .g (.int .i64 s)]] (.t ((noP (plnN nu ch af (opZ kd d s))))) := by
  refine CallsP_of Tryz.func78 rfl (by rw [Tryz.ntmps78]; simp) ?_
  simp only [noP, Tryz.ntmps78, zM, PT.tv, argEnv, Nat.zero_add, Nat.reduceAdd]
  repeat' (first
 | ((with_reducible show AW _ _ _ _); first
 | (with_reducible first | refine aS (fun K hK => ?_) | refine aI ?_ | refine aT ?_ | refine aC ?_)
 | (first
 | (with_reducible first | refine aP 0 [0,1,2,3] ?_ | refine aP 1 [0,1,2,7,8] ?_ | refine aP 2 [0,2,8,9] ?_ | refine AW_frz (c := Code.region 4 _ false) [2] ?_ (aP 4 [0,8,9] ?_))))
 | ((first | (with_reducible refine And.intro ?_ ?_) | (with_reducible refine Need.mk ?_)); focus (exact True.intro))
 | (with_reducible refine retK_n ?_)
 | ((with_reducible show condN _ _ _ _ _ _); first
 | ((with_reducible refine condN_t ?_ ?_) <;> (intro hc; (try simp only [zB, zC, reduceCtorEq] at hc); (try (exfalso; contradiction)))))
 | ((fail_if_success (with_reducible show AW _ _ _ _)); simp (maxSteps := 2000000) only [go_sem, reduceIte, reduceCtorEq, xA, xL, xD, xE, xM, xS, xB, Tryz.f78, h0, Int.lt_irrefl])
 | ((with_reducible refine hK _ ?_); clear hK K))
  all_goals ((refine ⟨rfl, rfl, rfl, rfl, rfl, rfl, rfl, fun i o hi ho => ?_⟩; obtain rfl : i = 0 := (by omega); show IV.eqv _ (partG (plnP ch 0 (opZ kd d s)) o); rw [plnP_0]; rcases (by omega : o = 0 ∨ o = 1 ∨ o = 2) with rfl | rfl | rfl; (rfl); (exact ⟨rfl, rfl⟩); (refine ⟨rfl, rfl, fun p u hp hu => ?_⟩; obtain rfl : p = 0 := (by omega); rcases (by omega : u = 0 ∨ u = 1 ∨ u = 2 ∨ u = 3 ∨ u = 4 ∨ u = 5 ∨ u = 6 ∨ u = 7 ∨ u = 8 ∨ u = 9 ∨ u = 10 ∨ u = 11 ∨ u = 12 ∨ u = 13 ∨ u = 14 ∨ u = 15) with rfl | rfl | rfl | rfl | rfl | rfl | rfl | rfl | rfl | rfl | rfl | rfl | rfl | rfl | rfl | rfl <;> first | rfl | exact ⟨rfl, rfl⟩)))
theorem pln_a (nu ch af kd d s : Int) (h0 : 0 < af) : CallsP Tryz.prog 78 [.one (.g (.int .i64 nu)), .one (.g (.int .i64 ch)), .one (.g (.int .i64 af)), .agg [.g (.int .i64 kd), .g (.int .i64 1), .g (.int .i64 0), .g (.int .i64 0), .g (.int .i64 0), .g (.int .i64 0), .g (.int .i64 0), .g (.slice none 0 0), .g (.int .i64 0), .g (.int .i64 0), .g (.slice none 0 0), .g (.int .i64 0), .g (.int .i64 0), .g (.int .i64 0), .g (.int .i64 d), .g (.int .i64 s)]] (.t ((noP (plnN nu ch af (opZ kd d s))))) := by
  refine CallsP_of Tryz.func78 rfl (by rw [Tryz.ntmps78]; simp) ?_
  simp only [noP, Tryz.ntmps78, zM, PT.tv, argEnv, Nat.zero_add, Nat.reduceAdd]
  repeat' (first
 | ((with_reducible show AW _ _ _ _); first
 | (with_reducible first | refine aS (fun K hK => ?_) | refine aT ?_ | refine aC ?_)
 | (first
 | (with_reducible first | refine aP 0 [0,1,2,3] ?_ | refine aP 1 [0,1,2,7,8] ?_ | refine aP 2 [0,2,8,9] ?_ | refine aP 3 [0,2,8,9] ?_ | refine AW_frz (c := Code.region 4 _ false) [2,4] ?_ (aP 4 [0,8,9] ?_))))
 | ((first | (with_reducible refine And.intro ?_ ?_) | (with_reducible refine Need.mk ?_)); focus (exact True.intro))
 | (with_reducible refine retK_n ?_)
 | ((with_reducible show condN _ _ _ _ _ _); first
 | ((with_reducible refine condN_t ?_ ?_) <;> (intro hc; (try simp only [zB, zC, reduceCtorEq] at hc); (try (exfalso; omega)))))
 | ((fail_if_success (with_reducible show AW _ _ _ _)); simp (maxSteps := 2000000) only [go_sem, reduceIte, reduceCtorEq, xA, xL, xD, xE, xM, xS, xB, Tryz.f78])
 | ((with_reducible refine hK _ ?_); clear hK K))
  all_goals ((refine ⟨rfl, rfl, rfl, rfl, rfl, rfl, rfl, fun i o hi ho => ?_⟩; obtain rfl : i = 0 := (by omega); show IV.eqv _ (partG (plnP ch af (opZ kd d s)) o); rw [plnP_a _ _ _ h0]; rcases (by omega : o = 0 ∨ o = 1 ∨ o = 2) with rfl | rfl | rfl; (rfl); (exact ⟨rfl, rfl, fun p q hp hq => (by obtain rfl : p = 0 := (by omega); obtain rfl : q = 0 := (by omega); rfl)⟩); (refine ⟨rfl, rfl, fun p u hp hu => ?_⟩; obtain rfl : p = 0 := (by omega); rcases (by omega : u = 0 ∨ u = 1 ∨ u = 2 ∨ u = 3 ∨ u = 4 ∨ u = 5 ∨ u = 6 ∨ u = 7 ∨ u = 8 ∨ u = 9 ∨ u = 10 ∨ u = 11 ∨ u = 12 ∨ u = 13 ∨ u = 14 ∨ u = 15) with rfl | rfl | rfl | rfl | rfl | rfl | rfl | rfl | rfl | rfl | rfl | rfl | rfl | rfl | rfl | rfl <;> first | rfl | exact ⟨rfl, rfl⟩)))
theorem ntc_p  : CallsP Tryz.prog 39 [] (.t (.one (.lst 7 5 (notF ntcN)))) := by
  refine CallsP_of Tryz.func39 rfl (by rw [Tryz.ntmps39]; simp) ?_
  simp only [Tryz.ntmps39, zM, PT.tv, argEnv, Nat.zero_add, Nat.reduceAdd]
  repeat' (first
 | ((with_reducible show AW _ _ _ _); first
 | (with_reducible first | refine aS (fun K hK => ?_) | refine aT ?_)
 | (first
 | (with_reducible first | refine aP 0 [] ?_ | refine aP 1 [] ?_)))
 | (((with_reducible refine Need.mk ?_)); focus (exact True.intro))
 | (with_reducible refine retK_n ?_)
 | ((with_reducible show callN _ _ _ _ _ _ _ _ _ _); first
 | (refine callN_q (k := 78) fnok_78 (pln_z 4 7 0 5 0 0 rfl) ?_ ?_)
 | (refine callN_q (k := 78) fnok_78 (pln_a 5 7 4 4 20 0 (by omega)) ?_ ?_)
 | (refine callN_q (k := 78) fnok_78 (pln_z 6 8 0 5 0 0 rfl) ?_ ?_)
 | (refine callN_q (k := 78) fnok_78 (pln_a 7 7 5 5 0 2 (by omega)) ?_ ?_)
 | (refine callN_q (k := 78) fnok_78 (pln_a 9 7 8 2 0 0 (by omega)) ?_ ?_))
 | ((fail_if_success (with_reducible show AW _ _ _ _)); simp (maxSteps := 2000000) only [go_sem, reduceIte, reduceCtorEq, xA, xL, xD, xE, xM, xS, xB, Tryz.f39])
 | ((with_reducible refine hK _ ?_); clear hK K))
  all_goals ((intro i u hi hu; rcases (by omega : i = 0 ∨ i = 1 ∨ i = 2 ∨ i = 3 ∨ i = 4) with rfl | rfl | rfl | rfl | rfl <;> rcases (by omega : u = 0 ∨ u = 1 ∨ u = 2 ∨ u = 3 ∨ u = 4 ∨ u = 5 ∨ u = 6) with rfl | rfl | rfl | rfl | rfl | rfl | rfl <;> exact IV.eqv_refl _))
theorem wrk_p  : CallsP Tryz.prog 40 [] (.t ((shP wrkS))) := by
  refine CallsP_of Tryz.func40 rfl (by rw [Tryz.ntmps40]; simp) ?_
  simp only [shP, Tryz.ntmps40, zM, PT.tv, argEnv, Nat.zero_add, Nat.reduceAdd]
  repeat' (first
 | ((with_reducible show AW _ _ _ _); first
 | (with_reducible first | refine aS (fun K hK => ?_) | refine aT ?_)
 | (first
 | (with_reducible first | refine aP 0 [] ?_ | refine aP 1 [0] ?_ | refine aP 2 [0,1] ?_ | refine aP 3 [0,1] ?_)))
 | (with_reducible refine retK_n ?_)
 | ((fail_if_success (with_reducible show AW _ _ _ _)); simp (maxSteps := 2000000) only [go_sem, reduceIte, reduceCtorEq, xA, xL, xD, xE, xM, xS, xB, Tryz.f40])
 | ((with_reducible refine hK _ ?_); clear hK K))
  all_goals ((refine ⟨rfl, rfl, rfl, rfl, rfl, rfl, rfl, rfl, rfl, rfl, rfl, ⟨rfl, fun i o hi ho => ?_⟩, rfl, fun i u hi hu => ?_⟩; (obtain rfl : i = 0 := (by omega); obtain rfl : o = 0 := (by omega); rfl); (obtain rfl : i = 0 := (by omega); rcases (by omega : u = 0 ∨ u = 1 ∨ u = 2 ∨ u = 3 ∨ u = 4 ∨ u = 5 ∨ u = 6 ∨ u = 7 ∨ u = 8) with rfl | rfl | rfl | rfl | rfl | rfl | rfl | rfl | rfl <;> first | rfl | exact ⟨rfl, rfl⟩)))
theorem ints_q (q : Nat) (a : Nat → Int) (m : Nat) (G : Nat → Int) (F : Nat → Nat → IV) (hq : q ≤ 9223372036854775807) (hm : m ≤ 9223372036854775807) (h : ∀ i o, i < m → o < 1 → (F i o).eqv (.g (.int .i64 (G i)))) : CallsP Tryz.prog 17 [.one (.lst 1 q (intI a)), .one (.lst 1 m F)] (.t (.one (.g (.bool (eqLI q m a G))))) :=
  (ints18_p q m a G hq hm).eqv (args' := [.one (.lst 1 q (intI a)), .one (.lst 1 m F)]) ⟨IV.eqv_refl _, ⟨rfl, rfl, h⟩, trivial⟩ (PV.eqv_refl _)
theorem cor_q (s : ShtS) (n : Nat) (N : Nat → NotS) (k : Nat) (od : Nat → Int) (hs : s.Ok) (hn : n ≤ 9223372036854775807) (hN : ∀ i, i < n → (N i).Ok) (hk : k ≤ 9223372036854775807) (F : Nat → Nat → IV) (h : ∀ i o, i < k → o < 1 → (F i o).eqv (.g (.int .i64 (od i)))) : CallsP Tryz.prog 19 [(shP s), .one (.lst 7 n (notF N)), .one (.lst 1 k F)] (.tup [(shP (CorS s n N k od)), .one (.g (.int .i64 (CorI s n N k od))), .one (.g (.int .i64 (CorE s n N k od)))]) :=
  (cor_p s n N k od hs hn hN hk).eqv ⟨PT.eqv_refl _, PT.eqv_refl _, ⟨rfl, rfl, h⟩, trivial⟩ (PV.eqv_refl _)
theorem hd_q1 : (ApS wrkS (ntcN 1)).q = 2 := by kernel_rfl
theorem hd_q2 : (BrL wrkS (MkS wrkS 4 ntcN) 4 ntcN).length = 2 := by kernel_rfl
theorem hd_q3 : ((StL 5 ntcN 7).getD 2 stp0).q = 1 := by kernel_rfl
theorem wrk_ok : wrkS.Ok := sht_ok hd_s
theorem plnN_ok (nu ch af : Int) (op : OpS) (h : op.f.Ok) : (plnN nu ch af op).Ok := ⟨(show (1 : Nat) ≤ 9223372036854775807 from by decide), fun j hj => ⟨(show (if 0 < af then 1 else 0 : Nat) ≤ 9223372036854775807 from by split <;> decide), (show (1 : Nat) ≤ 9223372036854775807 from by decide), fun k hk => h⟩⟩
theorem ntc_ok (i : Nat) : (ntcN i).Ok := by
  rcases i with _ | _ | _ | _ | i <;> exact plnN_ok _ _ _ _ feat0_ok
theorem mks_ok : (MkS wrkS 4 ntcN).Ok := by
  have h : shtB (MkS wrkS 4 ntcN) = true := by kernel_rfl
  exact sht_ok h
theorem cors_ok : (CorS wrkS 5 ntcN 2 (g2 5 7)).Ok := by
  have h : shtB (CorS wrkS 5 ntcN 2 (g2 5 7)) = true := by kernel_rfl
  exact sht_ok h
set_option maxHeartbeats 16000000 in
theorem head_p  : CallsP Tryz.prog 10 [] (.t (.one (.g (.bool true)))) := by
  refine CallsP_of Tryz.func10 rfl (by rw [Tryz.ntmps10]; simp) ?_
  simp only [Tryz.ntmps10, zM, PT.tv, argEnv, Nat.zero_add, Nat.reduceAdd]
  repeat' (first
 | ((with_reducible show callN _ _ (some 103) _ _ _ _ _ _ _); (refine callN_zq (k := 19) [9] ?_ ?_))
 | ((with_reducible show callN _ _ (some 111) _ _ _ _ _ _ _); (refine callN_zq (k := 19) [18] ?_ ?_))
 | ((with_reducible show AW _ _ _ _); first
 | (with_reducible first | refine aS (fun K hK => ?_) | refine aI ?_ | refine aT ?_ | refine aC ?_)
 | (first
 | (with_reducible first | refine aP 0 [] ?_ | refine aP 1 [] ?_)
 | ((with_reducible refine aR (c := Code.region 2 _ true) [1] ?_); (with_reducible refine aD ?_ ?_ ?_ ?_); (focus kernel_rfl); (focus kernel_rfl); (focus kernel_rfl))
 | ((with_reducible refine aR (c := Code.region 3 _ true) [1,2,3] ?_); (with_reducible refine aD ?_ ?_ ?_ ?_); (focus kernel_rfl); (focus kernel_rfl); (focus kernel_rfl))
 | ((with_reducible refine aR (c := Code.region 4 _ true) [1,2,3,5] ?_); (with_reducible refine aD ?_ ?_ ?_ ?_); (focus kernel_rfl); (focus kernel_rfl); (focus kernel_rfl))
 | ((with_reducible refine aR (c := Code.region 5 _ true) [1,2,3,5,7] ?_); (with_reducible refine aD ?_ ?_ ?_ ?_); (focus kernel_rfl); (focus kernel_rfl); (focus kernel_rfl))
 | (with_reducible first | refine aP 6 [1,2,3,5,7,9] ?_ | refine aP 8 [1,2] ?_ | refine aP 9 [1,10] ?_ | refine aP 10 [1,3,10,11] ?_ | refine aP 11 [1,3,5,10,11,12] ?_ | refine aP 12 [1,3,5,7,10,11,12,14] ?_ | refine aP 13 [1,3,5,7,9,10,11,12,14,15,16] ?_)
 | ((with_reducible refine aR (c := Code.region 14 _ true) [1,10,15] ?_); (with_reducible refine aD ?_ ?_ ?_ ?_); (focus kernel_rfl); (focus kernel_rfl); (focus kernel_rfl))
 | (with_reducible refine aP 15 [1,3,10,15,17] ?_)
 | ((with_reducible refine aR (c := Code.region 16 _ true) [1,3,5,10,15,17] ?_); (with_reducible refine aD ?_ ?_ ?_ ?_); (focus kernel_rfl); (focus kernel_rfl); (focus kernel_rfl))
 | (with_reducible first | refine aP 17 [1,3,5,7,10,15,17,18] ?_ | refine aP 18 [1,3,5,7,9,10,15,17,18,19] ?_)
 | ((with_reducible refine aR (c := Code.region 19 _ true) [1,10,17] ?_); (with_reducible refine aD ?_ ?_ ?_ ?_); (focus kernel_rfl); (focus kernel_rfl); (focus kernel_rfl))
 | (with_reducible first | refine aP 20 [1,3,10,11,17] ?_ | refine aP 21 [1,3,5,10,11,12] ?_ | refine aP 22 [3,5,7,10,11,12,20,21] ?_)))
 | ((first | (with_reducible refine And.intro ?_ ?_) | (with_reducible refine Need.mk ?_)); focus (first | exact True.intro | omega | (intro _; exact True.intro) | (simp; done)))
 | (with_reducible refine retK_n ?_)
 | ((with_reducible show condN _ _ _ _ _ _); first
 | ((with_reducible refine condN_t ?_ ?_) <;> (intro hc; (try simp only [zB, zC, reduceCtorEq] at hc); (try (exfalso; contradiction)))))
 | ((with_reducible refine And.intro ?_ ?_); focus ((with_reducible show chkR _ _ _ = true); kernel_rfl))
 | ((with_reducible show callN _ _ _ _ _ _ _ _ _ _); first
 | (refine callN_q (k := 39) fnok_39 (ntc_p) ?_ ?_)
 | (refine callN_q (k := 40) fnok_40 (wrk_p) ?_ ?_)
 | (refine callN_q (k := 23) fnok_23 (up_p wrkS 5 ntcN wrk_ok (by omega) (fun i _ => ntc_ok i)) ?_ ?_)
 | (refine callN_q (k := 23) fnok_23 (up_p (MkS wrkS 4 ntcN) 5 ntcN mks_ok (by omega) (fun i _ => ntc_ok i)) ?_ ?_)
 | (refine callN_q (k := 25) fnok_25 (nx_p wrkS 5 ntcN wrk_ok (by omega) (fun i _ => ntc_ok i)) ?_ ?_)
 | (refine callN_q (k := 19) fnok_19 (cor_q wrkS 5 ntcN 1 (g1 7) wrk_ok (by omega) (fun i _ => ntc_ok i) (by omega) _ (fun i o hi ho => by obtain rfl : i = 0 := (by omega); obtain rfl : o = 0 := (by omega); rfl)) ?_ ?_)
 | (refine callN_q (k := 19) fnok_19 (cor_q wrkS 5 ntcN 2 (g2 5 7) wrk_ok (by omega) (fun i _ => ntc_ok i) (by omega) _ (fun i o hi ho => by obtain rfl : o = 0 := (by omega); rcases (by omega : i = 0 ∨ i = 1) with rfl | rfl <;> rfl)) ?_ ?_)
 | (refine callN_q (k := 21) fnok_21 (mk_p wrkS 5 ntcN wrk_ok (by omega) (fun i _ => ntc_ok i)) ?_ ?_)
 | (refine callN_q (k := 29) fnok_29 (cp_p (CorS wrkS 5 ntcN 2 (g2 5 7)) (MkS wrkS 4 ntcN) cors_ok mks_ok) ?_ ?_)
 | (refine callN_q (k := 15) fnok_15 (st_p 5 ntcN 7 (by omega) (fun i _ => ntc_ok i)) ?_ ?_))
 | ((with_reducible show callDN _ _ _ _ _ _ _ _ _ _ _ _ _); first
 | (refine callDN_q (k := 40) fnok_40 (wrk_p) ?_ ?_)
 | (refine callDN_q (k := 12) fnok_12 (edAp_p wrkS (ntcN 0) wrk_ok (ntc_ok _)) ?_ ?_)
 | (refine callDN_q (k := 12) fnok_12 (edAp_p wrkS (ntcN 1) wrk_ok (ntc_ok _)) ?_ ?_)
 | (refine callDN_q (k := 12) fnok_12 (edAp_p wrkS (ntcN 2) wrk_ok (ntc_ok _)) ?_ ?_)
 | (refine callDN_q (k := 12) fnok_12 (edAp_p wrkS (ntcN 3) wrk_ok (ntc_ok _)) ?_ ?_)
 | (refine callDN_q (k := 23) fnok_23 (up_p (MkS wrkS 4 ntcN) 4 ntcN mks_ok (by omega) (fun i _ => ntc_ok i)) ?_ ?_)
 | (refine callDN_q (k := 21) fnok_21 (mk_p wrkS 4 ntcN wrk_ok (by omega) (fun i _ => ntc_ok i)) ?_ ?_)
 | (refine callDN_q (k := 27) fnok_27 (br_p wrkS (MkS wrkS 4 ntcN) 4 ntcN wrk_ok mks_ok (by omega) (fun i _ => ntc_ok i)) ?_ ?_))
 | ((with_reducible show callGN _ _ _ _ _ _ _ _ _ _); first
 | (refine callGN_q (k := 17) fnok_17 (fun hg => ints_q (ApS wrkS (ntcN 1)).q (ApS wrkS (ntcN 1)).dn 2 (g2 4 5) _ (by rw [hd_q1]; omega) (by omega) (fun i o hi ho => by obtain rfl : o = 0 := (by omega); rcases (by omega : i = 0 ∨ i = 1) with rfl | rfl <;> rfl)) ?_ ?_)
 | (refine callGN_q (k := 17) fnok_17 (fun hg => ints_q (BrL wrkS (MkS wrkS 4 ntcN) 4 ntcN).length (zL (BrL wrkS (MkS wrkS 4 ntcN) 4 ntcN)) 2 (g2 5 7) _ (by rw [hd_q2]; omega) (by omega) (fun i o hi ho => by obtain rfl : o = 0 := (by omega); rcases (by omega : i = 0 ∨ i = 1) with rfl | rfl <;> rfl)) ?_ ?_)
 | (refine callGN_q (k := 17) fnok_17 (fun hg => ints_q ((StL 5 ntcN 7).getD 2 stp0).q ((StL 5 ntcN 7).getD 2 stp0).a 1 (g1 5) _ (by rw [hd_q3]; omega) (by omega) (fun i o hi ho => by obtain rfl : i = 0 := (by omega); obtain rfl : o = 0 := (by omega); rfl)) ?_ ?_))
 | ((fail_if_success (with_reducible show AW _ _ _ _)); simp (maxSteps := 2000000) only [go_sem, reduceIte, reduceCtorEq, xA, xL, xD, xE, xM, xS, xB, Tryz.f10, intI, stpF, stpG, Int.reduceToNat, Int.cast_ofNat_Int, beq_self_eq_true, Bool.and_self, Int.natCast_zero, Int.ofNat_zero, hd_1n, hd_1d, hd_1q, hd_u.1, hd_u.2, hd_x.1, hd_x.2, hd_c1.1, hd_c1.2, hd_c2.1, hd_c2.2, hd_c3, hd_m.1, hd_m.2, hd_m5, hd_b, hd_bl, hd_p.1, hd_p.2, hd_u4.1, hd_u4.2, hd_u5.1, hd_u5.2, hd_st.1, hd_st.2.1, hd_st.2.2, hd_s3, hd_s2])
 | ((with_reducible refine hK _ ?_); clear hK K))
end Go.Proofs.YtdhgiklbkmkblaaGreat
set_option maxRecDepth 100000
set_option maxHeartbeats 4000000
namespace Go.Proofs.YtdhgiklbkmkblaaGreat
open Go.RowKit Go.Sea
open Nat renaming reduceAdd → xA, reduceLT → xL, reduceLeDiff → xD, reduceEqDiff → xE, reduceMul → xM, reduceSub → xS, reduceBEq → xB
theorem fnok_41 : fnOk Tryz.prog 41 = true := by kernel_rfl
attribute [go_sem] fnok_41
theorem few_f1 {s : ShtS} {n : Nat} {N : Nat → NotS} (h : ((s.n : Int) > 20 ∨ (s.q : Int) > 30) ∨ (n : Int) > 10) : false = fewB s n N := (decide_eq_false fun g => by omega).symm
theorem few_f2 {s : ShtS} {n : Nat} {N : Nat → NotS} {i : Nat} (hi : (i : Int) < n) (h : lenP (N i) (N i).n > 200) : false = fewB s n N := (decide_eq_false fun g => by have := g.2.2.2 i (by omega); omega).symm
theorem few_t {s : ShtS} {n : Nat} {N : Nat → NotS} {i : Nat} (h : ((s.n : Int) ≤ 20 ∧ (s.q : Int) ≤ 30) ∧ (n : Int) ≤ 10) (hi : (n : Int) ≤ i) (g : ∀ j, j < i → lenP (N j) (N j).n ≤ 200) : true = fewB s n N := (decide_eq_true ⟨by omega, by omega, by omega, fun j hj => g j (by omega)⟩).symm
theorem rlen_p (N : NotS) (ho : N.Ok) : CallsP Tryz.prog 41 [(noP N)] (.t (.one (.g (.int .i64 (lenP N N.n))))) := by
  have hnn := ho.n
  refine CallsP_of Tryz.func41 rfl (by rw [Tryz.ntmps41]; simp) ?_
  simp only [noP, Tryz.ntmps41, zM, PT.tv, argEnv, Nat.zero_add, Nat.reduceAdd]
  repeat' (first
 | ((with_reducible show AW _ _ _ _); first
 | (with_reducible first | refine aS (fun K hK => ?_) | refine aI ?_ | refine aX ?_ | refine aT ?_ | refine aC ?_ | refine aB ?_)
 | (first
 | (with_reducible first | refine aP 0 [0] ?_ | refine aP 1 [1] ?_ | refine aP 2 [1,3] ?_ | refine aP 3 [1,3,4] ?_ | refine aP 4 [1,3,4] ?_ | refine aP 5 [1,3,4] ?_ | refine aP 6 [1,3,4,5] ?_ | refine aP 7 [1,3,4,5] ?_ | refine aP 8 [1,3,4,5,6] ?_ | refine aP 9 [1,3,4,5,6] ?_)
 | ((with_reducible refine aR (c := Code.region 10 _ true) [1,3,4,5,6] ?_); (with_reducible refine aD ?_ ?_ ?_ ?_); (focus kernel_rfl); (focus kernel_rfl); (focus kernel_rfl))
 | (with_reducible refine aP 11 [3] ?_))
 | ((with_reducible show AW _ (Code.loop _) _ _); first
 | ((with_reducible refine aL (c := (Code.seq (Code.seq (Code.region 3 _ _) _) _)) (ι := Nat) [1] (fun i => [(3, iA .i64 (lenP N i)), (4, iA .i64 (i : Int))]) (fun i => []) (fun i => i ≤ N.n) (fun i => N.n - i) 0 ?lg3 ?l13 ?l23 ?li3 ?lr3); (case' lg3 => rintro i _); (case' li3 => try (omega)); (case' lr3 => rintro i hi KR hR3; simp only [keepE, hupd, hset, lk, if_true, if_false, xE, reduceIte, zN]))
 | ((with_reducible refine aL (c := (Code.seq (Code.seq (Code.region 8 _ _) _) _)) (ι := Nat) [1,4,5] (fun j => [(3, iA .i64 (lenO (N.p i) (w64 (w64 (lenP N i + ((N.p i).q : Int)) + ((N.p i).k : Int))) j)), (6, iA .i64 (j : Int))]) (fun j => []) (fun j => j ≤ (N.p i).k) (fun j => (N.p i).k - j) 0 ?lg8 ?l18 ?l28 ?li8 ?lr8); (case' lg8 => rintro j _); (case' li8 => try (omega)); (case' lr8 => rintro j hj KR hR8; simp only [keepE, hupd, hset, lk, if_true, if_false, xE, reduceIte, zN]))))
 | (((with_reducible refine And.intro ?_ ?_)); focus (omega))
 | (with_reducible refine retK_n ?_)
 | ((with_reducible show condN _ _ _ _ _ _); first
 | ((with_reducible refine condN_t ?_ ?_) <;> (intro hc; (try simp only [zB, zC, reduceCtorEq] at hc); ((try (have hoi := ho.p i (by omega); have hq1 := hoi.q; have hk1 := hoi.k; have hf1 := fun q h => (hoi.o q h).n; have hf2 := fun q h => (hoi.o q h).m)); (try (have e0 : i = N.n := (by omega); subst e0)); (try (have e0 : j = (N.p i).k := (by omega); subst e0))); (try (exfalso; contradiction)))))
 | ((with_reducible refine And.intro ?_ ?_); focus ((with_reducible show chkR _ _ _ = true); kernel_rfl))
 | ((with_reducible refine hR3 _ (i + 1) ?_); (try clear hR3 KR))
 | ((with_reducible refine hR8 _ (j + 1) ?_); (try clear hR8 KR))
 | ((with_reducible refine Told.mk ?_); simp only [go_sem, reduceIte, reduceCtorEq, xA, xL, xD, xE, xM, xS, xB, intI] <;> ((((try simp (disch := omega) only [seaWrap, Int.natCast_add, Int.cast_ofNat_Int, and_true, true_and, and_self]); (repeat' (first | omega | rfl | (with_reducible refine And.intro ?_ ?_))); done))))
 | ((fail_if_success (with_reducible show AW _ _ _ _)); simp (maxSteps := 2000000) only [go_sem, reduceIte, reduceCtorEq, xA, xL, xD, xE, xM, xS, xB, Tryz.f41, intI])
 | ((with_reducible refine hK _ ?_); clear hK K)
 | (with_reducible apply_assumption -exfalso only [*]))
theorem few_p (s : ShtS) (n : Nat) (N : Nat → NotS) (hs : s.Ok) (hn : n ≤ 9223372036854775807) (hN : ∀ i, i < n → (N i).Ok) : CallsP Tryz.prog 11 [(shP s), .one (.lst 7 n (notF N))] (.t (.one (.g (.bool (fewB s n N))))) := by
  have hsn := hs.n
  have hsq := hs.q
  refine CallsP_of Tryz.func11 rfl (by rw [Tryz.ntmps11]; simp) ?_
  simp only [shP, Tryz.ntmps11, zM, PT.tv, argEnv, Nat.zero_add, Nat.reduceAdd]
  repeat' (first
 | ((with_reducible show AW _ _ _ _); first
 | (with_reducible first | refine aS (fun K hK => ?_) | refine aI ?_ | refine aX ?_ | refine aT ?_ | refine aC ?_ | refine aB ?_)
 | (first
 | (with_reducible first | refine aP 0 [0,1] ?_ | refine aP 1 [1,2] ?_ | refine aP 2 [] ?_ | refine aP 3 [1] ?_ | refine aP 4 [1,5] ?_ | refine aP 5 [1,5] ?_ | refine aP 6 [1,5] ?_ | refine aP 7 [] ?_ | refine aP 8 [] ?_))
 | ((with_reducible show AW _ (Code.loop _) _ _); first
 | ((with_reducible refine aL (c := (Code.seq (Code.seq (Code.region 4 _ _) _) _)) (ι := Nat) [1] (fun i => [(5, iA .i64 (i : Int))]) (fun i => []) (fun i => i ≤ n ∧ (∀ j, j < i → lenP (N j) (N j).n ≤ 200)) (fun i => n - i) 0 ?lg4 ?l14 ?l24 ?li4 ?lr4); (case' lg4 => rintro i _); (case' li4 => try (exact ⟨Nat.zero_le _, fun i hi => absurd hi (Nat.not_lt_zero _)⟩)); (case' lr4 => rintro i ⟨hi, hai⟩ KR hR4; simp only [keepE, hupd, hset, lk, if_true, if_false, xE, reduceIte, zN]))))
 | ((first | (with_reducible refine And.intro ?_ ?_) | (with_reducible refine Need.mk ?_)); focus (first | exact True.intro | omega | (simp; done)))
 | (with_reducible refine retK_n ?_)
 | ((with_reducible show condN _ _ _ _ _ _); first
 | ((with_reducible refine condN_t ?_ ?_) <;> (intro hc; (try simp only [zB, zC, reduceCtorEq] at hc); (try (exfalso; contradiction)))))
 | ((with_reducible show callN _ _ _ _ _ _ _ _ _ _); first
 | (refine callN_q (k := 41) fnok_41 (rlen_p (N i) (hN i (by omega))) ?_ ?_))
 | ((with_reducible refine hR4 _ (i + 1) ?_); (try clear hR4 KR))
 | ((with_reducible refine Told.mk ?_); simp only [go_sem, reduceIte, reduceCtorEq, xA, xL, xD, xE, xM, xS, xB, intI] <;> ((((try simp (disch := omega) only [seaWrap, Int.natCast_add, Int.cast_ofNat_Int, and_true, true_and, and_self]); (repeat' (first | omega | (with_reducible refine And.intro ?_ ?_) | (exact all_succ (by assumption) (by assumption)))); done))))
 | ((fail_if_success (with_reducible show AW _ _ _ _)); simp (maxSteps := 2000000) only [go_sem, reduceIte, reduceCtorEq, xA, xL, xD, xE, xM, xS, xB, Tryz.f11, intI])
 | ((with_reducible refine hK _ ?_); clear hK K)
 | (with_reducible apply_assumption -exfalso only [*]))
  all_goals (first | exact few_f1 (by assumption) | exact few_f2 (by assumption) (by assumption) | exact few_t (by assumption) (by assumption) hai)
end Go.Proofs.YtdhgiklbkmkblaaGreat
set_option maxRecDepth 100000
set_option maxHeartbeats 4000000
namespace Go.Proofs.YtdhgiklbkmkblaaGreat
open Go.RowKit Go.Sea
open Nat renaming reduceAdd → xA, reduceLT → xL, reduceLeDiff → xD, reduceEqDiff → xE, reduceMul → xM, reduceSub → xS, reduceBEq → xB
theorem fnok_14 : fnOk Tryz.prog 14 = true := by kernel_rfl
theorem fnok_56 : fnOk Tryz.prog 56 = true := by kernel_rfl
theorem pl_27_6 : placeF Tryz.prog 27 6 = some (12, 1) := by kernel_rfl
attribute [go_sem] fnok_14 fnok_56 pl_27_6
theorem eqLI_r (n : Nat) (s : Nat → Int) : eqLI n n s s = true := decide_eq_true ⟨rfl, fun _ _ => rfl⟩
theorem eqLB_r (w n : Nat) (P : Nat → Nat → Int) : eqLB w n n P P = true := decide_eq_true ⟨rfl, fun _ _ _ _ => rfl⟩
theorem feqB_r (f : Feat) : feqB f f = true := by unfold feqB; rw [eqLB_r, eqLB_r, decide_eq_true (by simp)]; rfl
theorem eqFI_r (n : Nat) (f : Nat → Feat) : eqFI n n f f = true := decide_eq_true ⟨rfl, fun i _ => feqB_r _⟩
theorem seqB_r (a : ShtS) : seqB a a = true := by unfold seqB; rw [eqLI_r, eqFI_r, decide_eq_true (by simp)]; rfl
def shF (f : Feat) : ShtS := { sht0 with n := 1, f := fun _ => f }
theorem shF_ok {f : Feat} (h : f.Ok) : (shF f).Ok := ⟨Nat.zero_le _, (show (1 : Nat) ≤ 9223372036854775807 from by decide), fun _ _ => h⟩
theorem sht0_ok : sht0.Ok := ⟨Nat.zero_le _, Nat.zero_le _, fun _ h => absurd h (Nat.not_lt_zero _)⟩
theorem ApS_ok (s : ShtS) (N : NotS) : (ApS s N).Ok := by
  unfold ApS; split
  · exact sht_ok (ed_ok (by assumption)).1
  · exact sht0_ok
theorem cor_sh {s : ShtS} {n : Nat} {N : Nat → NotS} {k : Nat} {od : Nat → Int} (h : CorE s n N k od = 0) : shtB (CorS s n N k od) = true ∧ CorS s n N k od = corS s n N od k ∧ corB s n N k = true ∧ ∀ j, j < k → stpE (corS s n N od j) n N (od j) = 0 := by
  unfold CorE at h
  split at h
  · rename_i hB
    split at h
    · rename_i hj
      exact absurd h (of_decide_eq_true ((fstB_all (b := fun i => decide (stpE (corS s n N od i) n N (od i) ≠ 0)) (k := k)).2 hj))
    · rename_i hj
      have g : ∀ j, j < k → stpE (corS s n N od j) n N (od j) = 0 := fun j hj2 => by
        have := (fstB_all (b := fun i => decide (stpE (corS s n N od i) n N (od i) ≠ 0)) (k := k)).1 j (by unfold corJ at hj; omega)
        simpa using this
      have hv : shtB s = true := by unfold corB at hB; simp only [Bool.and_eq_true] at hB; exact hB.1.1
      have e : CorS s n N k od = corS s n N od k := by unfold CorS; rw [if_pos hB, if_neg hj]
      exact ⟨e ▸ cor_v hv k g, e, hB, g⟩
  · cases h
theorem CorS_ok (s : ShtS) (n : Nat) (N : Nat → NotS) (k : Nat) (od : Nat → Int) : (CorS s n N k od).Ok := by
  by_cases h : CorE s n N k od = 0
  · exact sht_ok (cor_sh h).1
  · have e : CorS s n N k od = sht0 := by
      unfold CorE at h; unfold CorS
      split
      · rw [if_pos (by assumption)] at h
        split
        · rfl
        · rw [if_neg (by assumption)] at h; exact absurd rfl h
      · rfl
    rw [e]; exact sht0_ok
theorem MkS_ok (s : ShtS) (n : Nat) (N : Nat → NotS) : (MkS s n N).Ok := by
  unfold MkS
  split
  · split
    · exact sht0_ok
    · unfold mkF
      split
      · have := CorS_ok s n N (lakL s N n).length (zL (lakL s N n))
        exact ⟨this.q, this.n, this.f⟩
      · exact sht0_ok
  · exact sht0_ok
theorem cnI_mem (N : Nat → NotS) (ch : Int) : ∀ n j, j ∈ cnI N ch n → j < n ∧ cncB (N j) ch = true
  | 0, j, h => by cases h
  | n + 1, j, h => by
    by_cases hc : cncB (N n) ch = true
    · rw [cnI_t hc] at h
      rcases List.mem_append.1 h with h | h
      · have := cnI_mem N ch n j h; exact ⟨by omega, this.2⟩
      · obtain rfl : j = n := by simpa using h
        exact ⟨by omega, hc⟩
    · rw [cnI_f (by simpa using hc)] at h
      have := cnI_mem N ch n j h; exact ⟨by omega, this.2⟩
theorem prt_ok {N : NotS} (h : N.Ok) {ch : Int} (hc : cncB N ch = true) : (prt N ch).Ok := by
  unfold cncB prtB at hc
  simp only [Bool.and_eq_true, decide_eq_true_eq] at hc
  exact h.p _ hc.2
theorem StOp_len (n : Nat) (N : Nat → NotS) (ch : Int) : (OpL n N ch).length = (StL n N ch).length := by
  unfold OpL StL; split
  · rw [opsL_len, stpL_len]
  · rfl
theorem StL_le (n : Nat) (N : Nat → NotS) (ch : Int) : (StL n N ch).length ≤ n := by
  unfold StL; split
  · rw [stpL_len]; exact cnI_le N ch n
  · exact Nat.zero_le _
theorem StL_q {n : Nat} {N : Nat → NotS} (hN : ∀ i, i < n → (N i).Ok) (ch : Int) (i : Nat) : ((StL n N ch).getD i stp0).q ≤ 9223372036854775807 := by
  have key : ∀ x, x ∈ StL n N ch → x.q ≤ 9223372036854775807 := fun x hx => by
    unfold StL at hx
    split at hx
    · unfold stpL at hx
      obtain ⟨j, hj, rfl⟩ := List.mem_map.1 hx
      have h1 := cnI_mem N ch n j hj
      have h2 := (prt_ok (hN j h1.1) h1.2).q
      have h3 := keepL_le (numL N ch n) (prt (N j) ch).a (prt (N j) ch).q
      show (keepL _ _ _).length ≤ _
      omega
    · cases hx
  rw [List.getD]
  cases h : (StL n N ch)[i]? with
  | none => exact Nat.zero_le _
  | some x => exact key x (List.mem_of_getElem? h)
theorem OpL_ok {n : Nat} {N : Nat → NotS} (hN : ∀ i, i < n → (N i).Ok) (ch : Int) (i : Nat) : ((OpL n N ch).getD i part0).Ok := by
  have key : ∀ x, x ∈ OpL n N ch → x.Ok := fun x hx => by
    unfold OpL at hx
    split at hx
    · unfold opsL at hx
      obtain ⟨j, hj, rfl⟩ := List.mem_map.1 hx
      have h1 := cnI_mem N ch n j hj
      exact prt_ok (hN j h1.1) h1.2
    · cases hx
  rw [List.getD]
  cases h : (OpL n N ch)[i]? with
  | none => exact part0_ok
  | some x => exact key x (List.mem_of_getElem? h)
theorem BrL_le (s t : ShtS) (n : Nat) (N : Nat → NotS) : (BrL s t n N).length ≤ t.q := by
  unfold BrL; split
  · exact brL_le s t t.q
  · exact Nat.zero_le _
theorem rsame_q (f : Feat) (hf : f.Ok) (F G : Nat → Nat → IV) (h : ∀ i o, i < 1 → o < 9 → (F i o).eqv (featG f o)) (h' : ∀ i o, i < 1 → o < 9 → (G i o).eqv (featG f o)) : CallsP Tryz.prog 14 [.agg [.g (.int .i64 0), .g (.int .i64 0), .g (.int .i64 0), .g (.int .i64 0), .g (.int .i64 0), .g (.int .i64 0), .g (.int .i64 0), .g (.int .i64 0), .g (.int .i64 0), .g (.int .i64 0), .g (.int .i64 0), .g (.slice none 0 0), .lst 9 1 F], .agg [.g (.int .i64 0), .g (.int .i64 0), .g (.int .i64 0), .g (.int .i64 0), .g (.int .i64 0), .g (.int .i64 0), .g (.int .i64 0), .g (.int .i64 0), .g (.int .i64 0), .g (.int .i64 0), .g (.int .i64 0), .g (.slice none 0 0), .lst 9 1 G]] (.t (.one (.g (.bool (true))))) := by
  have g := rsame_p (shF f) (shF f) (shF_ok hf) (shF_ok hf)
  rw [seqB_r] at g
  exact g.eqv ⟨⟨rfl, rfl, rfl, rfl, rfl, rfl, rfl, rfl, rfl, rfl, rfl, ⟨rfl, rfl⟩, ⟨rfl, rfl, h⟩, trivial⟩, ⟨rfl, rfl, rfl, rfl, rfl, rfl, rfl, rfl, rfl, rfl, rfl, ⟨rfl, rfl⟩, ⟨rfl, rfl, h'⟩, trivial⟩, trivial⟩ (PV.eqv_refl _)
theorem rsop_p (o : OpS) (ho : o.f.Ok) : CallsP Tryz.prog 56 [.agg [.g (.int .i64 (o.kd)), .g (.int .i64 (o.id)), .g (.int .i64 (o.f.id)), .g (.int .i64 (o.f.kd)), .g (.int .i64 (o.f.x)), .g (.int .i64 (o.f.y)), .g (.int .i64 (o.f.r)), .lst 2 o.f.n (ptI o.f.P), .g (.int .i64 (o.f.d)), .g (.int .i64 (o.f.s)), .lst 6 o.f.m (ptI o.f.S), .g (.int .i64 (o.x)), .g (.int .i64 (o.y)), .g (.int .i64 (o.r)), .g (.int .i64 (o.d)), .g (.int .i64 (o.s))], .agg [.g (.int .i64 (o.kd)), .g (.int .i64 (o.id)), .g (.int .i64 (o.f.id)), .g (.int .i64 (o.f.kd)), .g (.int .i64 (o.f.x)), .g (.int .i64 (o.f.y)), .g (.int .i64 (o.f.r)), .lst 2 o.f.n (ptI o.f.P), .g (.int .i64 (o.f.d)), .g (.int .i64 (o.f.s)), .lst 6 o.f.m (ptI o.f.S), .g (.int .i64 (o.x)), .g (.int .i64 (o.y)), .g (.int .i64 (o.r)), .g (.int .i64 (o.d)), .g (.int .i64 (o.s))]] (.t (.one (.g (.bool (true))))) := by
  refine CallsP_of Tryz.func56 rfl (by rw [Tryz.ntmps56]; simp) ?_
  simp only [Tryz.ntmps56, zM, PT.tv, argEnv, Nat.zero_add, Nat.reduceAdd]
  repeat' (first
 | ((with_reducible show AW _ _ _ _); first
 | (with_reducible first | refine aS (fun K hK => ?_) | refine aT ?_)
 | (first
 | (with_reducible refine aP 0 [0,1] ?_)
 | ((with_reducible refine aR (c := Code.region 1 _ true) [2,3] ?_); (with_reducible refine aD ?_ ?_ ?_ ?_); (focus kernel_rfl); (focus kernel_rfl); (focus kernel_rfl))
 | (with_reducible first | refine aP 2 [2,3,5,6] ?_ | refine aP 3 [2,3,7] ?_)))
 | ((first | (with_reducible refine And.intro ?_ ?_) | (with_reducible refine Need.mk ?_)); focus (exact True.intro))
 | (with_reducible refine retK_n ?_)
 | ((with_reducible refine And.intro ?_ ?_); focus ((with_reducible show chkR _ _ _ = true); kernel_rfl))
 | ((with_reducible show callN _ _ _ _ _ _ _ _ _ _); first
 | (refine callN_q (k := 14) fnok_14 (rsame_q o.f ho _ _ (fun i u hi hu => by obtain rfl : i = 0 := (by omega); rcases (by omega : u = 0 ∨ u = 1 ∨ u = 2 ∨ u = 3 ∨ u = 4 ∨ u = 5 ∨ u = 6 ∨ u = 7 ∨ u = 8) with rfl | rfl | rfl | rfl | rfl | rfl | rfl | rfl | rfl <;> exact IV.eqv_refl _) (fun i u hi hu => by obtain rfl : i = 0 := (by omega); rcases (by omega : u = 0 ∨ u = 1 ∨ u = 2 ∨ u = 3 ∨ u = 4 ∨ u = 5 ∨ u = 6 ∨ u = 7 ∨ u = 8) with rfl | rfl | rfl | rfl | rfl | rfl | rfl | rfl | rfl <;> exact IV.eqv_refl _)) ?_ ?_))
 | ((fail_if_success (with_reducible show AW _ _ _ _)); simp (maxSteps := 2000000) only [go_sem, reduceIte, reduceCtorEq, xA, xL, xD, xE, xM, xS, xB, Tryz.f56, beq_self_eq_true, Bool.and_self])
 | ((with_reducible refine hK _ ?_); clear hK K))
theorem rsm_p (k : Nat) (o : Nat → OpS) (hk : k ≤ 9223372036854775807) (ho : ∀ i, i < k → (o i).f.Ok) : CallsP Tryz.prog 18 [.one (.lst 16 k (oprF o)), .one (.lst 16 k (oprF o))] (.t (.one (.g (.bool (true))))) := by
  refine CallsP_of Tryz.func18 rfl (by rw [Tryz.ntmps18]; simp) ?_
  simp only [Tryz.ntmps18, zM, PT.tv, argEnv, Nat.zero_add, Nat.reduceAdd]
  repeat' (first
 | ((with_reducible show AW _ _ _ _); first
 | (with_reducible first | refine aS (fun K hK => ?_) | refine aI ?_ | refine aX ?_ | refine aT ?_ | refine aC ?_ | refine aB ?_)
 | (first
 | (with_reducible first | refine aP 0 [0,1] ?_ | refine aP 1 [0,1] ?_ | refine aP 3 [0,1] ?_ | refine aP 4 [0,1,12,13] ?_ | refine aP 5 [0,1,12,13] ?_)
 | ((with_reducible refine aR (c := Code.region 6 _ true) [0,1,5,12,13] ?_); (with_reducible refine aD ?_ ?_ ?_ ?_); (focus kernel_rfl); (focus kernel_rfl); (focus kernel_rfl))
 | (with_reducible first | refine aP 8 [0,1,12,13] ?_ | refine aP 9 [] ?_))
 | ((with_reducible show AW _ (Code.loop _) _ _); first
 | ((with_reducible refine aL (c := (Code.seq (Code.region 4 _ _) _)) (ι := Nat) [0,1,12] (fun i => [(13, iA .i64 (i : Int))]) (fun i => []) (fun i => i ≤ k) (fun i => k - i) 0 ?lg4 ?l14 ?l24 ?li4 ?lr4); (case' lg4 => rintro i _); (case' li4 => try (omega)); (case' lr4 => rintro i hi KR hR4; simp only [keepE, hupd, hset, lk, if_true, if_false, xE, reduceIte, zN, bne_self_eq_false]))))
 | ((first | (with_reducible refine And.intro ?_ ?_) | (with_reducible refine Need.mk ?_)); focus (first | exact True.intro | omega))
 | (with_reducible refine retK_n ?_)
 | ((with_reducible show condN _ _ _ _ _ _); first
 | ((with_reducible refine condN_t ?_ ?_) <;> (intro hc; (try simp only [zB, zC, reduceCtorEq] at hc); (try (exfalso; contradiction)))))
 | ((with_reducible refine And.intro ?_ ?_); focus ((with_reducible show chkR _ _ _ = true); kernel_rfl))
 | ((with_reducible show callDN _ _ _ _ _ _ _ _ _ _ _ _ _); first
 | (refine callDN_q (k := 56) fnok_56 (rsop_p (o i) (ho i (by omega))) ?_ ?_))
 | ((with_reducible refine hR4 _ (i + 1) ?_); (try clear hR4 KR))
 | ((with_reducible refine Told.mk ?_); simp only [go_sem, reduceIte, reduceCtorEq, xA, xL, xD, xE, xM, xS, xB, bne_self_eq_false] <;> ((((try simp (disch := omega) only [seaWrap, Int.natCast_add, Int.cast_ofNat_Int, and_true, true_and, and_self]); (repeat' (omega)); done))))
 | ((fail_if_success (with_reducible show AW _ _ _ _)); simp (maxSteps := 2000000) only [go_sem, reduceIte, reduceCtorEq, xA, xL, xD, xE, xM, xS, xB, Tryz.f18, bne_self_eq_false])
 | ((with_reducible refine hK _ ?_); clear hK K)
 | (with_reducible apply_assumption -exfalso only [*]))
theorem few_1 (t : ShtS) (N : NotS) (ht : t.Ok) (hN : N.Ok) (F : Nat → Nat → IV) (h : ∀ i o, i < 1 → o < 7 → (F i o).eqv (notG N o)) : CallsP Tryz.prog 11 [(shP t), .one (.lst 7 1 F)] (.t (.one (.g (.bool (fewB t 1 fun _ => N))))) :=
  (few_p t 1 (fun _ => N) ht (by omega) (fun i _ => hN)).eqv ⟨PT.eqv_refl _, ⟨rfl, rfl, h⟩, trivial⟩ (PV.eqv_refl _)
end Go.Proofs.YtdhgiklbkmkblaaGreat
set_option maxRecDepth 100000
set_option maxHeartbeats 4000000
namespace Go.Proofs.YtdhgiklbkmkblaaGreat
open Go.RowKit Go.Sea
open Nat renaming reduceAdd → xA, reduceLT → xL, reduceLeDiff → xD, reduceEqDiff → xE, reduceMul → xM, reduceSub → xS, reduceBEq → xB
theorem ar_39 : arD Tryz.prog 39 = none := by kernel_rfl
theorem fnok_10 : fnOk Tryz.prog 10 = true := by kernel_rfl
theorem fnok_11 : fnOk Tryz.prog 11 = true := by kernel_rfl
theorem fnok_16 : fnOk Tryz.prog 16 = true := by kernel_rfl
theorem fnok_18 : fnOk Tryz.prog 18 = true := by kernel_rfl
theorem fnok_22 : fnOk Tryz.prog 22 = true := by kernel_rfl
theorem fnok_24 : fnOk Tryz.prog 24 = true := by kernel_rfl
theorem fnok_26 : fnOk Tryz.prog 26 = true := by kernel_rfl
theorem fnok_28 : fnOk Tryz.prog 28 = true := by kernel_rfl
theorem fnok_30 : fnOk Tryz.prog 30 = true := by kernel_rfl
theorem of_43_0 : offOf Tryz.prog 43 0 = some 0 := by kernel_rfl
attribute [go_sem] ar_39 fnok_10 fnok_11 fnok_16 fnok_18 fnok_22 fnok_24 fnok_26 fnok_28 fnok_30 of_43_0
theorem match_1 (s t : ShtS) (N : NotS) (n : Nat) (M : Nat → NotS) (ch : Int) (k : Nat) (od : Nat → Int) (hs : s.Ok) (ht : t.Ok) (hN : N.Ok) (hn : n ≤ 9223372036854775807) (hM : ∀ i, i < n → (M i).Ok) (hk : k ≤ 9223372036854775807) (hf : fewB s n M = false) : CallsP Tryz.prog 3 [(shP s), (shP t), (noP N), .one (.lst 7 n (notF M)), .one (.g (.int .i64 ch)), .one (.lst 1 k (intI od))] (.t (.one (.g (.bool (true))))) := by
  have hle := StL_le n M ch
  have hbl := BrL_le s t n M
  have htq := ht.q
  refine CallsP_of Tryz.func3 rfl (by rw [Tryz.ntmps3]; simp) ?_
  simp only [noP, shP, Tryz.ntmps3, zM, PT.tv, argEnv, Nat.zero_add, Nat.reduceAdd]
  repeat' (first
 | ((with_reducible show callGN _ _ false _ _ _ _ _ _ _); (with_reducible refine callGN_sq (fun h => by cases h) (fun _ => ?_)))
 | ((with_reducible show callGK _ _ false _ _ _ _); (with_reducible refine callGK_s (fun h => by cases h) (fun _ => ?_)))
 | ((with_reducible show AW _ _ _ _); first
 | (with_reducible first | refine aS (fun K hK => ?_) | refine aT ?_ | refine aC ?_)
 | ((with_reducible first | refine aP 0 [0,1,2,3,4,5] ?_ | refine aP 1 [3,4,5,6,7,8] ?_ | refine aP 2 [3,4,5,6,7,8,13] ?_ | refine aP 3 [13] ?_)))
 | (((with_reducible refine Need.mk ?_)); focus (exact True.intro))
 | (with_reducible refine retK_n ?_)
 | ((with_reducible show condN _ _ _ _ _ _); first
 | ((with_reducible refine condN_t ?_ ?_) <;> (intro hc; (try simp only [zB, zC, reduceCtorEq] at hc); (try (exfalso; contradiction)))))
 | ((with_reducible show callN _ _ _ _ _ _ _ _ _ _); first
 | (refine callN_q (k := 10) fnok_10 (head_p) ?_ ?_)
 | (refine callN_q (k := 11) fnok_11 (few_p s n M hs hn hM) ?_ ?_))
 | ((fail_if_success (with_reducible show AW _ _ _ _)); simp (maxSteps := 2000000) only [go_sem, reduceIte, reduceCtorEq, xA, xL, xD, xE, xM, xS, xB, Tryz.f3, hf, seqB_r, eqLI_r, StOp_len, beq_self_eq_true, Bool.and_self, stpF, stpG, opsF, intI])
 | ((with_reducible refine hK _ ?_); clear hK K))
theorem match_2 (s t : ShtS) (N : NotS) (n : Nat) (M : Nat → NotS) (ch : Int) (k : Nat) (od : Nat → Int) (hs : s.Ok) (ht : t.Ok) (hN : N.Ok) (hn : n ≤ 9223372036854775807) (hM : ∀ i, i < n → (M i).Ok) (hk : k ≤ 9223372036854775807) (hf : fewB s n M = true) (hf2 : fewB t 1 (fun _ => N) = false) : CallsP Tryz.prog 3 [(shP s), (shP t), (noP N), .one (.lst 7 n (notF M)), .one (.g (.int .i64 ch)), .one (.lst 1 k (intI od))] (.t (.one (.g (.bool (true))))) := by
  have hle := StL_le n M ch
  have hbl := BrL_le s t n M
  have htq := ht.q
  refine CallsP_of Tryz.func3 rfl (by rw [Tryz.ntmps3]; simp) ?_
  simp only [noP, shP, Tryz.ntmps3, zM, PT.tv, argEnv, Nat.zero_add, Nat.reduceAdd]
  repeat' (first
 | ((with_reducible show AW _ _ _ _); first
 | (with_reducible first | refine aS (fun K hK => ?_) | refine aT ?_ | refine aC ?_)
 | ((with_reducible first | refine aP 0 [0,1,2,3,4,5] ?_ | refine aP 1 [3,4,5,6,7,8] ?_ | refine aP 2 [3,4,5,6,7,8,13] ?_ | refine aP 3 [13] ?_)))
 | (((with_reducible refine Need.mk ?_)); focus (first | exact True.intro | (intro _; exact True.intro)))
 | (with_reducible refine retK_n ?_)
 | ((with_reducible show condN _ _ _ _ _ _); first
 | ((with_reducible refine condN_t ?_ ?_) <;> (intro hc; (try simp only [zB, zC, reduceCtorEq] at hc); (try (exfalso; contradiction)))))
 | ((with_reducible show callN _ _ _ _ _ _ _ _ _ _); first
 | (refine callN_q (k := 10) fnok_10 (head_p) ?_ ?_)
 | (refine callN_q (k := 11) fnok_11 (few_p s n M hs hn hM) ?_ ?_))
 | ((with_reducible show callGN _ _ _ _ _ _ _ _ _ _); (refine callGN_q (k := 11) fnok_11 (fun hg => few_1 t N ht hN _ (fun i u hi hu => by obtain rfl : i = 0 := (by omega); rcases (by omega : u = 0 ∨ u = 1 ∨ u = 2 ∨ u = 3 ∨ u = 4 ∨ u = 5 ∨ u = 6) with rfl | rfl | rfl | rfl | rfl | rfl | rfl <;> exact IV.eqv_refl _)) ?_ ?_))
 | ((fail_if_success (with_reducible show AW _ _ _ _)); simp (maxSteps := 2000000) only [go_sem, reduceIte, reduceCtorEq, xA, xL, xD, xE, xM, xS, xB, Tryz.f3, hf, seqB_r, eqLI_r, StOp_len, beq_self_eq_true, Bool.and_self, stpF, stpG, opsF, intI, hf2])
 | ((with_reducible refine hK _ ?_); clear hK K))
theorem match_3 (s t : ShtS) (N : NotS) (n : Nat) (M : Nat → NotS) (ch : Int) (k : Nat) (od : Nat → Int) (hs : s.Ok) (ht : t.Ok) (hN : N.Ok) (hn : n ≤ 9223372036854775807) (hM : ∀ i, i < n → (M i).Ok) (hk : k ≤ 9223372036854775807) (hf : fewB s n M = true) (hf2 : fewB t 1 (fun _ => N) = true) : CallsP Tryz.prog 3 [(shP s), (shP t), (noP N), .one (.lst 7 n (notF M)), .one (.g (.int .i64 ch)), .one (.lst 1 k (intI od))] (.t (.one (.g (.bool (true))))) := by
  have hle := StL_le n M ch
  have hbl := BrL_le s t n M
  have htq := ht.q
  refine CallsP_of Tryz.func3 rfl (by rw [Tryz.ntmps3]; simp) ?_
  simp only [noP, shP, Tryz.ntmps3, zM, PT.tv, argEnv, Nat.zero_add, Nat.reduceAdd]
  repeat' (first
 | ((with_reducible show AW _ _ _ _); first
 | (with_reducible first | refine aS (fun K hK => ?_) | refine aI ?_ | refine aX ?_ | refine aT ?_ | refine aC ?_ | refine aB ?_)
 | (first
 | (with_reducible first | refine aP 0 [0,1,2,3,4,5] ?_ | refine aP 1 [3,4,5,6,7,8] ?_ | refine aP 2 [3,4,5,6,7,8,13] ?_ | refine aP 3 [13] ?_ | refine aP 4 [3,4,5,6,7,8,13] ?_ | refine aP 5 [3,4,5,6,7,8,13,14,15] ?_ | refine aP 6 [3,4,5,6,7,13,14,15,16,17] ?_ | refine aP 7 [3,4,5,6,7,13,14,16] ?_ | refine aP 8 [3,4,5,6,7,13,14,15,16,18,19] ?_ | refine aP 9 [3,5,6,7,13,14,15,16,17,18,19,20,21] ?_ | refine aP 10 [3,5,6,7,13,14,16,18,19,20,21] ?_ | refine aP 11 [3,5,6,7,13,14,16,18,19,20,21,22] ?_ | refine aP 12 [3,5,6,7,13,14,16,18,19,20,21,22] ?_)
 | ((with_reducible refine aR (c := Code.region 13 _ true) [3,5,6,7,13,14,16,18,19,20,21,22] ?_); (with_reducible refine aD ?_ ?_ ?_ ?_); (focus kernel_rfl); (focus kernel_rfl); (focus kernel_rfl))
 | (with_reducible first | refine aP 14 [3,5,6,7,13,14,16] ?_ | refine aP 15 [3,5,6,7,13,14,15,16,23] ?_ | refine aP 16 [3,6,7,13,14,15,16,17,23,24] ?_ | refine aP 17 [3,6,7,13,14,16] ?_ | refine aP 18 [3,6,7,13,14,15,16] ?_ | refine aP 19 [3,6,7,13,14,15,16,17] ?_ | refine aP 20 [3,6,7,13] ?_ | refine aP 21 [3,6,7,13,15,23] ?_ | refine aP 22 [3,6,7,13,15,17,23,24] ?_ | refine aP 23 [3,6,7,13] ?_ | refine aP 24 [3,6,7,13,15,23] ?_ | refine aP 25 [3,6,7,13,15,17,23,24] ?_ | refine aP 26 [3,6,7,13] ?_ | refine aP 27 [3,6,7,13,15,25] ?_ | refine aP 28 [6,7,13,15,17,25,26] ?_ | refine aP 29 [6,7,13] ?_ | refine aP 30 [6,7,13,15,23] ?_ | refine aP 31 [13,15,17,23,24] ?_))
 | ((with_reducible show AW _ (Code.loop _) _ _); first
 | ((with_reducible refine aL (c := (Code.seq (Code.seq (Code.region 11 _ _) _) _)) (ι := Nat) [3,5,6,7,14,16,18,19,20,21] (fun i => [(13, .t (.one (.iv (.g (.bool true))))), (22, iA .i64 (i : Int))]) (fun i => []) (fun i => i ≤ (StL n M ch).length) (fun i => (StL n M ch).length - i) 0 ?lg11 ?l111 ?l211 ?li11 ?lr11); (case' lg11 => rintro i _); (case' li11 => try (omega)); (case' lr11 => rintro i hi KR hR11; simp only [keepE, hupd, hset, lk, if_true, if_false, xE, reduceIte, zN, hf, seqB_r, eqLI_r, StOp_len, beq_self_eq_true, Bool.and_self, stpF, stpG, opsF, hf2]))))
 | ((first | (with_reducible refine And.intro ?_ ?_) | (with_reducible refine Need.mk ?_)); focus (first | exact True.intro | omega | (intro _; exact True.intro)))
 | (with_reducible refine retK_n ?_)
 | ((with_reducible show condN _ _ _ _ _ _); first
 | ((with_reducible refine condN_t ?_ ?_) <;> (intro hc; (try simp only [zB, zC, reduceCtorEq] at hc); (try (exfalso; contradiction)))))
 | ((with_reducible refine And.intro ?_ ?_); focus ((with_reducible show chkR _ _ _ = true); kernel_rfl))
 | ((with_reducible show callN _ _ _ _ _ _ _ _ _ _); first
 | (refine callN_q (k := 10) fnok_10 (head_p) ?_ ?_)
 | (refine callN_q (k := 11) fnok_11 (few_p s n M hs hn hM) ?_ ?_)
 | (refine callN_q (k := 12) fnok_12 (edAp_p s N hs hN) ?_ ?_)
 | (refine callN_q (k := 13) fnok_13 (rAp_p s N hs hN) ?_ ?_)
 | (refine callN_q (k := 15) fnok_15 (st_p n M ch hn hM) ?_ ?_)
 | (refine callN_q (k := 16) fnok_16 (rst_p n M ch hn hM) ?_ ?_)
 | (refine callN_q (k := 19) fnok_19 (cor_p s n M k od hs hn hM hk) ?_ ?_)
 | (refine callN_q (k := 20) fnok_20 (rcor_p s n M k od hs hn hM hk) ?_ ?_)
 | (refine callN_q (k := 21) fnok_21 (mk_p s n M hs hn hM) ?_ ?_)
 | (refine callN_q (k := 22) fnok_22 (rmk_p s n M hs hn hM) ?_ ?_)
 | (refine callN_q (k := 23) fnok_23 (up_p s n M hs hn hM) ?_ ?_)
 | (refine callN_q (k := 24) fnok_24 (rup_p s n M hs hn hM) ?_ ?_)
 | (refine callN_q (k := 25) fnok_25 (nx_p s n M hs hn hM) ?_ ?_)
 | (refine callN_q (k := 26) fnok_26 (rnx_p s n M hs hn hM) ?_ ?_)
 | (refine callN_q (k := 27) fnok_27 (br_p s t n M hs ht hn hM) ?_ ?_)
 | (refine callN_q (k := 28) fnok_28 (rbr_p s t n M hs ht hn hM) ?_ ?_)
 | (refine callN_q (k := 29) fnok_29 (cp_p s t hs ht) ?_ ?_)
 | (refine callN_q (k := 30) fnok_30 (rcp_p s t hs ht) ?_ ?_))
 | ((with_reducible show callGN _ _ _ _ _ _ _ _ _ _); first
 | (refine callGN_q (k := 11) fnok_11 (fun hg => few_1 t N ht hN _ (fun i u hi hu => by obtain rfl : i = 0 := (by omega); rcases (by omega : u = 0 ∨ u = 1 ∨ u = 2 ∨ u = 3 ∨ u = 4 ∨ u = 5 ∨ u = 6) with rfl | rfl | rfl | rfl | rfl | rfl | rfl <;> exact IV.eqv_refl _)) ?_ ?_)
 | (refine callGN_q (k := 14) fnok_14 (fun hg => rsame_p (ApS s N) (ApS s N) (ApS_ok s N) (ApS_ok s N)) ?_ ?_)
 | (refine callGN_q (k := 14) fnok_14 (fun hg => rsame_p (CorS s n M k od) (CorS s n M k od) (CorS_ok s n M k od) (CorS_ok s n M k od)) ?_ ?_)
 | (refine callGN_q (k := 14) fnok_14 (fun hg => rsame_p (MkS s n M) (MkS s n M) (MkS_ok s n M) (MkS_ok s n M)) ?_ ?_)
 | (refine callGN_q (k := 17) fnok_17 (fun hg => ints18_p (BrL s t n M).length (BrL s t n M).length (zL (BrL s t n M)) (zL (BrL s t n M)) (by omega) (by omega)) ?_ ?_))
 | ((with_reducible show callDGN _ _ _ _ _ _ _ _ _ _ _ _ _); first
 | (refine callDGN_q (k := 17) fnok_17 (fun hg => ints18_p ((StL n M ch).getD i stp0).q ((StL n M ch).getD i stp0).q ((StL n M ch).getD i stp0).a ((StL n M ch).getD i stp0).a (StL_q hM ch i) (StL_q hM ch i)) ?_ ?_)
 | (refine callDGN_q (k := 18) fnok_18 (fun hg => rsm_p ((OpL n M ch).getD i part0).k ((OpL n M ch).getD i part0).o (OpL_ok hM ch i).k (OpL_ok hM ch i).o) ?_ ?_))
 | ((with_reducible refine hR11 _ (i + 1) ?_); (try clear hR11 KR))
 | ((with_reducible refine Told.mk ?_); simp only [go_sem, reduceIte, reduceCtorEq, xA, xL, xD, xE, xM, xS, xB, hf, seqB_r, eqLI_r, StOp_len, beq_self_eq_true, Bool.and_self, stpF, stpG, opsF, intI, hf2] <;> ((((try simp (disch := omega) only [seaWrap, Int.natCast_add, Int.cast_ofNat_Int, and_true, true_and, and_self]); (repeat' (omega)); done))))
 | ((fail_if_success (with_reducible show AW _ _ _ _)); simp (maxSteps := 2000000) only [go_sem, reduceIte, reduceCtorEq, xA, xL, xD, xE, xM, xS, xB, Tryz.f3, hf, seqB_r, eqLI_r, StOp_len, beq_self_eq_true, Bool.and_self, stpF, stpG, opsF, intI, hf2])
 | ((with_reducible refine hK _ ?_); clear hK K)
 | (with_reducible apply_assumption -exfalso only [*]))
theorem match_law (s t : ShtS) (N : NotS) (n : Nat) (M : Nat → NotS) (ch : Int) (k : Nat) (od : Nat → Int) (hs : s.Ok) (ht : t.Ok) (hN : N.Ok) (hn : n ≤ 9223372036854775807) (hM : ∀ i, i < n → (M i).Ok) (hk : k ≤ 9223372036854775807) : CallsP Tryz.prog 3 [(shP s), (shP t), (noP N), .one (.lst 7 n (notF M)), .one (.g (.int .i64 ch)), .one (.lst 1 k (intI od))] (.t (.one (.g (.bool (true))))) := by
  cases hf : fewB s n M with
  | false => exact match_1 s t N n M ch k od hs ht hN hn hM hk hf
  | true =>
    cases hf2 : fewB t 1 (fun _ => N) with
    | false => exact match_2 s t N n M ch k od hs ht hN hn hM hk hf hf2
    | true => exact match_3 s t N n M ch k od hs ht hN hn hM hk hf hf2
end Go.Proofs.YtdhgiklbkmkblaaGreat
