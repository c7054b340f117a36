/- Part 13 of 16: contracts of functions and plain laws for the root text. No condition. -/
import Derived.Test.YtdhgiklbkmkblaaGreatM01
import Derived.Test.YtdhgiklbkmkblaaGreatM02
import Derived.Test.YtdhgiklbkmkblaaGreatM03
import Derived.Test.YtdhgiklbkmkblaaGreatM04
import Derived.Test.YtdhgiklbkmkblaaGreatM05
import Derived.Test.YtdhgiklbkmkblaaGreatM06
import Derived.Test.YtdhgiklbkmkblaaGreatM07
import Derived.Test.YtdhgiklbkmkblaaGreatM08
import Derived.Test.YtdhgiklbkmkblaaGreatM09
import Derived.Test.YtdhgiklbkmkblaaGreatM10
import Derived.Test.YtdhgiklbkmkblaaGreatM11
import Derived.Test.YtdhgiklbkmkblaaGreatM12
set_option linter.unusedVariables false
set_option linter.unusedSimpArgs false
set_option maxRecDepth 100000
set_option maxHeartbeats 4000000
namespace Go.Proofs.YtdhgiklbkmkblaaGreat
open Go.RowKit Go.Sea
open Nat renaming reduceAdd → xA, reduceLT → xL, reduceLeDiff → xD, reduceEqDiff → xE, reduceMul → xM, reduceSub → xS, reduceBEq → xB
theorem fnok_100 : fnOk Tryz.prog 100 = true := by kernel_rfl
theorem fnok_42 : fnOk Tryz.prog 42 = true := by kernel_rfl
theorem fnok_83 : fnOk Tryz.prog 83 = true := by kernel_rfl
theorem fnok_99 : fnOk Tryz.prog 99 = true := by kernel_rfl
theorem fo_58 : fieldsOk Tryz.prog 58 = true := by kernel_rfl
theorem of_79_0 : offOf Tryz.prog 79 0 = some 0 := by kernel_rfl
theorem zc_30 : zeroC Tryz.prog 30 = some [.iv (.g (.int .i64 0)), .iv (.g (.int .i64 0)), .iv (.g (.int .i64 0)), .iv (.g (.int .i64 0)), .iv (.g (.int .i64 0)), .iv (.g (.int .i64 0)), .iv (.g (.slice none 0 0))] := by kernel_rfl
attribute [go_sem] fnok_42 fnok_83 fnok_99 fo_58 of_79_0 zc_30
theorem rise_all {q : Nat} {a : Nat → Int} {nu : Int} (h : ∀ i, i < q → aftO a nu i) {i : Nat} : ∀ j, i < j → j < q → a i < a j
  | 0, hij, _ => absurd hij (Nat.not_lt_zero _)
  | j + 1, hij, hj => by
    have h1 := (h (j + 1) hj).2.2 (by omega)
    rw [Nat.add_sub_cancel] at h1
    by_cases e : i = j
    · subst e; exact h1
    · have := rise_all (i := i) h j (by omega) (by omega)
      omega
theorem cnt_split {zs : List Int} {x : Int} {i : Nat} (hi : i ≤ zs.length) (h1 : ∀ j, j < i → zs.getD j 0 < x) (h2 : ∀ j, i ≤ j → j < zs.length → ¬ zs.getD j 0 < x) : zs.countP (fun z => decide (z < x)) = i := by
  have e : zs = zs.take i ++ zs.drop i := (List.take_append_drop i zs).symm
  rw [e, List.countP_append]
  have e1 : (zs.take i).countP (fun z => decide (z < x)) = (zs.take i).length := List.countP_eq_length.2 fun z hz => by
    obtain ⟨j, hj, rfl⟩ := List.getElem_of_mem hz
    have hj' : j < i := by rw [List.length_take] at hj; omega
    have := h1 j hj'
    rw [List.getD, List.getElem?_eq_getElem (by omega)] at this
    simpa using this
  have e2 : (zs.drop i).countP (fun z => decide (z < x)) = 0 := List.countP_eq_zero.2 fun z hz => by
    obtain ⟨j, hj, rfl⟩ := List.getElem_of_mem hz
    have hj' : i + j < zs.length := by rw [List.length_drop] at hj; omega
    have := h2 (i + j) (by omega) hj'
    rw [List.getD, List.getElem?_eq_getElem hj'] at this
    simpa using this
  rw [e1, e2, List.length_take]; omega
theorem fstB_all {b : Nat → Bool} {k : Nat} : (∀ j, j < fstB b k → b j = false) ∧ (fstB b k < k → b (fstB b k) = true) := by
  by_cases h : fstB b k < k
  · exact ⟨(fstB_lt k h).2, fun _ => (fstB_lt k h).1⟩
  · refine ⟨fun j hj => ?_, fun h' => absurd h' h⟩
    have hk : fstB b k = k := by have := fstB_le b k; omega
    rw [hk] at hj
    clear h
    induction j using Nat.strongRecOn with
    | _ j ih =>
      cases hb : b j with
      | false => rfl
      | true =>
        have := fstB_h hb (fun q hq => ih q hq (by omega)) k hj
        omega
theorem posI_lo {zs : List Int} {x : Int} {j : Nat} (h : j < posI zs x) : zs.getD j 0 < x := by
  have := (fstB_all (b := fun i => decide (¬ zs.getD i 0 < x)) (k := zs.length)).1 j h
  have := of_decide_eq_false this
  omega
theorem posI_hi {zs : List Int} {x : Int} (h : posI zs x < zs.length) : ¬ zs.getD (posI zs x) 0 < x := of_decide_eq_true ((fstB_all (b := fun i => decide (¬ zs.getD i 0 < x)) (k := zs.length)).2 h)
theorem posI_cnt {q : Nat} {a : Nat → Int} {x : Int} (hs : ∀ i j, i < j → j < q → a i < a j) : (liI q a).countP (fun z => decide (z < x)) = posI (liI q a) x := by
  refine cnt_split (posI_le _ _) (fun j hj => posI_lo hj) fun j h1 h2 => ?_
  have hp := posI_hi (zs := liI q a) (x := x) (by omega)
  rw [liI_len] at h2
  rw [liI_get (by have := posI_le (liI q a) x; rw [liI_len] at this; omega)] at hp
  rw [liI_get h2]
  by_cases e : posI (liI q a) x = j
  · rw [e] at hp; exact hp
  · have := hs (posI (liI q a) x) j (by omega) h2
    omega
theorem has_con (q : Nat) (a : Nat → Int) (x : Int) : (liI q a).contains x = hasL q a x := by
  refine Bool.eq_iff_iff.2 ?_
  unfold hasL
  simp [liI]
theorem bs_p (q : Nat) (a : Nat → Int) (x : Int) (hq : q ≤ 1000000) (hs : ∀ i j, i < j → j < q → a i < a j) : CallsP Tryz.prog 83 [.one (.lst 1 q (intI a)), .one (.g (.int .i64 x))] (.tup [.one (.g (.int .i64 (posI (liI q a) x : Nat))), .one (.g (.bool (hasL q a x)))]) := by
  intro w Z vs hZ hv
  obtain ⟨vs⟩ := vs
  match vs, hv with
  | [v, v2], ⟨hv, h2, _⟩ =>
    have e2 : v2 = .int .i64 x := by cases h2; rfl
    subst e2
    have hv : Rd w Z v (.lst 1 q (intI a)) := hv
    cases hv with
    | nil p cap =>
      refine (Tryz.slices_BinarySearch_int_empty p cap x w).mono fun e w' ⟨he, hw⟩ => ?_
      subst hw
      have e1 : posI (liI 0 a) x = 0 := rfl
      have e2 : hasL 0 a x = false := decide_eq_false fun ⟨i, h, _⟩ => absurd h (Nat.not_lt_zero _)
      refine ⟨_, he, Below.refl _ _, _, rfl, ?_, ?_, trivial⟩
      · rw [e1]; exact Rd.g _ rfl
      · rw [e2]; exact Rd.g _ rfl
    | lst b off _ cap _ _ X hz hn hm h1 h2 =>
      have hc : ∀ j, j < (liI q a).length → w.cell? ⟨b, off + j, none⟩ = some (.int .i64 ((liI q a).getD j 0)) := fun j hj => by
        rw [liI_len] at hj
        have k1 := h1 j 0 hj (by omega)
        have k2 := h2 j 0 hj (by omega)
        rw [Nat.mul_one, Nat.add_zero] at k1
        rw [k1, liI_get hj]
        have : X j 0 = .int .i64 (a j) := by
          generalize X j 0 = y at k2
          have k2 : Rd w Z y (.g (.int .i64 (a j))) := k2
          cases k2; rfl
        rw [this]
      have hso : ((liI q a).take q).Pairwise (· ≤ ·) := by
        rw [List.take_of_length_le (by rw [liI_len]; exact Nat.le_refl _)]
        unfold liI
        rw [List.pairwise_map]
        refine List.Pairwise.imp_of_mem (fun {i j} hi hj hij => ?_) (List.pairwise_lt_range (n := q))
        have := hs i j hij (List.mem_range.1 hj)
        omega
      refine (Tryz.slices_BinarySearch_int b off q cap (liI q a) x w (by rw [liI_len]; exact Nat.le_refl _) (by omega) hc hso).mono fun e w' ⟨he, n, hw⟩ => ?_
      subst hw
      rw [List.take_of_length_le (by rw [liI_len]; exact Nat.le_refl _), posI_cnt hs, has_con] at he
      exact ⟨_, he, ⟨rfl, rfl, rfl, Nat.le_refl _, fun _ _ => rfl⟩, _, rfl, Rd.g _ rfl, Rd.g _ rfl, trivial⟩
def part0 : PartS := ⟨0, 0, fun _ => 0, 0, fun _ => zOp 0 0⟩
def prtS (N : NotS) (ch : Int) : PartS := if prtB N ch = true then prt N ch else part0
theorem prtS_t {N : NotS} {ch : Int} {i : Nat} (hi : (i : Int) < N.n) (h : (N.p i).ch = ch) (g : ∀ j, j < i → (N.p j).ch ≠ ch) : prtS N ch = N.p i ∧ prtB N ch = true := by
  have e := prt_h hi h g
  have e2 : prtB N ch = true := decide_eq_true (by rw [e]; omega)
  refine ⟨?_, e2⟩
  unfold prtS prt; rw [if_pos e2, e]
theorem prtS_f {N : NotS} {ch : Int} {i : Nat} (hi : (N.n : Int) ≤ i) (g : ∀ j, j < i → (N.p j).ch ≠ ch) : prtS N ch = part0 ∧ prtB N ch = false := by
  have e2 : prtB N ch = false := decide_eq_false (by rw [prt_o hi g]; omega)
  refine ⟨?_, e2⟩
  unfold prtS; rw [if_neg (by rw [e2]; simp)]
theorem nts_t {n : Nat} {N : Nat → NotS} {i : Nat} (hi : (n : Int) ≤ i) (g : ∀ j, j < i → notO N j) : decide ((n : Int) ≤ 200) = ntsB n N := by
  unfold ntsB; exact decide_eq_decide.2 ⟨fun h => ⟨by omega, fun j hj => g j (by omega)⟩, fun h => by omega⟩
theorem nts_p (n : Nat) (N : Nat → NotS) (hn : n ≤ 9223372036854775807) (hN : ∀ i, i < n → (N i).Ok) : CallsP Tryz.prog 50 [.one (.lst 7 n (notF N))] (.t (.one (.g (.bool (ntsB n N))))) := by
  refine CallsP_of Tryz.func50 rfl (by rw [Tryz.ntmps50]; simp) ?_
  simp only [Tryz.ntmps50, zM, PT.tv, argEnv, Nat.zero_add, Nat.reduceAdd]
  repeat' (first
 | ((with_reducible show AW _ _ _ _); first
 | (with_reducible first | refine aS (fun K hK => ?_) | refine aI ?_ | refine aX ?_ | refine aT ?_ | refine aC ?_ | refine aB ?_)
 | (first
 | (with_reducible first | refine aP 0 [0] ?_ | refine aP 1 [0] ?_ | refine aP 2 [0,5,6,7] ?_ | refine aP 3 [0,5,6,7] ?_)
 | ((with_reducible refine aR (c := Code.region 4 _ true) [0,3,4,5,6,7] ?_); (with_reducible refine aD ?_ ?_ ?_ ?_); (focus kernel_rfl); (focus kernel_rfl); (focus kernel_rfl))
 | (with_reducible first | refine aP 5 [] ?_ | refine aP 6 [0,5,6,7] ?_ | refine aP 7 [0] ?_))
 | ((with_reducible show AW _ (Code.loop _) _ _); first
 | ((with_reducible refine aL (c := (Code.seq (Code.region 2 _ _) _)) (ι := Nat) [0,5,6] (fun i => [(7, iA .i64 (i : Int))]) (fun i => []) (fun i => i ≤ n ∧ (∀ j, j < i → notO N j)) (fun i => n - i) 0 ?lg2 ?l12 ?l22 ?li2 ?lr2); (case' lg2 => rintro i _); (case' li2 => try (exact ⟨Nat.zero_le _, fun i hi => absurd hi (Nat.not_lt_zero _)⟩)); (case' lr2 => rintro i ⟨hi, hai⟩ KR hR2; simp only [keepE, hupd, hset, lk, if_true, if_false, xE, reduceIte, zN]))))
 | ((first | (with_reducible refine And.intro ?_ ?_) | (with_reducible refine Need.mk ?_)); focus (first | exact True.intro | omega | (intros; (repeat' (first | omega | (with_reducible refine And.intro ?_ ?_))); done) | (simp; done) | (simp +contextual; done) | (intro hq; have hq2 := hq; simp only [Bool.and_eq_true, Bool.or_eq_true, Bool.not_eq_true', Bool.not_not, Bool.not_eq_false', decide_eq_true_eq, decide_eq_false_iff_not] at hq2; (repeat' (first | exact hq | (with_reducible refine And.intro ?_ ?_) | omega)); done)))
 | (with_reducible refine retK_n ?_)
 | ((with_reducible show condN _ _ _ _ _ _); first
 | ((with_reducible refine condN_t ?_ ?_) <;> (intro hc; (try simp only [zB, zC, reduceCtorEq] at hc); (try (exfalso; contradiction)))))
 | ((with_reducible refine And.intro ?_ ?_); focus ((with_reducible show chkR _ _ _ = true); kernel_rfl))
 | ((with_reducible show callDN _ _ _ _ _ _ _ _ _ _ _ _ _); first
 | (refine callDN_q (k := 42) fnok_42 (Not_p (N i) (hN i (by omega))) ?_ ?_))
 | ((with_reducible refine hR2 _ (i + 1) ?_); (try clear hR2 KR))
 | ((with_reducible refine Told.mk ?_); simp only [go_sem, reduceIte, reduceCtorEq, xA, xL, xD, xE, xM, xS, xB] <;> ((((try simp (disch := omega) only [seaWrap, Int.natCast_add, Int.cast_ofNat_Int, and_true, true_and, and_self]); (repeat' (first | omega | (with_reducible refine And.intro ?_ ?_) | ((exact all_succ (by assumption) ⟨by simp_all, by omega, fun h0 => by omega⟩)))); done))))
 | ((fail_if_success (with_reducible show AW _ _ _ _)); simp (maxSteps := 2000000) only [go_sem, reduceIte, reduceCtorEq, xA, xL, xD, xE, xM, xS, xB, Tryz.f50])
 | ((fail_if_success (with_reducible show AW _ _ _ _)); simp (disch := omega) only [seaWrap, seaDiv, seaMod])
 | ((with_reducible refine hK _ ?_); clear hK K)
 | (with_reducible apply_assumption -exfalso only [*]))
  all_goals (first | exact rnts_f (by assumption) hc | exact nts_t (by assumption) hai)
theorem has_p (s : ShtS) (x : Int) (hs : s.Ok) (hv : shtB s = true) : CallsP Tryz.prog 63 [(shP s), .one (.g (.int .i64 x))] (.t (.one (.g (.bool (hasL s.q s.dn x))))) := by
  have hsq := sht_q hv
  refine CallsP_of Tryz.func63 rfl (by rw [Tryz.ntmps63]; simp) ?_
  simp only [shP, Tryz.ntmps63, zM, PT.tv, argEnv, Nat.zero_add, Nat.reduceAdd]
  repeat' (first
 | ((with_reducible show AW _ _ _ _); first
 | (with_reducible first | refine aS (fun K hK => ?_) | refine aT ?_)
 | (first
 | (with_reducible first | refine aP 0 [0,1] ?_ | refine aP 1 [1,2] ?_ | refine aP 2 [6] ?_)))
 | (((with_reducible refine Need.mk ?_)); focus (exact True.intro))
 | (with_reducible refine retK_n ?_)
 | ((with_reducible show callN _ _ _ _ _ _ _ _ _ _); first
 | (refine callN_q (k := 83) fnok_83 (bs_p s.q s.dn x (by omega) (fun i j h1 h2 => rise_all hsq.2.2 j h1 h2)) ?_ ?_))
 | ((fail_if_success (with_reducible show AW _ _ _ _)); simp (maxSteps := 2000000) only [go_sem, reduceIte, reduceCtorEq, xA, xL, xD, xE, xM, xS, xB, Tryz.f63])
 | ((with_reducible refine hK _ ?_); clear hK K))
theorem prtF_p (N : NotS) (ch : Int) (ho : N.Ok) : CallsP Tryz.prog 65 [(noP N), .one (.g (.int .i64 ch))] (.tup [.agg [.g (.int .i64 (prtS N ch).ch), .lst 1 (prtS N ch).q (intI (prtS N ch).a), .lst 16 (prtS N ch).k (oprF (prtS N ch).o)], .one (.g (.bool (prtB N ch)))]) := by
  have hnn := ho.n
  refine CallsP_of Tryz.func65 rfl (by rw [Tryz.ntmps65]; simp) ?_
  simp only [noP, Tryz.ntmps65, zM, PT.tv, argEnv, Nat.zero_add, Nat.reduceAdd]
  repeat' (first
 | ((with_reducible show AW _ _ _ _); first
 | (with_reducible first | refine aS (fun K hK => ?_) | refine aI ?_ | refine aX ?_ | refine aT ?_ | refine aC ?_ | refine aB ?_)
 | (first
 | (with_reducible first | refine aP (ops := #[⟨some 2, _, _, _, _, _⟩, _, _, _]) 0 [0,1] ?_ | refine aP (ops := #[⟨some 4, _, _, _, _, _⟩]) 0 [0,1] ?_ | refine aP (ops := #[⟨some 2, _, _, _, _, _⟩, _]) 0 [0,1] ?_ | refine aP (ops := #[⟨some 7, _, _, _, _, _⟩, _, _, _, _]) 1 [2,3,4] ?_ | refine aP (ops := #[⟨some 6, _, _, _, _, _⟩, _, _]) 1 [0,1] ?_ | refine aP (ops := #[⟨some 4, _, _, _, _, _⟩, _, _, _, _]) 1 [1,2] ?_ | refine aP (ops := #[⟨some 11, _, _, _, _, _⟩, _]) 2 [2,4,6] ?_ | refine aP (ops := #[⟨some 9, _, _, _, _, _⟩]) 2 [0,1,7,8] ?_ | refine aP (ops := #[⟨some 13, _, _, _, _, _⟩, _, _]) 3 [4] ?_ | refine aP (ops := #[⟨some 10, _, _, _, _, _⟩, _]) 3 [0,1,7,8] ?_ | refine aP (ops := #[⟨some 14, _, _, _, _, _⟩, _, _, _, _, _, _]) 4 [2,4,6] ?_ | refine aP (ops := #[⟨some 11, _, _, _, _, _⟩, _, _, _, _, _]) 4 [0,1,5,7,8] ?_ | refine aP 5 [5] ?_ | refine aP 6 [0,1,7,8] ?_ | refine aP 7 [] ?_))
 | ((with_reducible show AW _ (Code.loop _) _ _); first
 | ((with_reducible refine aL (c := (Code.seq (Code.region 2 _ _) _)) (ι := Nat) [0,1,7] (fun i => [(8, iA .i64 (i : Int))]) (fun i => []) (fun i => i ≤ N.n ∧ (∀ j, j < i → (N.p j).ch ≠ ch)) (fun i => N.n - i) 0 ?lg2 ?l12 ?l22 ?li2 ?lr2); (case' lg2 => rintro i _); (case' li2 => try (exact ⟨Nat.zero_le _, fun i hi => absurd hi (Nat.not_lt_zero _)⟩)); (case' lr2 => rintro i ⟨hi, hai⟩ KR hR2; simp only [keepE, hupd, hset, lk, if_true, if_false, xE, reduceIte, zN]))))
 | (((with_reducible refine And.intro ?_ ?_)); focus (omega))
 | (with_reducible refine retK_n ?_)
 | ((with_reducible show condN _ _ _ _ _ _); first
 | ((with_reducible refine condN_t ?_ ?_) <;> (intro hc; (try simp only [zB, zC, reduceCtorEq] at hc); (try (exfalso; contradiction)))))
 | ((with_reducible refine hR2 _ (i + 1) ?_); (try clear hR2 KR))
 | ((with_reducible refine Told.mk ?_); simp only [go_sem, reduceIte, reduceCtorEq, xA, xL, xD, xE, xM, xS, xB, intI] <;> ((((try simp (disch := omega) only [seaWrap, Int.natCast_add, Int.cast_ofNat_Int, and_true, true_and, and_self]); (repeat' (first | omega | (with_reducible refine And.intro ?_ ?_) | (exact all_succ (by assumption) (by assumption)))); done))))
 | ((fail_if_success (with_reducible show AW _ _ _ _)); simp (maxSteps := 2000000) only [go_sem, reduceIte, reduceCtorEq, xA, xL, xD, xE, xM, xS, xB, Tryz.f65, Tryz.f99, Tryz.f100, intI])
 | ((with_reducible show callN _ _ _ _ _ _ _ _ _ _); first
 | ((refine callN_i (k := 99) Tryz.func99 rfl fnok_99 (by rw [Tryz.ntmps99]; simp) ?_ ?_ (fun K hK => ?_)); (focus (exact True.intro)); (focus ((simp [lsF]; done))); simp only [Tryz.ntmps99, List.map_cons, List.map_nil, List.nil_append, List.cons_append, List.append_nil, LV.tv, argEnv, Nat.zero_add, Nat.reduceAdd])
 | ((refine callN_ic (k := 100) Tryz.func100 rfl fnok_100 (by rw [Tryz.ntmps100]; simp) ?_ ?_ (fun K hK => ?_)); (focus (exact True.intro)); (focus ((simp [lsF]; done))); simp only [Tryz.ntmps100, List.map_cons, List.map_nil, List.nil_append, List.cons_append, List.append_nil, LV.tv, argEnv, Nat.zero_add, Nat.reduceAdd]))
 | ((with_reducible refine hK _ ?_); clear hK K)
 | (with_reducible apply_assumption -exfalso only [*]))
  all_goals (first | (have e := prtS_t (by assumption) (by assumption) hai; rw [e.1, e.2]; (repeat' (first | exact rfl | (with_reducible refine And.intro ?_ ?_) | (intro i q hi hq; exact IV.eqv_refl _) | (intro i q hi hq; exact rfl))); done) | (have e := prtS_f (by assumption) hai; rw [e.1, e.2]; (repeat' (first | exact rfl | (with_reducible refine And.intro ?_ ?_))); done))
end Go.Proofs.YtdhgiklbkmkblaaGreat
namespace Go.Proofs.YtdhgiklbkmkblaaGreat
open Go.RowKit Go.Sea Go.Lib
theorem sl22 : Tryz.prog.underlying 24 = some (.slice 3) := by kernel_rfl
theorem by33 : (Tryz.prog.info? 3).map (fun i => (i.size, i.bytes, i.zero.map (·.cells.size))) = some (1, 8, some 1) := by kernel_rfl
set_option maxHeartbeats 4000000 in
set_option maxRecDepth 100000 in
set_option maxHeartbeats 2000000 in
theorem clone_nil (cap : Nat) (w : World) : Calls Tryz.prog 55 #[.slice none 0 cap] w fun e w' => e = .returned (.slice none 0 0) ∧ w' = w := by
  have q : (binOp .eql 24 (.slice none 0 cap) (.slice none 0 0)).run Tryz.prog w = .ok (.bool true) w := run_eql_slice_nil w 24 3 none 0 cap sl22
  go_enter Tryz.func55, Tryz.ntmps55
  go_wp2
  go_ret
  exact ⟨rfl, rfl⟩
set_option maxHeartbeats 4000000 in
set_option maxRecDepth 100000 in
theorem clone_some (p : Addr) (n cap : Nat) (w w' : World) (u : Value) (h : ∀ ty, (Builtin.append_ #[24,24] ty #[.slice (some ⟨w.heap.size, 0, none⟩) 0 0, .slice (some p) n cap]).run Tryz.prog (w.alloc (.cells #[] 3)) = .ok u w') : Calls Tryz.prog 55 #[.slice (some p) n cap] w fun e w'' => e = .returned u ∧ w'' = w' := by
  have q : (binOp .eql 24 (.slice (some p) n cap) (.slice none 0 0)).run Tryz.prog w = .ok (.bool false) w := run_eql_slice_nil w 24 3 (some p) n cap sl22
  go_enter Tryz.func55, Tryz.ntmps55
  go_wp2_with (at_builtin; refine Lib.wpList_append_run _ rfl _ _ _ _ rfl _ _ rfl rfl _ _ (h _) ?_)
  all_goals (go_ret; exact ⟨rfl, rfl⟩)
theorem below_alloc (w : World) (o : Obj) : Below w.heap.size w (w.alloc o) := by
  refine ⟨rfl, rfl, rfl, by simp, fun k hk => ?_⟩
  exact Below.heap_alloc _ _ _ hk
set_option maxHeartbeats 2000000 in
theorem clone_n (n : Nat) (f : Nat → Nat → IV) (hn : n ≤ 1000) : CallsN Tryz.prog 55 [.one (.iv (.lst 1 n f))] (lstC f 1 n 0) (fun i => .t (.one (.slc i 0 n 1))) := by
  intro H i hH w0 Z0 J Z s a w vs R hs hv
  subst hs
  obtain ⟨vs⟩ := vs
  match vs, hv with
  | [v], ⟨hv, _⟩ =>
    have hv : Rd w Z v (.lst 1 n f) := hv
    have hlen : (lstC f 1 n 0).length = n * 1 := lstC_len f 1 n 0
    have empty : ∀ (p : Addr) (cap : Nat), n = 0 → v = .slice (some p) 0 cap → Calls Tryz.prog 55 #[v] w fun e w' => ∃ v J' Z', e = .returned v ∧ Rel w0 Z0 J' Z' { s with heap := hset s.heap i (lstC f 1 n 0) } a w' ∧ ARel w' J' Z' v (.t (.one (.slc i 0 n 1))) := fun p cap h0 ev => by
      subst h0; subst ev
      obtain ⟨ii, h33⟩ : ∃ ii, Tryz.prog.info? 3 = some ii := by
        have := by33
        cases h : Tryz.prog.info? 3 with
        | none => rw [h] at this; cases this
        | some i => exact ⟨i, rfl⟩
      refine (clone_some p 0 cap w _ _ fun ty => run_append_none sl22 h33 _ _ 0 0 cap (Nat.le_refl _)).mono fun e w' ⟨he, hw⟩ => ?_
      subst hw
      have R1 := R.new (nid := i) (cs := []) (c := #[]) (e := 3) (H := hset s.heap i []) hH (hget_hset_same _ _ _) (fun q hq => hget_hset_ne _ _ _ _ hq) (by simp [All2])
      exact ⟨_, _, _, he, R1, Or.inr ⟨w.heap.size, 0, #[], 3, rfl, by simp [jset], Nat.zero_le _, Nat.zero_le _, heap_alloc_new w _, by simp⟩⟩
    have hv0 := hv
    cases hv with
    | nil p cap =>
      cases p with
      | none =>
        refine (clone_nil cap w).mono fun e w' ⟨he, hw⟩ => ?_
        subst hw
        exact ⟨_, J, Z, he, R.newEmpty (nid := i) hH (by rw [hget_hset_same]; rfl) (fun q hq => hget_hset_ne _ _ _ _ hq), Or.inl ⟨rfl, rfl⟩⟩
      | some p => exact empty p cap rfl rfl
    | lst b off _ cap _ _ X hz hc hm h1 h2 =>
      by_cases h0 : n = 0
      · exact empty ⟨b, off, none⟩ cap h0 (by rw [h0])
      · obtain ⟨hR1, G⟩ := R.call (below_alloc w (.cells #[] 3))
        have hv1 : TRel (w.alloc (.cells #[] 3)) J (fun b => Z b ∨ (w.heap.size ≤ b ∧ b < (w.alloc (.cells #[] 3)).heap.size)) (.slice (some ⟨b, off, none⟩) n cap) (.one (.iv (.lst 1 n f))) := CRel.grow G (CV.ok_all (.iv (.lst 1 n f))) hv0
        obtain ⟨ii, z, t1, t2, t3, t4, t5, t6, t7⟩ := slD_spec (P := Tryz.prog) (t := 24) (e := 3) (n := 1) (b := 8) (by kernel_rfl)
        rcases src_cells hR1 (size := 1) (m := n) (nd := True) (x := .one (.iv (.lst 1 n f))) (ns := lstC f 1 n 0) (by simp [srcF]) trivial hv1 with ⟨h, _⟩ | ⟨hpos, b2, off2, cap2, news, e2, n1, n2, n3, n4⟩
        · exact absurd h h0
        · cases e2
          have hrun := fun ty => run_append_grow (P := Tryz.prog) (w.alloc (.cells #[] 3)) 24 ty 3 ii z t1 t2 t3 ⟨w.heap.size, 0, none⟩ 0 0 [] (by simp) (fun j v h => by simp at h) ⟨b, off, none⟩ n cap news (by rw [n1, t5]) n2 (by omega) (by omega) (by
            rw [t6]; exact growslice_fits (by omega) (by omega))
          simp only [Nat.zero_add] at hrun
          have hsz := grownCap_ge (w.alloc (.cells #[] 3)) n 0 3
          have hmx := grownCap_le_maxLen (w.alloc (.cells #[] 3)) n 0 3 (by unfold maxLen; omega)
          generalize grownCap (w.alloc (.cells #[] 3)) n 0 3 = G at hrun hsz hmx
          have hC : G * 1 ≤ (([] : List Value).toArray ++ news.toArray ++ Builtin.zeroCells z.cells (G - n)).size := by
            simp only [Array.size_append, size_zeroCells, t4, List.size_toArray, n1, List.length_nil]
            omega
          have hD : All2 (CRel (w.alloc (.cells #[] 3)) J (fun b => Z b ∨ (w.heap.size ≤ b ∧ b < (w.alloc (.cells #[] 3)).heap.size))) ((([] : List Value).toArray ++ news.toArray ++ Builtin.zeroCells z.cells (G - n)).toList.take (lstC f 1 n 0).length) (lstC f 1 n 0) := by
            rw [Array.toList_append, Array.toList_append, List.nil_append, List.take_append_of_le_length (by simp; omega), List.take_of_length_le (by simp; omega)]
            exact n4
          generalize ([] : List Value).toArray ++ news.toArray ++ Builtin.zeroCells z.cells (G - n) = C at hrun hC hD
          have cl := clone_some ⟨b, off, none⟩ n cap w _ _ hrun
          have R2 := (hR1.drew).new (nid := i) (cs := lstC f 1 n 0) (c := C) (e := 3) (H := hset s.heap i (lstC f 1 n 0)) hH (hget_hset_same _ _ _) (fun q hq => hget_hset_ne _ _ _ _ hq) (all2_drew hD)
          have hA := heap_alloc_new (w.alloc (.cells #[] 3)).drew (.cells C 3)
          generalize hw1 : w.alloc (.cells #[] 3) = w1 at cl R2 hA
          refine cl.mono fun e w' ⟨he, hw⟩ => ?_
          subst hw
          exact ⟨_, _, _, he, R2, Or.inr ⟨_, _, _, 3, rfl, by simp [jset], hsz, hmx, hA, by rw [Nat.zero_add]; exact hC⟩⟩
end Go.Proofs.YtdhgiklbkmkblaaGreat
namespace Go.Proofs.YtdhgiklbkmkblaaGreat
open Go.RowKit Go.Sea
def repTo (s s' : AS) : Prop := ∀ (w0 : World) (Z0 : Fr) (a : Act) (w : World), Rep w0 Z0 s a w → Rep w0 Z0 s' a w
def stepP (P : Program) (o : Oper) (s s' : AS) : Prop := o.guard = none ∧ ∀ (w0 : World) (Z0 : Fr) (a : Act) (w : World) (K : Act → World → Prop) (Q : Exit → Act → World → Prop) (n : Nat), Rep w0 Z0 s a w → (∀ a' w', Rep w0 Z0 s' a' w' → K a' w') → o.wpIn (fo Z0.ro) n P a w K Q
theorem AW_regionS {P : Program} {s : AS} {Q : Exit → AS → Prop} {id : Nat} {ops : Array Oper} (S : (Nat → Bool) → AS) (hm : P.follows .mixedOrders = true) (hback : backB .any ops = true) (hd : noDefer ops = true) (h0 : repTo s (S fun _ => false))
    (hs : ∀ i o, ops[i]? = some o → ∀ D, Closed .any ops D → D i = false → (o.after.toList.all fun e => !Region.binds .any e || D e.on) = true → stepP P o (S D) (S (upd D i)))
    (hq : ∀ D, (∀ i, i < ops.size → D i = true) → ∃ s', repTo (S D) s' ∧ Q .normal s') : AW P (.region id ops true) s Q := fun w0 Z0 a w n R => by
  refine regionIn_byI (free_fo _) (fun _ D a w => Rep w0 Z0 (S D) a w) hm hd hback ?_ ?_ fun D a w hD R' => ?_
  · obtain ⟨J, Z, R⟩ := h0 _ _ _ _ R
    exact ⟨J, Z, R.drew⟩
  · refine StepsI.of ops.toList 0 fun i o ho D a w R' hDi hpre hcl K hK => ?_
    rw [Nat.zero_add] at hDi
    simp only [Nat.zero_add] at hK
    have hoi : ops[i]? = some o := by rw [← Array.getElem?_toList]; exact ho
    obtain ⟨hg, hst⟩ := hs i o hoi D hcl hDi hpre
    have hw : Region.wanted o (yielded ops a.tmps) = true := by simp [Region.wanted, hg]
    rw [if_pos hw]
    exact hst w0 Z0 a w _ _ _ R' hK
  · obtain ⟨s', h1, h2⟩ := hq D hD
    exact ⟨s', h1 _ _ _ _ R', h2⟩
theorem repTo_of {s s' : AS} (hN : s'.N = s.N) (hg : s'.gh = s.gh) (hl : s'.lp = s.lp) (he : ∀ t, s'.get t = s.get t ∨ s'.get t = .any) (hh : ∀ q, hget s'.heap q = hget s.heap q) : repTo s s' := fun w0 Z0 a w ⟨J, Z, R⟩ =>
  ⟨J, Z, R.nodef, by rw [hN]; exact R.size, R.below, R.zfrom, R.zlt, R.jlt, R.inj, fun i hi => R.hole i ((hh i).symm.trans hi), fun i cs hi => R.blk i cs ((hh i).symm.trans hi), fun t => by
    rcases he t with e | e
    · show ARel _ _ _ _ (s'.get t); rw [e]; exact R.slots t
    · show ARel _ _ _ _ (s'.get t); rw [e]; trivial, fun f t => by rw [hg]; exact R.ghost f t, by rw [hl]; exact R.loops, by rw [hl]; exact R.lnd, by rw [hl]; exact R.ro⟩
theorem step_f {P : Program} {o : Oper} {s s' : AS} {nid : Nat} {nd : Prop} {v : AV} {ef : Eff} (hg : o.guard = none) (hd : ∀ c, o.op ≠ .defer c) (hh : hget s.heap nid = none) (hdst : dstOk s o.dst) (hop : opF P nid s.ev (hget s.heap) o = some (nd, v, ef)) (hn : nd) (ht : repTo (s.ent o.dst nid v ef) s') : stepP P o s s' :=
  ⟨hg, fun w0 Z0 a w K Q n ⟨J, Z, R⟩ hK => opIn_of_wp (free_fo _) hd (does_wp (opF_sound R hh hop hn) fun J' w' u R' hr => hK _ _ (ht _ _ _ _ ⟨J', Z, R'.put (fun k e => by rw [eff_N]; exact dstOk_spec hdst k e) hr⟩))⟩
structure En where
  t : Nat
  c : (Nat → Bool) → Bool
  x : TV
def tabE (tb : List En) (D : Nat → Bool) : List (Nat × AV) := tb.map fun e => (e.t, bif e.c D then .t e.x else .any)
theorem tab_put {D D' : Nat → Bool} {t0 : Nat} {x0 : TV} {E0 : List (Nat × AV)} : ∀ (tb : List En), (∀ e, e ∈ tb → if e.t = t0 then e.x = x0 else (e.c D' = true → e.c D = true)) → t0 ∈ tb.map (·.t) →
    ∀ t, lk (tabE tb D' ++ E0) t = lk ((t0, .t x0) :: (tabE tb D ++ E0)) t ∨ lk (tabE tb D' ++ E0) t = .any := by
  have key : ∀ (tb : List En), (∀ e, e ∈ tb → if e.t = t0 then e.x = x0 else (e.c D' = true → e.c D = true)) → ∀ t, (t = t0 → t0 ∈ tb.map (·.t)) → lk (tabE tb D' ++ E0) t = (if t = t0 then .t x0 else lk (tabE tb D ++ E0) t) ∨ lk (tabE tb D' ++ E0) t = .any := by
    intro tb
    induction tb with
    | nil => intro _ t ht; by_cases h : t = t0
             · simp at ht; exact absurd h ht
             · rw [if_neg h]; exact Or.inl rfl
    | cons e l ih =>
      intro h t ht
      show lk ((e.t, _) :: (tabE l D' ++ E0)) t = (if t = t0 then _ else lk ((e.t, _) :: (tabE l D ++ E0)) t) ∨ lk ((e.t, _) :: (tabE l D' ++ E0)) t = .any
      simp only [lk]
      have he := h e (List.mem_cons_self ..)
      by_cases hte : t = e.t
      · rw [if_pos hte, if_pos hte]
        cases hc : e.c D' with
        | false => exact Or.inr rfl
        | true =>
          left
          by_cases h0 : t = t0
          · rw [if_pos h0]; rw [if_pos (by omega)] at he; exact congrArg AV.t he
          · rw [if_neg h0]; rw [if_neg (by omega)] at he; rw [he hc]
      · rw [if_neg hte, if_neg hte]
        exact ih (fun e' h' => h e' (List.mem_cons_of_mem _ h')) t fun e0 => by
          rcases List.mem_cons.1 (ht e0) with h1 | h1
          · exact absurd (e0.trans h1) hte
          · exact h1
  intro tb h ht t
  exact key tb h t fun _ => ht
theorem tab_same {D D' : Nat → Bool} {E0 : List (Nat × AV)} : ∀ (tb : List En), (∀ e, e ∈ tb → e.c D' = true → e.c D = true) → ∀ t, lk (tabE tb D' ++ E0) t = lk (tabE tb D ++ E0) t ∨ lk (tabE tb D' ++ E0) t = .any
  | [], _, t => Or.inl rfl
  | e :: l, h, t => by
    show lk ((e.t, _) :: (tabE l D' ++ E0)) t = lk ((e.t, _) :: (tabE l D ++ E0)) t ∨ lk ((e.t, _) :: (tabE l D' ++ E0)) t = .any
    simp only [lk]
    by_cases hte : t = e.t
    · rw [if_pos hte, if_pos hte]
      cases hc : e.c D' with
      | false => exact Or.inr rfl
      | true => rw [h e (List.mem_cons_self ..) hc]; exact Or.inl rfl
    · rw [if_neg hte, if_neg hte]
      exact tab_same l (fun e' h' => h e' (List.mem_cons_of_mem _ h')) t
theorem tab_0 {D : Nat → Bool} {E0 : List (Nat × AV)} : ∀ (tb : List En), (∀ e, e ∈ tb → e.c D = false) → ∀ t, lk (tabE tb D ++ E0) t = lk E0 t ∨ lk (tabE tb D ++ E0) t = .any
  | [], _, t => Or.inl rfl
  | e :: l, h, t => by
    show lk ((e.t, _) :: (tabE l D ++ E0)) t = _ ∨ lk ((e.t, _) :: (tabE l D ++ E0)) t = .any
    simp only [lk]
    by_cases hte : t = e.t
    · rw [if_pos hte, h e (List.mem_cons_self ..)]; exact Or.inr rfl
    · rw [if_neg hte]
      exact tab_0 l (fun e' h' => h e' (List.mem_cons_of_mem _ h')) t
theorem tab_lk {D : Nat → Bool} {E0 : List (Nat × AV)} {t : Nat} : ∀ (tb : List En), t ∉ tb.map (·.t) → lk (tabE tb D ++ E0) t = lk E0 t
  | [], _ => rfl
  | e :: l, h => by
    show lk ((e.t, _) :: (tabE l D ++ E0)) t = _
    simp only [lk]
    rw [if_neg (by rintro rfl; exact h (by simp))]
    exact tab_lk l fun h' => h (by simp only [List.map_cons, List.mem_cons]; exact Or.inr h')
def ancB (ops : Array Oper) (p : Nat × Nat) : Bool := ((masks [] ops.toList).getD p.1 0).testBit p.2
theorem anc_t {ops : Array Oper} {D : Nat → Bool} (hcl : Closed .any ops D) {i k : Nat} {o : Oper} (ho : ops[i]? = some o) (hpre : (o.after.toList.all fun e => !Region.binds .any e || D e.on) = true) (h : ancB ops (i, k) = true) : D k = true := (masks_anc (ops := ops) h).done hcl o ho hpre
theorem anc_f {ops : Array Oper} {D : Nat → Bool} (hcl : Closed .any ops D) {i k : Nat} (hi : D i = false) (hk : k < ops.size) (h : ancB ops (k, i) = true) : D k = false := by
  cases hD : D k with
  | false => rfl
  | true =>
    have ho : ops[k]? = some ops[k] := Array.getElem?_eq_getElem hk
    have := (masks_anc (ops := ops) h).done hcl _ ho (hcl k _ ho hD)
    rw [hi] at this; cases this
def insT (c r i8 i12 m p : Nat) (x : Int) (f8 : CV) (A : Nat → Nat → IV) : List En := [⟨76, fun D => D 0, .one (.ptr c 0)⟩, ⟨77, fun D => D 1, .one (.ptr c 0)⟩, ⟨78, fun D => D 2, .one f8⟩, ⟨79, fun D => D 3, .one (.ptr c 0)⟩, ⟨80, fun D => D 4, .one (.ptr c 0)⟩, ⟨81, fun D => D 5, .one (.ptr c 0)⟩, ⟨82, fun D => D 6, .one (.ptr c 11)⟩, ⟨83, fun D => D 7, .one (.iv (.lst 1 m A))⟩, ⟨84, fun D => (D 8 && !D 13), .one (.slc i8 0 m 1)⟩, ⟨85, fun D => D 9, .one (.iv (.g (.int .i64 (p : Int))))⟩, ⟨86, fun D => D 10, .one (.ptr r 1)⟩, ⟨87, fun D => D 11, .one (.iv (.g (.int .i64 x)))⟩, ⟨88, fun D => D 12, .one (.slc i12 0 1 1)⟩, ⟨89, fun D => D 13, .one (.slc i8 0 (m + 1) 1)⟩, ⟨90, fun D => D 14, .one (.ptr c 0)⟩, ⟨91, fun D => D 15, .one (.ptr c 0)⟩, ⟨92, fun D => D 16, .one (.ptr c 12)⟩, ⟨93, fun D => D 18, .one (.ptr c 0)⟩, ⟨94, fun D => D 19, .one (.ptr c 0)⟩, ⟨95, fun D => D 20, .one (.ptr c 11)⟩]
def insC (c i8 m : Nat) (f8 : CV) (cs : List CV) (D : Nat → Bool) : List CV := bif D 21 then (cs.take 12 ++ [f8] ++ cs.drop 13).take 11 ++ [.slc i8 0 (m + 1) 1] ++ (cs.take 12 ++ [f8] ++ cs.drop 13).drop 12 else bif D 17 then cs.take 12 ++ [f8] ++ cs.drop 13 else cs
def insH (H0 : List (Option (List CV))) (c i8 i12 m p : Nat) (x : Int) (f8 : CV) (cs : List CV) (zs : List Int) (D : Nat → Bool) : List (Option (List CV)) :=
  (fun H => bif D 12 then hset H i12 [.iv (.g (.int .i64 x))] else H) ((fun H => bif D 8 then hset H i8 (bif D 13 then rowI (insL zs p x) else rowI zs) else H) (hset H0 c (insC c i8 m f8 cs D)))
theorem insH_get (H0 : List (Option (List CV))) (c i8 i12 m p : Nat) (x : Int) (f8 : CV) (cs : List CV) (zs : List Int) (D : Nat → Bool) (q : Nat) : hget (insH H0 c i8 i12 m p x f8 cs zs D) q = if D 12 = true ∧ q = i12 then some [.iv (.g (.int .i64 x))] else if D 8 = true ∧ q = i8 then some (bif D 13 then rowI (insL zs p x) else rowI zs) else if q = c then some (insC c i8 m f8 cs D) else hget H0 q := by
  have g : ∀ (H : List (Option (List CV))) (n k : Nat) (y : List CV), hget (hset H n y) k = if k = n then some y else hget H k := fun H n k y => by
    by_cases h : k = n
    · subst h; rw [if_pos rfl, hget_hset_same]
    · rw [if_neg h, hget_hset_ne _ _ _ _ h]
  unfold insH
  cases D 12 <;> cases D 8 <;> simp [g]
theorem hget_len (h : List (Option (List CV))) : hget h h.length = none := by simp [hget]
theorem ev_move {P : Program} {s : AS} {nid t ty : Nat} {d : Option Nat} {pos : String} {a : Array Edge} {y : TV} (h : s.get t = .t y) : opF P nid s.ev (hget s.heap) ⟨d, .move (.tmp t), ty, pos, a, none⟩ = some (True, .t y, .nop) := by
  unfold opF; simp only [AS.ev, h]
theorem ev_load {P : Program} {s : AS} {nid t k ty n i o : Nat} {d : Option Nat} {pos : String} {a : Array Edge} {cs : List CV} (hty : tyD P k = some (false, n)) (h : s.get t = .t (.one (.ptr i o))) (hh : hget s.heap i = some cs) : opF P nid s.ev (hget s.heap) ⟨d, .load k (.tmp t), ty, pos, a, none⟩ = some (True ∧ o < cs.length, .t (.one (cs.getD o .any)), .nop) := by
  unfold opF; simp only [AS.ev, h, hty, AV.tv, TV.dp, loadF, hh, cond_false, AV.nd]
theorem ev_nil {P : Program} {s : AS} {nid t ty i o : Nat} {d : Option Nat} {pos : String} {a : Array Edge} (h : s.get t = .t (.one (.ptr i o))) : opF P nid s.ev (hget s.heap) ⟨d, .nilCheck (.tmp t), ty, pos, a, none⟩ = some (True, .t (.one (.ptr i o)), .nop) := by
  unfold opF op2F; simp only [AS.ev, h, AV.tv, ncF, AV.nd]
theorem ev_fld {P : Program} {s : AS} {nid t k f ty i o off : Nat} {d : Option Nat} {pos : String} {a : Array Edge} (hty : offOf P k f = some off) (h : s.get t = .t (.one (.ptr i o))) : opF P nid s.ev (hget s.heap) ⟨d, .fieldAddr k (.tmp t) f, ty, pos, a, none⟩ = some (True ∧ True, .t (.one (.ptr i (o + off))), .nop) := by
  unfold opF; simp only [AS.ev, h, hty, AV.tv, TV.dp, fieldF, AV.nd]
theorem ev_store {P : Program} {s : AS} {nid t u k ty i o : Nat} {ag : Bool} {pos : String} {a : Array Edge} {y : CV} {cs : List CV} (hty : tyD P k = some (ag, 1)) (h : s.get t = .t (.one (.ptr i o))) (hu : s.get u = .t (.one y)) (hh : hget s.heap i = some cs) : opF P nid s.ev (hget s.heap) ⟨none, .store k (.tmp t) (.tmp u), ty, pos, a, none⟩ = some (True ∧ True ∧ ([y].length = 1 ∧ o + 1 ≤ cs.length ∧ 0 < 1), .any, .set i (cs.take o ++ [y] ++ cs.drop (o + 1))) := by
  unfold opF; simp only [AS.ev, h, hu, hty, AV.tv, TV.dp, storeF, hh, AV.nd, TV.cells]
theorem ev_bs {s : AS} {nid t ty : Nat} {d : Option Nat} {pos : String} {a : Array Edge} {y : CV} (h : s.get t = .t (.one y)) : opF Tryz.prog nid s.ev (hget s.heap) ⟨d, .buildSlice 24 1 #[(0, .tmp t)], ty, pos, a, none⟩ = some (True ∧ True, .t (.one (.slc nid 0 1 1)), .new [y]) := by
  have e1 : slD Tryz.prog 24 = some (1, 8, 3) := by kernel_rfl
  have e2 : zeroC Tryz.prog 3 = some [.iv (.g (.int .i64 0))] := by kernel_rfl
  unfold opF; simp [AS.ev, h, e1, e2, AV.tv, AV.nd, partsF, fillF, repC, TV.cells]
theorem tab_pur {D : Nat → Bool} {i t0 : Nat} {E0 : List (Nat × AV)} (h0 : purgeE i E0 = E0) : ∀ (tb : List En), (∀ e, e ∈ tb → e.t ≠ t0 → e.c D = true → (AV.t e.x).purge i = .t e.x) → ∀ t, t ≠ t0 → (lk (tabE tb D ++ E0) t).purge i = lk (tabE tb D ++ E0) t
  | [], _, t, _ => by
    show (lk E0 t).purge i = lk E0 t
    rw [← lk_purge, h0]
  | e :: l, h, t, ht => by
    show (lk ((e.t, _) :: (tabE l D ++ E0)) t).purge i = lk ((e.t, _) :: (tabE l D ++ E0)) t
    simp only [lk]
    by_cases hte : t = e.t
    · rw [if_pos hte]
      cases hc : e.c D with
      | false => rfl
      | true => rw [cond_true, h e (List.mem_cons_self ..) (by omega) hc]
    · rw [if_neg hte]
      exact tab_pur h0 l (fun e' h' => h e' (List.mem_cons_of_mem _ h')) t ht
theorem ev_call1 {P : Program} {s : AS} {t k ty : Nat} {d : Option Nat} {pos : String} {a : Array Edge} {tys : Array TypeId} {y : TV} {K : AS → Prop} {r : AV} {H' : List (Option (List CV))} (h : s.get t = .t y) (hf : fnOk P k = true) (hc : CallsH P k [y] s.heap r H') (hk : K ({ s with heap := H' }.put d r)) : callF P ⟨d, .call ⟨.value (.func k), #[.tmp t], tys⟩, ty, pos, a, none⟩ s K := by
  refine Or.inl ?_
  unfold callF0
  simp only [AS.ev, calleeF, calleeT, List.size_toArray, List.length_nil, and_self, if_true, tvsF, h, AV.tv]
  exact Or.inr ⟨hf, ⟨trivial, trivial⟩, Or.inr ⟨r, H', hc, hk⟩⟩
def anyA : AV → Bool
  | .any => true
  | _ => false
theorem anyA_e {x : AV} (h : anyA x = true) : x = .any := by cases x <;> first | rfl | cases h
abbrev insS (E0 : List (Nat × AV)) (H0 : List (Option (List CV))) (N : Nat) (g : List (Nat × List (Nat × AV))) (lp : LP) (c r i8 i12 m p : Nat) (x : Int) (f8 : CV) (A : Nat → Nat → IV) (cs : List CV) (zs : List Int) (D : Nat → Bool) : AS := ⟨tabE (insT c r i8 i12 m p x f8 A) D ++ E0, insH H0 c i8 i12 m p x f8 cs zs D, N, g, lp⟩
theorem insH_congr {H0 : List (Option (List CV))} {c i8 i12 m p : Nat} {x : Int} {f8 : CV} {cs : List CV} {zs : List Int} {D D' : Nat → Bool} (h : D' 8 = D 8 ∧ D' 12 = D 12 ∧ D' 13 = D 13 ∧ D' 17 = D 17 ∧ D' 21 = D 21) : insH H0 c i8 i12 m p x f8 cs zs D' = insH H0 c i8 i12 m p x f8 cs zs D := by
  unfold insH insC; rw [h.1, h.2.1, h.2.2.1, h.2.2.2.1, h.2.2.2.2]
set_option maxRecDepth 10000 in
set_option maxHeartbeats 4000000 in
theorem AW_ins {E0 : List (Nat × AV)} {H0 : List (Option (List CV))} {N : Nat} {g : List (Nat × List (Nat × AV))} {lp : LP} {Q : Exit → AS → Prop} {id : Nat} {s0 s1 s2 s3 s4 s5 s6 s7 s8 s9 s10 s11 s12 s13 s14 s15 s16 s17 s18 s19 s20 s21 : String} {a0 a1 a2 a3 a4 a5 a6 a7 a8 a9 a10 a11 a12 a13 a14 a15 a16 a17 a18 a19 a20 a21 : Array Edge} {b p m c r : Nat} {x : Int} {f8 : CV} {cs rs : List CV} {A : Nat → Nat → IV} {zs : List Int} {ops : Array Oper} (i8 i12 : Nat) (ho : ops = #[⟨some 76, .load 122 (Operand.tmp 2), 122, s0, a0, none⟩, ⟨some 77, .load 122 (Operand.tmp 2), 122, s1, a1, none⟩, ⟨some 78, .move (Operand.tmp 8), 25, s2, a2, none⟩, ⟨some 79, .load 122 (Operand.tmp 2), 122, s3, a3, none⟩, ⟨some 80, .nilCheck (Operand.tmp 79), 0, s4, a4, none⟩, ⟨some 81, .fieldAddr 79 (Operand.tmp 80) 0, 0, s5, a5, none⟩, ⟨some 82, .fieldAddr 27 (Operand.tmp 81) 5, 0, s6, a6, none⟩, ⟨some 83, .load 24 (Operand.tmp 82), 24, s7, a7, none⟩, ⟨some 84, .call ⟨.value (.func 55), #[(Operand.tmp 83)], #[24]⟩, 24, s8, a8, none⟩, ⟨some 85, .move (Operand.tmp 11), 3, s9, a9, none⟩, ⟨some 86, .fieldAddr 30 (Operand.tmp 3) 1, 0, s10, a10, none⟩, ⟨some 87, .load 3 (Operand.tmp 86), 3, s11, a11, none⟩, ⟨some 88, .buildSlice 24 1 #[(0, (Operand.tmp 87))], 24, s12, a12, none⟩, ⟨some 89, .call ⟨.value (.func 84), #[(Operand.tmp 84), (Operand.tmp 85), (Operand.tmp 88)], #[24,3,24]⟩, 24, s13, a13, none⟩, ⟨some 90, .nilCheck (Operand.tmp 76), 0, s14, a14, none⟩, ⟨some 91, .fieldAddr 79 (Operand.tmp 90) 0, 0, s15, a15, none⟩, ⟨some 92, .fieldAddr 27 (Operand.tmp 91) 6, 0, s16, a16, none⟩, ⟨none, .store 25 (Operand.tmp 92) (Operand.tmp 78), 0, s17, a17, none⟩, ⟨some 93, .nilCheck (Operand.tmp 77), 0, s18, a18, none⟩, ⟨some 94, .fieldAddr 79 (Operand.tmp 93) 0, 0, s19, a19, none⟩, ⟨some 95, .fieldAddr 27 (Operand.tmp 94) 5, 0, s20, a20, none⟩, ⟨none, .store 24 (Operand.tmp 95) (Operand.tmp 89), 0, s21, a21, none⟩])
    (h2 : lk E0 2 = .t (.one (.ptr b 0))) (hb : hget H0 b = some [.ptr c 0]) (hc : hget H0 c = some cs) (hcl : cs.length = 13) (hcd : cs.getD 11 .any = .iv (.lst 1 m A)) (h8 : lk E0 8 = .t (.one f8)) (hf8 : (AV.t (.one f8)).purge i8 = .t (.one f8))
    (h11 : lk E0 11 = .t (.one (.iv (.g (.int .i64 (p : Int)))))) (h3 : lk E0 3 = .t (.one (.ptr r 0))) (hr : hget H0 r = some rs) (hrs : rs.getD 1 .any = .iv (.g (.int .i64 x)) ∧ 1 < rs.length ∧ r ≠ c) (n8 : hget H0 i8 = none) (n12 : hget H0 i12 = none) (n812 : i8 ≠ i12)
    (hm : m ≤ 1000) (hz : lstC A 1 m 0 = rowI zs) (hzl : zs.length = m) (hp : p ≤ m) (pE : purgeE i8 E0 = E0) (pG : purgeG i8 g = g) (pH : purgeH i8 H0 = H0) (pC : purgeC i8 cs = cs) (hN : 96 ≤ N) (hE : [76,77,78,79,80,81,82,83,84,85,86,87,88,89,90,91,92,93,94,95].all (fun t => anyA (lk E0 t)) = true)
    (hm' : Tryz.prog.follows .mixedOrders = true) (hback : backB .any ops = true) (hd : noDefer ops = true) (hchk : ([(4, 3), (5, 4), (6, 5), (7, 6), (8, 7), (11, 10), (12, 11), (13, 8), (13, 9), (13, 12), (14, 0), (14, 13), (15, 14), (16, 15), (17, 16), (17, 2), (17, 13), (17, 8), (18, 1), (18, 17), (19, 18), (20, 19), (21, 20), (21, 13), (21, 17), (21, 8), (17, 7), (21, 7), (13, 8), (21, 17), (17, 13), (21, 13)].all (ancB ops)) = true)
    (hQ : Q .normal ⟨E0, insH H0 c i8 i12 m p x f8 cs zs (fun _ => true), N, g, lp⟩) : AW Tryz.prog (.region id ops true) ⟨E0, H0, N, g, lp⟩ Q := by
  have t122 : tyD Tryz.prog 122 = some (false, 1) := by kernel_rfl
  have t24 : tyD Tryz.prog 24 = some (false, 1) := by kernel_rfl
  have t25 : tyD Tryz.prog 25 = some (false, 1) := by kernel_rfl
  have t3 : tyD Tryz.prog 3 = some (false, 1) := by kernel_rfl
  have o79 : offOf Tryz.prog 79 0 = some 0 := by kernel_rfl
  have o275 : offOf Tryz.prog 27 5 = some 11 := by kernel_rfl
  have o276 : offOf Tryz.prog 27 6 = some 12 := by kernel_rfl
  have o30 : offOf Tryz.prog 30 1 = some 1 := by kernel_rfl
  have bc : b ≠ c := by rintro rfl; rw [hb] at hc; cases hc; simp at hcl
  have b8 : b ≠ i8 := by rintro rfl; rw [hb] at n8; cases n8
  have b12 : b ≠ i12 := by rintro rfl; rw [hb] at n12; cases n12
  have c8 : c ≠ i8 := by rintro rfl; rw [hc] at n8; cases n8
  have c12 : c ≠ i12 := by rintro rfl; rw [hc] at n12; cases n12
  have r8 : r ≠ i8 := by rintro rfl; rw [hr] at n8; cases n8
  have r12 : r ≠ i12 := by rintro rfl; rw [hr] at n12; cases n12
  have gb : ∀ D, hget (insH H0 c i8 i12 m p x f8 cs zs D) b = some [.ptr c 0] := fun D => by rw [insH_get, if_neg (fun h => b12 h.2), if_neg (fun h => b8 h.2), if_neg bc, hb]
  have gr : ∀ D, hget (insH H0 c i8 i12 m p x f8 cs zs D) r = some rs := fun D => by rw [insH_get, if_neg (fun h => r12 h.2), if_neg (fun h => r8 h.2), if_neg hrs.2.2, hr]
  have gc : ∀ D, hget (insH H0 c i8 i12 m p x f8 cs zs D) c = some (insC c i8 m f8 cs D) := fun D => by rw [insH_get, if_neg (fun h => c12 h.2), if_neg (fun h => c8 h.2), if_pos rfl]
  have hlen : ops.size = 22 := by rw [ho]; rfl
  have anc : ∀ i k, (i, k) ∈ [(4, 3), (5, 4), (6, 5), (7, 6), (8, 7), (11, 10), (12, 11), (13, 8), (13, 9), (13, 12), (14, 0), (14, 13), (15, 14), (16, 15), (17, 16), (17, 2), (17, 13), (17, 8), (18, 1), (18, 17), (19, 18), (20, 19), (21, 20), (21, 13), (21, 17), (21, 8), (17, 7), (21, 7), (13, 8), (21, 17), (17, 13), (21, 13)] → ancB ops (i, k) = true := fun i k h => List.all_eq_true.1 hchk _ h
  have put : ∀ (i t0 : Nat) (x0 : TV) (D : Nat → Bool) (o : Oper) (nd : Prop), o.guard = none → (∀ c, o.op ≠ .defer c) → o.dst = some t0 → t0 < 96 → opF Tryz.prog (insH H0 c i8 i12 m p x f8 cs zs D).length (insS E0 H0 N g lp c r i8 i12 m p x f8 A cs zs D).ev (hget (insH H0 c i8 i12 m p x f8 cs zs D)) o = some (nd, .t x0, .nop) → nd →
      (∀ e, e ∈ insT c r i8 i12 m p x f8 A → if e.t = t0 then e.x = x0 else (e.c (upd D i) = true → e.c D = true)) → t0 ∈ (insT c r i8 i12 m p x f8 A).map (·.t) → ((upd D i) 8 = D 8 ∧ (upd D i) 12 = D 12 ∧ (upd D i) 13 = D 13 ∧ (upd D i) 17 = D 17 ∧ (upd D i) 21 = D 21) →
      stepP Tryz.prog o (insS E0 H0 N g lp c r i8 i12 m p x f8 A cs zs D) (insS E0 H0 N g lp c r i8 i12 m p x f8 A cs zs (upd D i)) := fun i t0 x0 D o nd hg hdf hdst hlt hop hn ht hin hh =>
    step_f hg hdf (hget_len _) (by rw [hdst]; show t0 < N; omega) hop hn (by
      rw [hdst]
      exact repTo_of rfl rfl rfl (fun t => tab_put (E0 := E0) (insT c r i8 i12 m p x f8 A) ht hin t) fun q => by
        show hget (insH H0 c i8 i12 m p x f8 cs zs (upd D i)) q = hget (insH H0 c i8 i12 m p x f8 cs zs D) q
        rw [insH_congr hh])
  have c8b : (c == i8) = false := by simp [c8]
  have r8b : (r == i8) = false := by simp [r8]
  have i12b : (i12 == i8) = false := by simp [Ne.symm n812]
  have g2 : ∀ D, (insS E0 H0 N g lp c r i8 i12 m p x f8 A cs zs D).get 2 = .t (.one (.ptr b 0)) := fun D => h2
  refine AW_regionS (fun D => insS E0 H0 N g lp c r i8 i12 m p x f8 A cs zs D) hm' hback hd ?_ ?_ ?_
  · refine repTo_of rfl rfl rfl (tab_0 _ (by simp [insT])) fun q => ?_
    show hget (insH H0 c i8 i12 m p x f8 cs zs (fun _ => false)) q = hget H0 q
    rw [insH_get, if_neg (by simp), if_neg (by simp)]
    by_cases h : q = c
    · subst h; rw [if_pos rfl, hc]; rfl
    · rw [if_neg h]
  · intro i o hio D hcl hDi hpre
    have hi : i < 22 := by rw [← hlen]; exact (Array.getElem?_eq_some_iff.1 hio).1
    have hio' := hio
    rw [ho] at hio'
    have at_ : ∀ k, (i, k) ∈ [(4, 3), (5, 4), (6, 5), (7, 6), (8, 7), (11, 10), (12, 11), (13, 8), (13, 9), (13, 12), (14, 0), (14, 13), (15, 14), (16, 15), (17, 16), (17, 2), (17, 13), (17, 8), (18, 1), (18, 17), (19, 18), (20, 19), (21, 20), (21, 13), (21, 17), (21, 8), (17, 7), (21, 7), (13, 8), (21, 17), (17, 13), (21, 13)] → D k = true := fun k h => anc_t hcl hio hpre (anc i k h)
    have af_ : ∀ k, k < 22 → (k, i) ∈ [(4, 3), (5, 4), (6, 5), (7, 6), (8, 7), (11, 10), (12, 11), (13, 8), (13, 9), (13, 12), (14, 0), (14, 13), (15, 14), (16, 15), (17, 16), (17, 2), (17, 13), (17, 8), (18, 1), (18, 17), (19, 18), (20, 19), (21, 20), (21, 13), (21, 17), (21, 8), (17, 7), (21, 7), (13, 8), (21, 17), (17, 13), (21, 13)] → D k = false := fun k hk h => anc_f hcl hDi (by omega) (anc k i h)
    clear hio hpre hcl
    rcases (by omega : i = 0 ∨ i = 1 ∨ i = 2 ∨ i = 3 ∨ i = 4 ∨ i = 5 ∨ i = 6 ∨ i = 7 ∨ i = 8 ∨ i = 9 ∨ i = 10 ∨ i = 11 ∨ i = 12 ∨ i = 13 ∨ i = 14 ∨ i = 15 ∨ i = 16 ∨ i = 17 ∨ i = 18 ∨ i = 19 ∨ i = 20 ∨ i = 21) with rfl | rfl | rfl | rfl | rfl | rfl | rfl | rfl | rfl | rfl | rfl | rfl | rfl | rfl | rfl | rfl | rfl | rfl | rfl | rfl | rfl | rfl
    · obtain rfl := Option.some.inj hio'
      exact put 0 76 (.one (.ptr c 0)) D _ _ rfl (fun c e => by cases e) rfl (by omega) (ev_load (s := insS E0 H0 N g lp c r i8 i12 m p x f8 A cs zs D) t122 (g2 D) (gb D)) (And.intro trivial (by simp)) (by intro e he; simp only [insT, List.mem_cons, List.not_mem_nil, or_false] at he; rcases he with rfl | rfl | rfl | rfl | rfl | rfl | rfl | rfl | rfl | rfl | rfl | rfl | rfl | rfl | rfl | rfl | rfl | rfl | rfl | rfl <;> simp [upd]) (by simp [insT]) (by simp [upd])
    · obtain rfl := Option.some.inj hio'
      exact put 1 77 (.one (.ptr c 0)) D _ _ rfl (fun c e => by cases e) rfl (by omega) (ev_load (s := insS E0 H0 N g lp c r i8 i12 m p x f8 A cs zs D) t122 (g2 D) (gb D)) (And.intro trivial (by simp)) (by intro e he; simp only [insT, List.mem_cons, List.not_mem_nil, or_false] at he; rcases he with rfl | rfl | rfl | rfl | rfl | rfl | rfl | rfl | rfl | rfl | rfl | rfl | rfl | rfl | rfl | rfl | rfl | rfl | rfl | rfl <;> simp [upd]) (by simp [insT]) (by simp [upd])
    · obtain rfl := Option.some.inj hio'
      exact put 2 78 (.one f8) D _ _ rfl (fun c e => by cases e) rfl (by omega) (ev_move h8) trivial (by intro e he; simp only [insT, List.mem_cons, List.not_mem_nil, or_false] at he; rcases he with rfl | rfl | rfl | rfl | rfl | rfl | rfl | rfl | rfl | rfl | rfl | rfl | rfl | rfl | rfl | rfl | rfl | rfl | rfl | rfl <;> simp [upd]) (by simp [insT]) (by simp [upd])
    · obtain rfl := Option.some.inj hio'
      exact put 3 79 (.one (.ptr c 0)) D _ _ rfl (fun c e => by cases e) rfl (by omega) (ev_load (s := insS E0 H0 N g lp c r i8 i12 m p x f8 A cs zs D) t122 (g2 D) (gb D)) (And.intro trivial (by simp)) (by intro e he; simp only [insT, List.mem_cons, List.not_mem_nil, or_false] at he; rcases he with rfl | rfl | rfl | rfl | rfl | rfl | rfl | rfl | rfl | rfl | rfl | rfl | rfl | rfl | rfl | rfl | rfl | rfl | rfl | rfl <;> simp [upd]) (by simp [insT]) (by simp [upd])
    · obtain rfl := Option.some.inj hio'
      have k3 := at_ 3 (by decide)
      have g79 : (insS E0 H0 N g lp c r i8 i12 m p x f8 A cs zs D).get 79 = .t (.one (.ptr c 0)) := by show (bif D 3 then AV.t _ else .any) = _; rw [k3]; rfl
      exact put 4 80 (.one (.ptr c 0)) D _ _ rfl (fun c e => by cases e) rfl (by omega) (ev_nil g79) trivial (by intro e he; simp only [insT, List.mem_cons, List.not_mem_nil, or_false] at he; rcases he with rfl | rfl | rfl | rfl | rfl | rfl | rfl | rfl | rfl | rfl | rfl | rfl | rfl | rfl | rfl | rfl | rfl | rfl | rfl | rfl <;> simp [upd]) (by simp [insT]) (by simp [upd])
    · obtain rfl := Option.some.inj hio'
      have k4 := at_ 4 (by decide)
      have g80 : (insS E0 H0 N g lp c r i8 i12 m p x f8 A cs zs D).get 80 = .t (.one (.ptr c 0)) := by show (bif D 4 then AV.t _ else .any) = _; rw [k4]; rfl
      exact put 5 81 (.one (.ptr c 0)) D _ _ rfl (fun c e => by cases e) rfl (by omega) (ev_fld o79 g80) ⟨trivial, trivial⟩ (by intro e he; simp only [insT, List.mem_cons, List.not_mem_nil, or_false] at he; rcases he with rfl | rfl | rfl | rfl | rfl | rfl | rfl | rfl | rfl | rfl | rfl | rfl | rfl | rfl | rfl | rfl | rfl | rfl | rfl | rfl <;> simp [upd]) (by simp [insT]) (by simp [upd])
    · obtain rfl := Option.some.inj hio'
      have k5 := at_ 5 (by decide)
      have g81 : (insS E0 H0 N g lp c r i8 i12 m p x f8 A cs zs D).get 81 = .t (.one (.ptr c 0)) := by show (bif D 5 then AV.t _ else .any) = _; rw [k5]; rfl
      exact put 6 82 (.one (.ptr c 11)) D _ _ rfl (fun c e => by cases e) rfl (by omega) (ev_fld o275 g81) ⟨trivial, trivial⟩ (by intro e he; simp only [insT, List.mem_cons, List.not_mem_nil, or_false] at he; rcases he with rfl | rfl | rfl | rfl | rfl | rfl | rfl | rfl | rfl | rfl | rfl | rfl | rfl | rfl | rfl | rfl | rfl | rfl | rfl | rfl <;> simp [upd]) (by simp [insT]) (by simp [upd])
    · obtain rfl := Option.some.inj hio'
      have k6 := at_ 6 (by decide)
      have f17 := af_ 17 (by omega) (by decide)
      have f21 := af_ 21 (by omega) (by decide)
      have g82 : (insS E0 H0 N g lp c r i8 i12 m p x f8 A cs zs D).get 82 = .t (.one (.ptr c 11)) := by show (bif D 6 then AV.t _ else .any) = _; rw [k6]; rfl
      have gc' : hget (insH H0 c i8 i12 m p x f8 cs zs D) c = some cs := (gc D).trans (by unfold insC; rw [f21, f17]; rfl)
      have ev := fun n => ev_load (s := insS E0 H0 N g lp c r i8 i12 m p x f8 A cs zs D) (nid := n) (d := some 83) (ty := 24) (pos := s7) (a := a7) t24 g82 gc'
      rw [hcd] at ev
      exact put 7 83 (.one (.iv (.lst 1 m A))) D _ _ rfl (fun c e => by cases e) rfl (by omega) (ev _) (And.intro trivial (by rw [hcl]; omega)) (by intro e he; simp only [insT, List.mem_cons, List.not_mem_nil, or_false] at he; rcases he with rfl | rfl | rfl | rfl | rfl | rfl | rfl | rfl | rfl | rfl | rfl | rfl | rfl | rfl | rfl | rfl | rfl | rfl | rfl | rfl <;> simp [upd]) (by simp [insT]) (by simp [upd])
    · obtain rfl := Option.some.inj hio'
      have k7 := at_ 7 (by decide)
      have f13 := af_ 13 (by omega) (by decide)
      have g83 : (insS E0 H0 N g lp c r i8 i12 m p x f8 A cs zs D).get 83 = .t (.one (.iv (.lst 1 m A))) := by show (bif D 7 then AV.t _ else .any) = _; rw [k7]; rfl
      have hA : ∀ q, hget (insH H0 c i8 i12 m p x f8 cs zs (upd D 8)) q = hget (hset (insH H0 c i8 i12 m p x f8 cs zs D) i8 (lstC A 1 m 0)) q := fun q => by
        by_cases hq : q = i8
        · subst hq; rw [hget_hset_same, insH_get]; rw [if_neg (fun h => n812 h.2), if_pos (by simp [upd]), hz, show (upd D 8) 13 = D 13 from rfl, f13]; rfl
        · rw [hget_hset_ne _ _ _ _ hq, insH_get, insH_get]; simp [upd, hq, insC]
      refine ⟨rfl, fun w0 Z0 a w K Q n ⟨J, Z, R⟩ hK => callF_sound R (by show 84 < N; omega) (K := fun s' => repTo s' (insS E0 H0 N g lp c r i8 i12 m p x f8 A cs zs (upd D 8))) (ev_call1 g83 (by kernel_rfl) (clone_n m A hm _ i8 ?_) ?_) fun s' a' w' R' hk => hK _ _ (hk _ _ _ _ R')⟩
      · show hget (insH H0 c i8 i12 m p x f8 cs zs D) i8 = none
        rw [insH_get, if_neg (fun h => n812 h.2), if_neg (by rw [hDi]; simp), if_neg (Ne.symm c8), n8]
      · refine repTo_of rfl rfl rfl (fun t => tab_put (t0 := 84) (x0 := .one (.slc i8 0 m 1)) (E0 := E0) (D := D) (D' := upd D 8) (insT c r i8 i12 m p x f8 A) (by intro e he; simp only [insT, List.mem_cons, List.not_mem_nil, or_false] at he; rcases he with rfl | rfl | rfl | rfl | rfl | rfl | rfl | rfl | rfl | rfl | rfl | rfl | rfl | rfl | rfl | rfl | rfl | rfl | rfl | rfl <;> simp [upd]) (by simp [insT]) t) hA
    · obtain rfl := Option.some.inj hio'
      exact put 9 85 (.one (.iv (.g (.int .i64 (p : Int))))) D _ _ rfl (fun c e => by cases e) rfl (by omega) (ev_move h11) trivial (by intro e he; simp only [insT, List.mem_cons, List.not_mem_nil, or_false] at he; rcases he with rfl | rfl | rfl | rfl | rfl | rfl | rfl | rfl | rfl | rfl | rfl | rfl | rfl | rfl | rfl | rfl | rfl | rfl | rfl | rfl <;> simp [upd]) (by simp [insT]) (by simp [upd])
    · obtain rfl := Option.some.inj hio'
      exact put 10 86 (.one (.ptr r 1)) D _ _ rfl (fun c e => by cases e) rfl (by omega) (ev_fld o30 h3) ⟨trivial, trivial⟩ (by intro e he; simp only [insT, List.mem_cons, List.not_mem_nil, or_false] at he; rcases he with rfl | rfl | rfl | rfl | rfl | rfl | rfl | rfl | rfl | rfl | rfl | rfl | rfl | rfl | rfl | rfl | rfl | rfl | rfl | rfl <;> simp [upd]) (by simp [insT]) (by simp [upd])
    · obtain rfl := Option.some.inj hio'
      have k10 := at_ 10 (by decide)
      have g86 : (insS E0 H0 N g lp c r i8 i12 m p x f8 A cs zs D).get 86 = .t (.one (.ptr r 1)) := by show (bif D 10 then AV.t _ else .any) = _; rw [k10]; rfl
      have ev := fun n => ev_load (s := insS E0 H0 N g lp c r i8 i12 m p x f8 A cs zs D) (nid := n) (d := some 87) (ty := 3) (pos := s11) (a := a11) t3 g86 (gr D)
      rw [hrs.1] at ev
      exact put 11 87 (.one (.iv (.g (.int .i64 x)))) D _ _ rfl (fun c e => by cases e) rfl (by omega) (ev _) (And.intro trivial hrs.2.1) (by intro e he; simp only [insT, List.mem_cons, List.not_mem_nil, or_false] at he; rcases he with rfl | rfl | rfl | rfl | rfl | rfl | rfl | rfl | rfl | rfl | rfl | rfl | rfl | rfl | rfl | rfl | rfl | rfl | rfl | rfl <;> simp [upd]) (by simp [insT]) (by simp [upd])
    · obtain rfl := Option.some.inj hio'
      have k11 := at_ 11 (by decide)
      have g87 : (insS E0 H0 N g lp c r i8 i12 m p x f8 A cs zs D).get 87 = .t (.one (.iv (.g (.int .i64 x)))) := by show (bif D 11 then AV.t _ else .any) = _; rw [k11]; rfl
      have hA : ∀ q, hget (insH H0 c i8 i12 m p x f8 cs zs (upd D 12)) q = hget (hset (insH H0 c i8 i12 m p x f8 cs zs D) i12 [.iv (.g (.int .i64 x))]) q := fun q => by
        by_cases hq : q = i12
        · subst hq; rw [hget_hset_same, insH_get]; rw [if_pos (by simp [upd])]
        · rw [hget_hset_ne _ _ _ _ hq, insH_get, insH_get]; simp [upd, hq, insC]
      refine step_f (nid := i12) rfl (fun c e => by cases e) ?_ (by show 88 < N; omega) (ev_bs g87) ⟨trivial, trivial⟩ (repTo_of rfl rfl rfl (fun t => tab_put (t0 := 88) (x0 := .one (.slc i12 0 1 1)) (E0 := E0) (D := D) (D' := upd D 12) (insT c r i8 i12 m p x f8 A) (by intro e he; simp only [insT, List.mem_cons, List.not_mem_nil, or_false] at he; rcases he with rfl | rfl | rfl | rfl | rfl | rfl | rfl | rfl | rfl | rfl | rfl | rfl | rfl | rfl | rfl | rfl | rfl | rfl | rfl | rfl <;> simp [upd]) (by simp [insT]) t) hA)
      show hget (insH H0 c i8 i12 m p x f8 cs zs D) i12 = none
      rw [insH_get, if_neg (by rw [hDi]; simp), if_neg (fun h => n812 h.2.symm), if_neg (Ne.symm c12), n12]
    · obtain rfl := Option.some.inj hio'
      have k8 := at_ 8 (by decide)
      have k9 := at_ 9 (by decide)
      have k12 := at_ 12 (by decide)
      have f17 := af_ 17 (by omega) (by decide)
      have f21 := af_ 21 (by omega) (by decide)
      have hi8 : hget (insH H0 c i8 i12 m p x f8 cs zs D) i8 = some (rowI zs) := by rw [insH_get, if_neg (fun h => n812 h.2), if_pos ⟨k8, rfl⟩, hDi]; rfl
      have hi12 : hget (insH H0 c i8 i12 m p x f8 cs zs D) i12 = some [.iv (.g (.int .i64 x))] := by rw [insH_get, if_pos ⟨k12, rfl⟩]
      have g84 : (insS E0 H0 N g lp c r i8 i12 m p x f8 A cs zs D).get 84 = .t (.one (.slc i8 0 zs.length 1)) := by show (bif (D 8 && !D 13) then AV.t _ else .any) = _; rw [k8, hDi, hzl]; rfl
      have g85 : (insS E0 H0 N g lp c r i8 i12 m p x f8 A cs zs D).get 85 = .t (.one (.iv (.g (.int .i64 (p : Int))))) := by show (bif D 9 then AV.t _ else .any) = _; rw [k9]; rfl
      have g88 : (insS E0 H0 N g lp c r i8 i12 m p x f8 A cs zs D).get 88 = .t (.one (.slc i12 0 1 1)) := by show (bif D 12 then AV.t _ else .any) = _; rw [k12]; rfl
      refine ⟨rfl, fun w0 Z0 a w K Q n ⟨J, Z, R⟩ hK => opIn_of_wp (free_fo _) (fun c e => by cases e) (upon_call (exec_call rfl (callee_pure R (show calleeF ((insS E0 H0 N g lp c r i8 i12 m p x f8 A cs zs D).ev (.func 84)) = .pure 84 from rfl)) (by kernel_rfl)) ?_)⟩
      simp only [Array.empty_append, Array.append_empty]
      have hargs : All2 (TRel w J Z) ((#[Operand.tmp 84, Operand.tmp 85, Operand.tmp 88] : Array Operand).map a.eval).toList [.one (.slc i8 0 zs.length 1), .one (.iv (.g (.int .i64 (p : Int)))), .one (.slc i12 0 1 1)] := by
        simp only [Array.toList_map]; exact tvs_rel R (l := [.tmp 84, .tmp 85, .tmp 88]) (nd := True ∧ True ∧ True ∧ True) (by simp only [tvsF, AS.ev, g84, g85, g88, AV.tv, AV.nd]) ⟨trivial, trivial, trivial, trivial⟩
      refine (ins_a R hi8 hi12 n812 (by omega) (by omega) hargs).mono fun e w' ⟨v, J', he, R', hr⟩ => ⟨v, he, hK _ _ ?_⟩
      rw [hzl] at hr
      have R2 := R'.put (d := some 89) (fun k e => by cases e; show 89 < N; omega) hr
      have tt : repTo (((insS E0 H0 N g lp c r i8 i12 m p x f8 A cs zs D).eff 0 (.app i8 (rowI (insL zs p x)))).put (some 89) (.t (.one (.slc i8 0 (m + 1) 1)))) (insS E0 H0 N g lp c r i8 i12 m p x f8 A cs zs (upd D 13)) := by
        refine repTo_of rfl pG.symm rfl (fun t => ?_) (fun q => ?_)
        · rcases tab_put (t0 := 89) (x0 := .one (.slc i8 0 (m + 1) 1)) (E0 := E0) (D := D) (D' := upd D 13) (insT c r i8 i12 m p x f8 A) (by intro e he; simp only [insT, List.mem_cons, List.not_mem_nil, or_false] at he; rcases he with rfl | rfl | rfl | rfl | rfl | rfl | rfl | rfl | rfl | rfl | rfl | rfl | rfl | rfl | rfl | rfl | rfl | rfl | rfl | rfl <;> simp [upd]) (by simp [insT]) t with h | h
          · left
            show lk (tabE (insT c r i8 i12 m p x f8 A) (upd D 13) ++ E0) t = lk ((89, _) :: purgeE i8 (tabE (insT c r i8 i12 m p x f8 A) D ++ E0)) t
            by_cases ht : t = 89
            · subst ht; rw [h]; rfl
            · have hp := tab_pur (D := upd D 13) (t0 := 89) pE (insT c r i8 i12 m p x f8 A) (by intro e he; simp only [insT, List.mem_cons, List.not_mem_nil, or_false] at he; rcases he with rfl | rfl | rfl | rfl | rfl | rfl | rfl | rfl | rfl | rfl | rfl | rfl | rfl | rfl | rfl | rfl | rfl | rfl | rfl | rfl <;> first | (intro _ _; exact hf8) | (intro h; exact absurd rfl h) | (simp [upd]; done) | (intro _ _; simp [AV.purge, AV.has, TV.has, CV.has, c8b, r8b, i12b])) t ht
              simp only [lk, if_neg ht] at h ⊢
              rw [lk_purge, ← h, hp]
          · exact Or.inr h
        · show hget (insH H0 c i8 i12 m p x f8 cs zs (upd D 13)) q = hget (hset (purgeH i8 (insH H0 c i8 i12 m p x f8 cs zs D)) i8 (rowI (insL zs p x))) q
          by_cases hq : q = i8
          · subst hq; rw [hget_hset_same, insH_get, if_neg (fun h => n812 h.2), if_pos ⟨k8, rfl⟩]; rfl
          · rw [hget_hset_ne _ _ _ _ hq, hget_purge, insH_get, insH_get]
            by_cases h12 : q = i12
            · rw [if_pos ⟨k12, h12⟩, if_pos ⟨k12, h12⟩]; rfl
            · simp only [h12, hq, and_false, if_false]
              by_cases hqc : q = c
              · rw [if_pos hqc, if_pos hqc]
                have e1 : insC c i8 m f8 cs (upd D 13) = cs := by unfold insC; rw [show (upd D 13) 21 = D 21 from rfl, show (upd D 13) 17 = D 17 from rfl, f21, f17]; rfl
                have e2 : insC c i8 m f8 cs D = cs := by unfold insC; rw [f21, f17]; rfl
                rw [e1, e2, Option.map_some, pC]
              · rw [if_neg hqc, if_neg hqc, ← hget_purge, pH]
      exact tt _ _ _ _ ⟨J', Z, R2⟩
    · obtain rfl := Option.some.inj hio'
      have k0 := at_ 0 (by decide)
      have k13 := at_ 13 (by decide)
      have g76 : (insS E0 H0 N g lp c r i8 i12 m p x f8 A cs zs D).get 76 = .t (.one (.ptr c 0)) := by show (bif D 0 then AV.t _ else .any) = _; rw [k0]; rfl
      exact put 14 90 (.one (.ptr c 0)) D _ _ rfl (fun c e => by cases e) rfl (by omega) (ev_nil g76) trivial (by intro e he; simp only [insT, List.mem_cons, List.not_mem_nil, or_false] at he; rcases he with rfl | rfl | rfl | rfl | rfl | rfl | rfl | rfl | rfl | rfl | rfl | rfl | rfl | rfl | rfl | rfl | rfl | rfl | rfl | rfl <;> simp [upd]) (by simp [insT]) (by simp [upd])
    · obtain rfl := Option.some.inj hio'
      have k14 := at_ 14 (by decide)
      have g90 : (insS E0 H0 N g lp c r i8 i12 m p x f8 A cs zs D).get 90 = .t (.one (.ptr c 0)) := by show (bif D 14 then AV.t _ else .any) = _; rw [k14]; rfl
      exact put 15 91 (.one (.ptr c 0)) D _ _ rfl (fun c e => by cases e) rfl (by omega) (ev_fld o79 g90) ⟨trivial, trivial⟩ (by intro e he; simp only [insT, List.mem_cons, List.not_mem_nil, or_false] at he; rcases he with rfl | rfl | rfl | rfl | rfl | rfl | rfl | rfl | rfl | rfl | rfl | rfl | rfl | rfl | rfl | rfl | rfl | rfl | rfl | rfl <;> simp [upd]) (by simp [insT]) (by simp [upd])
    · obtain rfl := Option.some.inj hio'
      have k15 := at_ 15 (by decide)
      have g91 : (insS E0 H0 N g lp c r i8 i12 m p x f8 A cs zs D).get 91 = .t (.one (.ptr c 0)) := by show (bif D 15 then AV.t _ else .any) = _; rw [k15]; rfl
      exact put 16 92 (.one (.ptr c 12)) D _ _ rfl (fun c e => by cases e) rfl (by omega) (ev_fld o276 g91) ⟨trivial, trivial⟩ (by intro e he; simp only [insT, List.mem_cons, List.not_mem_nil, or_false] at he; rcases he with rfl | rfl | rfl | rfl | rfl | rfl | rfl | rfl | rfl | rfl | rfl | rfl | rfl | rfl | rfl | rfl | rfl | rfl | rfl | rfl <;> simp [upd]) (by simp [insT]) (by simp [upd])
    · obtain rfl := Option.some.inj hio'
      have k16 := at_ 16 (by decide)
      have k2 := at_ 2 (by decide)
      have k13 := at_ 13 (by decide)
      have k8 := at_ 8 (by decide)
      have f21 := af_ 21 (by omega) (by decide)
      have g92 : (insS E0 H0 N g lp c r i8 i12 m p x f8 A cs zs D).get 92 = .t (.one (.ptr c 12)) := by show (bif D 16 then AV.t _ else .any) = _; rw [k16]; rfl
      have g78 : (insS E0 H0 N g lp c r i8 i12 m p x f8 A cs zs D).get 78 = .t (.one f8) := by show (bif D 2 then AV.t _ else .any) = _; rw [k2]; rfl
      have gc' : hget (insH H0 c i8 i12 m p x f8 cs zs D) c = some cs := (gc D).trans (by unfold insC; rw [f21, hDi]; rfl)
      have hA : ∀ q, hget (insH H0 c i8 i12 m p x f8 cs zs (upd D 17)) q = hget (hset (insH H0 c i8 i12 m p x f8 cs zs D) c (cs.take 12 ++ [f8] ++ cs.drop 13)) q := fun q => by
        by_cases hq : q = c
        · subst hq; rw [hget_hset_same, insH_get]; rw [if_neg (fun h => c12 h.2), if_neg (fun h => c8 h.2), if_pos rfl]; unfold insC; rw [show (upd D 17) 21 = D 21 from rfl, f21]; rfl
        · rw [hget_hset_ne _ _ _ _ hq, insH_get, insH_get]; rw [if_neg hq, if_neg hq]; simp [upd]
      exact step_f (nid := (insH H0 c i8 i12 m p x f8 cs zs D).length) rfl (fun c e => by cases e) (hget_len _) trivial (ev_store t25 g92 g78 gc') ⟨trivial, trivial, rfl, by omega, by omega⟩ (repTo_of rfl rfl rfl (tab_same (insT c r i8 i12 m p x f8 A) (by intro e he; simp only [insT, List.mem_cons, List.not_mem_nil, or_false] at he; rcases he with rfl | rfl | rfl | rfl | rfl | rfl | rfl | rfl | rfl | rfl | rfl | rfl | rfl | rfl | rfl | rfl | rfl | rfl | rfl | rfl <;> simp [upd])) hA)
    · obtain rfl := Option.some.inj hio'
      have k1 := at_ 1 (by decide)
      have k17 := at_ 17 (by decide)
      have g77 : (insS E0 H0 N g lp c r i8 i12 m p x f8 A cs zs D).get 77 = .t (.one (.ptr c 0)) := by show (bif D 1 then AV.t _ else .any) = _; rw [k1]; rfl
      exact put 18 93 (.one (.ptr c 0)) D _ _ rfl (fun c e => by cases e) rfl (by omega) (ev_nil g77) trivial (by intro e he; simp only [insT, List.mem_cons, List.not_mem_nil, or_false] at he; rcases he with rfl | rfl | rfl | rfl | rfl | rfl | rfl | rfl | rfl | rfl | rfl | rfl | rfl | rfl | rfl | rfl | rfl | rfl | rfl | rfl <;> simp [upd]) (by simp [insT]) (by simp [upd])
    · obtain rfl := Option.some.inj hio'
      have k18 := at_ 18 (by decide)
      have g93 : (insS E0 H0 N g lp c r i8 i12 m p x f8 A cs zs D).get 93 = .t (.one (.ptr c 0)) := by show (bif D 18 then AV.t _ else .any) = _; rw [k18]; rfl
      exact put 19 94 (.one (.ptr c 0)) D _ _ rfl (fun c e => by cases e) rfl (by omega) (ev_fld o79 g93) ⟨trivial, trivial⟩ (by intro e he; simp only [insT, List.mem_cons, List.not_mem_nil, or_false] at he; rcases he with rfl | rfl | rfl | rfl | rfl | rfl | rfl | rfl | rfl | rfl | rfl | rfl | rfl | rfl | rfl | rfl | rfl | rfl | rfl | rfl <;> simp [upd]) (by simp [insT]) (by simp [upd])
    · obtain rfl := Option.some.inj hio'
      have k19 := at_ 19 (by decide)
      have g94 : (insS E0 H0 N g lp c r i8 i12 m p x f8 A cs zs D).get 94 = .t (.one (.ptr c 0)) := by show (bif D 19 then AV.t _ else .any) = _; rw [k19]; rfl
      exact put 20 95 (.one (.ptr c 11)) D _ _ rfl (fun c e => by cases e) rfl (by omega) (ev_fld o275 g94) ⟨trivial, trivial⟩ (by intro e he; simp only [insT, List.mem_cons, List.not_mem_nil, or_false] at he; rcases he with rfl | rfl | rfl | rfl | rfl | rfl | rfl | rfl | rfl | rfl | rfl | rfl | rfl | rfl | rfl | rfl | rfl | rfl | rfl | rfl <;> simp [upd]) (by simp [insT]) (by simp [upd])
    · obtain rfl := Option.some.inj hio'
      have k20 := at_ 20 (by decide)
      have k13 := at_ 13 (by decide)
      have k17 := at_ 17 (by decide)
      have k8 := at_ 8 (by decide)
      have g95 : (insS E0 H0 N g lp c r i8 i12 m p x f8 A cs zs D).get 95 = .t (.one (.ptr c 11)) := by show (bif D 20 then AV.t _ else .any) = _; rw [k20]; rfl
      have g89 : (insS E0 H0 N g lp c r i8 i12 m p x f8 A cs zs D).get 89 = .t (.one (.slc i8 0 (m + 1) 1)) := by show (bif D 13 then AV.t _ else .any) = _; rw [k13]; rfl
      have gc' : hget (insH H0 c i8 i12 m p x f8 cs zs D) c = some (cs.take 12 ++ [f8] ++ cs.drop 13) := (gc D).trans (by unfold insC; rw [hDi, k17]; rfl)
      have hA : ∀ q, hget (insH H0 c i8 i12 m p x f8 cs zs (upd D 21)) q = hget (hset (insH H0 c i8 i12 m p x f8 cs zs D) c ((cs.take 12 ++ [f8] ++ cs.drop 13).take 11 ++ [.slc i8 0 (m + 1) 1] ++ (cs.take 12 ++ [f8] ++ cs.drop 13).drop 12)) q := fun q => by
        by_cases hq : q = c
        · subst hq; rw [hget_hset_same, insH_get]; rw [if_neg (fun h => c12 h.2), if_neg (fun h => c8 h.2), if_pos rfl]; unfold insC; rfl
        · rw [hget_hset_ne _ _ _ _ hq, insH_get, insH_get]; rw [if_neg hq, if_neg hq]; simp [upd]
      exact step_f (nid := (insH H0 c i8 i12 m p x f8 cs zs D).length) rfl (fun c e => by cases e) (hget_len _) trivial (ev_store t24 g95 g89 gc') ⟨trivial, trivial, rfl, by simp [hcl], by omega⟩ (repTo_of rfl rfl rfl (tab_same (insT c r i8 i12 m p x f8 A) (by intro e he; simp only [insT, List.mem_cons, List.not_mem_nil, or_false] at he; rcases he with rfl | rfl | rfl | rfl | rfl | rfl | rfl | rfl | rfl | rfl | rfl | rfl | rfl | rfl | rfl | rfl | rfl | rfl | rfl | rfl <;> simp [upd])) hA)
  · intro D hD
    have hD' : ∀ k, k < 22 → D k = true := fun k hk => hD k (by omega)
    refine ⟨⟨E0, insH H0 c i8 i12 m p x f8 cs zs (fun _ => true), N, g, lp⟩, repTo_of rfl rfl rfl (fun t => ?_) (fun q => ?_), hQ⟩
    · by_cases ht : t ∈ (insT c r i8 i12 m p x f8 A).map (·.t)
      · exact Or.inr (anyA_e (List.all_eq_true.1 hE t ht))
      · exact Or.inl (tab_lk _ ht).symm
    · show hget (insH H0 c i8 i12 m p x f8 cs zs (fun _ => true)) q = hget (insH H0 c i8 i12 m p x f8 cs zs D) q
      rw [insH_congr ⟨(hD' 8 (by omega)).symm, (hD' 12 (by omega)).symm, (hD' 13 (by omega)).symm, (hD' 17 (by omega)).symm, (hD' 21 (by omega)).symm⟩]
end Go.Proofs.YtdhgiklbkmkblaaGreat
set_option maxRecDepth 100000
set_option maxHeartbeats 4000000
namespace Go.Proofs.YtdhgiklbkmkblaaGreat
open Go.RowKit Go.Sea
open Nat renaming reduceAdd → xA, reduceLT → xL, reduceLeDiff → xD, reduceEqDiff → xE, reduceMul → xM, reduceSub → xS, reduceBEq → xB
theorem fnok_32 : fnOk Tryz.prog 32 = true := by kernel_rfl
theorem fnok_34 : fnOk Tryz.prog 34 = true := by kernel_rfl
theorem fnok_43 : fnOk Tryz.prog 43 = true := by kernel_rfl
theorem fnok_55 : fnOk Tryz.prog 55 = true := by kernel_rfl
theorem fnok_61 : fnOk Tryz.prog 61 = true := by kernel_rfl
theorem fnok_63 : fnOk Tryz.prog 63 = true := by kernel_rfl
theorem fnok_65 : fnOk Tryz.prog 65 = true := by kernel_rfl
theorem fnok_82 : fnOk Tryz.prog 82 = true := by kernel_rfl
theorem fnok_84 : fnOk Tryz.prog 84 = true := by kernel_rfl
theorem fnok_95 : fnOk Tryz.prog 95 = true := by kernel_rfl
theorem fo_79 : fieldsOk Tryz.prog 79 = true := by kernel_rfl
theorem pl_79_0 : placeF Tryz.prog 79 0 = some (0, 13) := by kernel_rfl
theorem ty_122 : tyD Tryz.prog 122 = some (false, 1) := by kernel_rfl
theorem ty_79 : tyD Tryz.prog 79 = some (true, 13) := by kernel_rfl
theorem zc_79 : zeroC Tryz.prog 79 = some [.iv (.g (.int .i64 0)), .iv (.g (.int .i64 0)), .iv (.g (.int .i64 0)), .iv (.g (.int .i64 0)), .iv (.g (.int .i64 0)), .iv (.g (.int .i64 0)), .iv (.g (.int .i64 0)), .iv (.g (.int .i64 0)), .iv (.g (.int .i64 0)), .iv (.g (.int .i64 0)), .iv (.g (.int .i64 0)), .iv (.g (.slice none 0 0)), .iv (.g (.slice none 0 0))] := by kernel_rfl
attribute [go_sem] fnok_32 fnok_34 fnok_43 fnok_55 fnok_61 fnok_63 fnok_65 fnok_84 fnok_95 fo_79 pl_79_0 ty_122 ty_79 zc_79
theorem liI_row (q : Nat) (a : Nat → Int) : Go.Sea.lstC (intI a) 1 q 0 = rowI (liI q a) := by
  have hl : (Go.Sea.lstC (intI a) 1 q 0).length = (rowI (liI q a)).length := by rw [lstC_len, rowI_len, liI_len, Nat.mul_one]
  refine List.ext_getElem? fun i => ?_
  by_cases h : i < q
  · have h1 := lstC_get (intI a) 1 q 0 i 0 h (by omega)
    rw [Nat.mul_one, Nat.add_zero, Nat.zero_add] at h1
    rw [h1]
    simp [rowI, liI, h]; rfl
  · rw [List.getElem?_eq_none (by rw [lstC_len]; omega), List.getElem?_eq_none (by rw [rowI_len, liI_len]; omega)]
theorem posI_q (q : Nat) (a : Nat → Int) (x : Int) : posI (liI q a) x ≤ q := by have := posI_le (liI q a) x; rwa [liI_len] at this
theorem edAp_e (s : ShtS) (N : NotS) (hs : s.Ok) (ho : N.Ok) (hv : shtB s = true) (hw : notB N = true) (hk : N.kd = 1) (hb : prtB N s.ch = true) : CallsP Tryz.prog 12 [(shP s), (noP N)] (.tup [(shP (ApS s N)), .one (.g (.int .i64 (ApE s N)))]) := by
  have hil : (rowI (insL (liI s.q s.dn) (posI (liI s.q s.dn) N.nu) N.nu)).length = s.q + 1 := by rw [rowI_len, insL_len (posI_le _ _), liI_len]
  have hk1 : (N.kd = 1) = True := by simp [hk]
  have hpS : prtS N s.ch = prt N s.ch := by unfold prtS; rw [if_pos hb]
  have hP : (prtS N s.ch).Ok := by rw [hpS]; exact ho.p _ (of_decide_eq_true hb)
  have hPk := hP.k
  have hPq := hP.q
  have hPo := hP.o
  have hsq := sht_q hv
  have hnn := ho.n
  refine CallsP_of Tryz.func12 rfl (by rw [Tryz.ntmps12]; simp) ?_
  simp only [noP, shP, Tryz.ntmps12, zM, PT.tv, argEnv, Nat.zero_add, Nat.reduceAdd]
  repeat' (first
 | ((with_reducible show AW _ _ _ _); first
 | (with_reducible first | refine aS (fun K hK => ?_) | refine aI ?_ | refine aX ?_ | refine aT ?_ | refine aC ?_ | refine aB ?_)
 | (first
 | ((with_reducible show AW _ (Code.region 17 _ true) _ _); refine AW_ins (c := 3) (b := 4) (r := 5) (m := s.q) (p := posI (liI s.q s.dn) N.nu) (zs := liI s.q s.dn) (x := N.nu) 6 7 rfl rfl rfl rfl rfl rfl rfl rfl rfl rfl rfl ⟨rfl, by simp, by decide⟩ rfl rfl (by decide) (by omega) (liI_row _ _) (liI_len _ _) (posI_q _ _ _) rfl rfl rfl rfl (by decide) (by kernel_rfl) (by kernel_rfl) (by kernel_rfl) (by kernel_rfl) (by kernel_rfl) ?_)
 | (with_reducible first | refine aP 0 [0,1] ?_ | refine aP (ops := #[⟨some 8, _, _, _, _, _⟩, _, _, _, _, _, _, _]) 1 [2,3,4] ?_ | refine aP (ops := #[⟨some 5, _, _, _, _, _⟩, _, _, _, _]) 1 [0,1] ?_ | refine aP (ops := #[⟨some 6, _, _, _, _, _⟩, _, _]) 1 [0,1] ?_ | refine aP (ops := #[⟨some 4, _, _, _, _, _⟩, _, _, _, _, _, _]) 1 [0,1] ?_)
 | ((with_reducible refine aR (c := Code.region 1 _ true) [2,3] ?_); (with_reducible refine aD ?_ ?_ ?_ ?_); (focus kernel_rfl); (focus kernel_rfl); (focus kernel_rfl))
 | (with_reducible first | refine aP (ops := #[⟨some 23, _, _, _, _, _⟩, _]) 2 [2,3,5,6] ?_ | refine aP (ops := #[⟨some 9, _, _, _, _, _⟩]) 2 [0,1,7,8] ?_ | refine aP (ops := #[⟨some 17, _, _, _, _, _⟩, _, _, _]) 3 [2,3,4] ?_ | refine aP (ops := #[⟨some 25, _, _, _, _, _⟩, _, _, _]) 3 [2,3,5,6,7] ?_ | refine aP (ops := #[⟨some 10, _, _, _, _, _⟩, _]) 3 [0,1,7,8] ?_ | refine aP (ops := #[⟨some 19, _, _, _, _, _⟩, _, _]) 4 [3,4,6] ?_ | refine aP (ops := #[⟨some 11, _, _, _, _, _⟩, _, _, _, _, _]) 4 [0,1,5,7,8] ?_ | refine aP (ops := #[⟨some 21, _, _, _, _, _⟩, _]) 5 [4,6,7] ?_ | refine aP (ops := #[⟨some 29, _, _, _, _, _⟩, _, _]) 5 [2,3,5,6,7] ?_ | refine aP (ops := #[⟨some 17, _, _, _, _, _⟩, _]) 5 [5] ?_ | refine aP (ops := #[⟨some 23, _, _, _, _, _⟩, _, _, _]) 6 [4,7] ?_ | refine aP (ops := #[⟨some 18, _, _, _, _, _⟩, _]) 6 [0,1,7,8] ?_ | refine aP (ops := #[⟨some 25, _, _, _, _, _⟩, _, _, _]) 7 [4,6] ?_ | refine aP (ops := #[⟨some 4, _, _, _, _, _⟩]) 7 [] ?_)
 | ((with_reducible refine aR (c := Code.region 7 _ true) [2,3,5,7] ?_); (with_reducible refine aD ?_ ?_ ?_ ?_); (focus kernel_rfl); (focus kernel_rfl); (focus kernel_rfl))
 | (with_reducible first | refine aP 8 [] ?_ | refine aP 9 [2,3,5,7] ?_ | refine aP 10 [] ?_ | refine aP 11 [2,3,5] ?_ | refine aP 12 [] ?_)
 | ((with_reducible refine aR (c := Code.region 13 _ true) [2,3,5] ?_); (with_reducible refine aD ?_ ?_ ?_ ?_); (focus kernel_rfl); (focus kernel_rfl); (focus kernel_rfl))
 | (with_reducible first | refine aP 14 [2,3,8,10] ?_ | refine aP 15 [] ?_)
 | ((with_reducible refine aR (c := Code.region 16 _ true) [2,3,8] ?_); (with_reducible refine aD ?_ ?_ ?_ ?_); (focus kernel_rfl); (focus kernel_rfl); (focus kernel_rfl))
 | (with_reducible refine AW_frz (c := Code.region 18 _ false) [6] ?_ (aP 18 [] ?_)))
 | ((with_reducible show AW _ (Code.loop _) _ _); first
 | ((with_reducible refine aL (c := (Code.seq (Code.region 2 _ _) _)) (ι := Nat) [0,1,7] (fun j => [(8, iA .i64 (j : Int))]) (fun j => []) (fun j => j ≤ (prtS N s.ch).q ∧ (∀ k, k < j → hasL s.q s.dn ((prtS N s.ch).a k) = true)) (fun j => (prtS N s.ch).q - j) 0 ?lg2 ?l12 ?l22 ?li2 ?lr2); (case' lg2 => rintro j _); (case' li2 => try (exact ⟨Nat.zero_le _, fun i hi => absurd hi (Nat.not_lt_zero _)⟩)); (case' lr2 => rintro j ⟨hj, haj⟩ KR hR2; simp only [keepE, hupd, hset, lk, if_true, if_false, xE, reduceIte, zN, hv, hw, hb, hk1, insH, insC, hil, Nat.le_refl]))))
 | ((first | (with_reducible refine And.intro ?_ ?_) | (with_reducible refine Need.mk ?_)); focus (first | exact rowI_iv _ | first | exact True.intro | omega | (intro _; exact True.intro)))
 | (with_reducible refine retK_n ?_)
 | ((with_reducible show condN _ _ _ _ _ _); first
 | ((with_reducible refine condN_t ?_ ?_) <;> (intro hc; (try simp only [zB, zC, reduceCtorEq] at hc); (try (exfalso; contradiction)))))
 | ((with_reducible refine And.intro ?_ ?_); focus ((with_reducible show chkR _ _ _ = true); kernel_rfl))
 | ((with_reducible show callN _ _ _ _ _ _ _ _ _ _); first
 | (refine callN_q (k := 34) fnok_34 (sheet_p s hs) ?_ ?_)
 | (refine callN_q (k := 63) fnok_63 (has_p s _ hs hv) ?_ ?_)
 | ((refine callN_i (k := 43) Tryz.func43 rfl fnok_43 (by rw [Tryz.ntmps43]; simp) ?_ ?_ (fun K hK => ?_)); (focus (exact True.intro)); (focus ((simp [lsF]; done))); simp only [Tryz.ntmps43, List.map_cons, List.map_nil, List.nil_append, List.cons_append, List.append_nil, LV.tv, argEnv, Nat.zero_add, Nat.reduceAdd])
 | ((refine callN_i (k := 61) Tryz.func61 rfl fnok_61 (by rw [Tryz.ntmps61]; simp) ?_ ?_ (fun K hK => ?_)); (focus (exact True.intro)); (focus ((simp [lsF]; done))); simp only [Tryz.ntmps61, List.map_cons, List.map_nil, List.nil_append, List.cons_append, List.append_nil, LV.tv, argEnv, Nat.zero_add, Nat.reduceAdd])
 | ((refine callN_i (k := 95) Tryz.func95 rfl fnok_95 (by rw [Tryz.ntmps95]; simp) ?_ ?_ (fun K hK => ?_)); (focus (exact True.intro)); (focus ((simp [lsF]; done))); simp only [Tryz.ntmps95, List.map_cons, List.map_nil, List.nil_append, List.cons_append, List.append_nil, LV.tv, argEnv, Nat.zero_add, Nat.reduceAdd])
 | ((refine callN_ic (k := 82) Tryz.func82 rfl fnok_82 (by rw [Tryz.ntmps82]; simp) ?_ ?_ (fun K hK => ?_)); (focus (exact True.intro)); (focus ((simp [lsF]; done))); simp only [Tryz.ntmps82, List.map_cons, List.map_nil, List.nil_append, List.cons_append, List.append_nil, LV.tv, argEnv, Nat.zero_add, Nat.reduceAdd]))
 | ((with_reducible show callGN _ _ _ _ _ _ _ _ _ _); first
 | (refine callGN_q (k := 42) fnok_42 (fun hg => Not_p N ho) ?_ ?_))
 | ((with_reducible show callDN _ _ _ _ _ _ _ _ _ _ _ _ _); first
 | (refine callDN_q (k := 65) fnok_65 (prtF_p N s.ch ho) ?_ ?_)
 | (refine callDN_q (k := 63) fnok_63 (has_p s _ hs hv) ?_ ?_)
 | (refine callDN_q (k := 32) fnok_32 (Apply_p s.n s.f (prtS N s.ch).k (prtS N s.ch).o hs.n hs.f hPk hPo) ?_ ?_)
 | (refine callDN_q (k := 83) fnok_83 (bs_p s.q s.dn _ (by omega) (fun i j h1 h2 => rise_all hsq.2.2 j h1 h2)) ?_ ?_))
 | ((with_reducible refine hR2 _ (j + 1) ?_); (try clear hR2 KR))
 | ((with_reducible refine Told.mk ?_); simp only [go_sem, reduceIte, reduceCtorEq, xA, xL, xD, xE, xM, xS, xB, hv, hw, hb, hk1, intI, insH, insC, hil, Nat.le_refl] <;> ((((try simp (disch := omega) only [seaWrap, Int.natCast_add, Int.cast_ofNat_Int, and_true, true_and, and_self]); (repeat' (first | omega | (with_reducible refine And.intro ?_ ?_) | (exact all_succ (by assumption) (by assumption)))); done))))
 | ((fail_if_success (with_reducible show AW _ _ _ _)); simp (maxSteps := 2000000) only [go_sem, reduceIte, reduceCtorEq, xA, xL, xD, xE, xM, xS, xB, Tryz.f12, Tryz.f43, Tryz.f61, Tryz.f95, Tryz.f82, hv, hw, hb, hk1, intI, insH, insC, hil, Nat.le_refl])
 | ((with_reducible refine hK _ ?_); clear hK K)
 | (with_reducible apply_assumption -exfalso only [*]))
  all_goals (try rw [hpS] at *)
  all_goals (first | (have e := ApS_e (N := N) (s := s) ((Ap_val hv hw).trans ((ed_ap hk hb).trans (ap_5 (by assumption)))) (by decide); rw [e.1, e.2]; (repeat' (first | exact rfl | (with_reducible refine And.intro ?_ ?_))); done) | (have e := ApS_e (N := N) (s := s) ((Ap_val hv hw).trans ((ed_ap hk hb).trans (ap_16 (by assumption) (by assumption) (by assumption)))) (by decide); rw [e.1, e.2]; (repeat' (first | exact rfl | (with_reducible refine And.intro ?_ ?_))); done) | (have e := ApS_e (N := N) (s := s) ((Ap_val hv hw).trans ((ed_ap hk hb).trans (ap_2 (by assumption) (mss_f (by assumption) haj) (by assumption)))) (by decide); rw [e.1, e.2]; (repeat' (first | exact rfl | (with_reducible refine And.intro ?_ ?_))); done) | (have e := ApS_e (N := N) (s := s) ((Ap_val hv hw).trans ((ed_ap hk hb).trans (ap_15 (by assumption) (mss_f (by assumption) haj) (by assumption) (by assumption)))) (by decide); rw [e.1, e.2]; (repeat' (first | exact rfl | (with_reducible refine And.intro ?_ ?_))); done) | (have e := ApS_0 (N := N) (s := s) ((Ap_val hv hw).trans ((ed_ap hk hb).trans (ap_0 (by assumption) (mss_f (by assumption) haj) (by assumption) (by assumption)))); rw [e.1, e.2]; (repeat' (first | exact rfl | (with_reducible refine And.intro ?_ ?_) | (intro i q hi hq; exact IV.eqv_refl _) | (intro i q hi hq; exact rowI_dn2 (by omega) hq))); done))
theorem edAp_a (s : ShtS) (N : NotS) (hs : s.Ok) (ho : N.Ok) (hv : shtB s = false) : CallsP Tryz.prog 12 [(shP s), (noP N)] (.tup [(shP (ApS s N)), .one (.g (.int .i64 (ApE s N)))]) := by
  refine CallsP_of Tryz.func12 rfl (by rw [Tryz.ntmps12]; simp) ?_
  simp only [noP, shP, Tryz.ntmps12, zM, PT.tv, argEnv, Nat.zero_add, Nat.reduceAdd]
  repeat' (first
 | ((with_reducible show AW _ _ _ _); first
 | (with_reducible first | refine aS (fun K hK => ?_) | refine aT ?_ | refine aC ?_)
 | (first
 | (with_reducible first | refine aP 0 [0,1] ?_ | refine aP 1 [2,3,4] ?_ | refine aP 2 [4] ?_)))
 | ((first | (with_reducible refine And.intro ?_ ?_) | (with_reducible refine Need.mk ?_)); focus (first | exact True.intro | (simp; done)))
 | (with_reducible refine retK_n ?_)
 | ((with_reducible show condN _ _ _ _ _ _); first
 | ((with_reducible refine condN_t ?_ ?_) <;> (intro hc; (try simp only [zB, zC, reduceCtorEq] at hc); (try (exfalso; contradiction)))))
 | ((with_reducible show callN _ _ _ _ _ _ _ _ _ _); (refine callN_q (k := 34) fnok_34 (sheet_p s hs) ?_ ?_))
 | ((with_reducible show callGN _ _ _ _ _ _ _ _ _ _); (refine callGN_q (k := 42) fnok_42 (fun hg => Not_p N ho) ?_ ?_))
 | ((fail_if_success (with_reducible show AW _ _ _ _)); simp (maxSteps := 2000000) only [go_sem, reduceIte, reduceCtorEq, xA, xL, xD, xE, xM, xS, xB, Tryz.f12, hv, intI])
 | ((with_reducible refine hK _ ?_); clear hK K))
  all_goals ((have e := ApS_e (N := N) (s := s) (Ap_arg (Or.inl hv)) (by decide); rw [e.1, e.2]; (repeat' (first | exact rfl | (with_reducible refine And.intro ?_ ?_))); done))
theorem edAp_b (s : ShtS) (N : NotS) (hs : s.Ok) (ho : N.Ok) (hv : shtB s = true) (hw : notB N = false) : CallsP Tryz.prog 12 [(shP s), (noP N)] (.tup [(shP (ApS s N)), .one (.g (.int .i64 (ApE s N)))]) := by
  refine CallsP_of Tryz.func12 rfl (by rw [Tryz.ntmps12]; simp) ?_
  simp only [noP, shP, Tryz.ntmps12, zM, PT.tv, argEnv, Nat.zero_add, Nat.reduceAdd]
  repeat' (first
 | ((with_reducible show AW _ _ _ _); first
 | (with_reducible first | refine aS (fun K hK => ?_) | refine aT ?_ | refine aC ?_)
 | (first
 | (with_reducible first | refine aP 0 [0,1] ?_ | refine aP 1 [2,3,4] ?_ | refine aP 2 [4] ?_)))
 | ((first | (with_reducible refine And.intro ?_ ?_) | (with_reducible refine Need.mk ?_)); focus (first | exact True.intro | (intro _; exact True.intro)))
 | (with_reducible refine retK_n ?_)
 | ((with_reducible show condN _ _ _ _ _ _); first
 | ((with_reducible refine condN_t ?_ ?_) <;> (intro hc; (try simp only [zB, zC, reduceCtorEq] at hc); (try (exfalso; contradiction)))))
 | ((with_reducible show callN _ _ _ _ _ _ _ _ _ _); (refine callN_q (k := 34) fnok_34 (sheet_p s hs) ?_ ?_))
 | ((with_reducible show callGN _ _ _ _ _ _ _ _ _ _); (refine callGN_q (k := 42) fnok_42 (fun hg => Not_p N ho) ?_ ?_))
 | ((fail_if_success (with_reducible show AW _ _ _ _)); simp (maxSteps := 2000000) only [go_sem, reduceIte, reduceCtorEq, xA, xL, xD, xE, xM, xS, xB, Tryz.f12, hv, hw, intI])
 | ((with_reducible refine hK _ ?_); clear hK K))
  all_goals ((have e := ApS_e (N := N) (s := s) (Ap_arg (Or.inr hw)) (by decide); rw [e.1, e.2]; (repeat' (first | exact rfl | (with_reducible refine And.intro ?_ ?_))); done))
theorem edAp_c (s : ShtS) (N : NotS) (hs : s.Ok) (ho : N.Ok) (hv : shtB s = true) (hw : notB N = true) (hk : N.kd ≠ 1) : CallsP Tryz.prog 12 [(shP s), (noP N)] (.tup [(shP (ApS s N)), .one (.g (.int .i64 (ApE s N)))]) := by
  refine CallsP_of Tryz.func12 rfl (by rw [Tryz.ntmps12]; simp) ?_
  simp only [noP, shP, Tryz.ntmps12, zM, PT.tv, argEnv, Nat.zero_add, Nat.reduceAdd]
  repeat' (first
 | ((with_reducible show AW _ _ _ _); first
 | (with_reducible first | refine aS (fun K hK => ?_) | refine aI ?_ | refine aT ?_ | refine aC ?_ | refine aB ?_)
 | (first
 | (with_reducible first | refine aP (ops := #[⟨some 2, _, _, _, _, _⟩, _, _, _]) 0 [0,1] ?_ | refine aP (ops := #[⟨some 2, _, _, _, _, _⟩, _, _]) 0 [0,1] ?_ | refine aP 1 [2,3,4] ?_)
 | ((with_reducible refine aR (c := Code.region 1 _ true) [2,3] ?_); (with_reducible refine aD ?_ ?_ ?_ ?_); (focus kernel_rfl); (focus kernel_rfl); (focus kernel_rfl))
 | (with_reducible first | refine aP (ops := #[⟨some 23, _, _, _, _, _⟩, _]) 2 [2,3,5,6] ?_ | refine aP (ops := #[⟨some 17, _, _, _, _, _⟩, _, _, _]) 3 [2,3,4] ?_ | refine aP (ops := #[⟨some 25, _, _, _, _, _⟩, _, _, _]) 3 [2,3,5,6,7] ?_ | refine aP (ops := #[⟨some 19, _, _, _, _, _⟩, _, _]) 4 [3,4,6] ?_ | refine aP (ops := #[⟨some 4, _, _, _, _, _⟩]) 4 [] ?_ | refine aP (ops := #[⟨some 21, _, _, _, _, _⟩, _]) 5 [4,6,7] ?_ | refine aP (ops := #[⟨some 23, _, _, _, _, _⟩, _, _, _]) 6 [4,7] ?_)))
 | ((first | (with_reducible refine And.intro ?_ ?_) | (with_reducible refine Need.mk ?_)); focus (first | exact True.intro | (intro _; exact True.intro)))
 | (with_reducible refine retK_n ?_)
 | ((with_reducible show condN _ _ _ _ _ _); first
 | ((with_reducible refine condN_t ?_ ?_) <;> (intro hc; (try simp only [zB, zC, reduceCtorEq] at hc); (try (exfalso; contradiction)))))
 | ((with_reducible refine And.intro ?_ ?_); focus ((with_reducible show chkR _ _ _ = true); kernel_rfl))
 | ((with_reducible show callN _ _ _ _ _ _ _ _ _ _); first
 | (refine callN_q (k := 34) fnok_34 (sheet_p s hs) ?_ ?_)
 | ((refine callN_i (k := 43) Tryz.func43 rfl fnok_43 (by rw [Tryz.ntmps43]; simp) ?_ ?_ (fun K hK => ?_)); (focus (exact True.intro)); (focus ((simp [lsF]; done))); simp only [Tryz.ntmps43, List.map_cons, List.map_nil, List.nil_append, List.cons_append, List.append_nil, LV.tv, argEnv, Nat.zero_add, Nat.reduceAdd]))
 | ((with_reducible show callGN _ _ _ _ _ _ _ _ _ _); first
 | (refine callGN_q (k := 42) fnok_42 (fun hg => Not_p N ho) ?_ ?_))
 | ((with_reducible show callDN _ _ _ _ _ _ _ _ _ _ _ _ _); first
 | (refine callDN_q (k := 65) fnok_65 (prtF_p N s.ch ho) ?_ ?_))
 | ((fail_if_success (with_reducible show AW _ _ _ _)); simp (maxSteps := 2000000) only [go_sem, reduceIte, reduceCtorEq, xA, xL, xD, xE, xM, xS, xB, Tryz.f12, Tryz.f43, hv, hw, hk, intI])
 | ((with_reducible refine hK _ ?_); clear hK K)
 | (with_reducible apply_assumption -exfalso only [*]))
  all_goals ((have e := ApS_e (N := N) (s := s) ((Ap_val hv hw).trans (ed_12 hk)) (by decide); rw [e.1, e.2]; (repeat' (first | exact rfl | (with_reducible refine And.intro ?_ ?_))); done))
theorem edAp_d (s : ShtS) (N : NotS) (hs : s.Ok) (ho : N.Ok) (hv : shtB s = true) (hw : notB N = true) (hk : N.kd = 1) (hb : prtB N s.ch = false) : CallsP Tryz.prog 12 [(shP s), (noP N)] (.tup [(shP (ApS s N)), .one (.g (.int .i64 (ApE s N)))]) := by
  have hk1 : (N.kd = 1) = True := by simp [hk]
  refine CallsP_of Tryz.func12 rfl (by rw [Tryz.ntmps12]; simp) ?_
  simp only [noP, shP, Tryz.ntmps12, zM, PT.tv, argEnv, Nat.zero_add, Nat.reduceAdd]
  repeat' (first
 | ((with_reducible show AW _ _ _ _); first
 | (with_reducible first | refine aS (fun K hK => ?_) | refine aI ?_ | refine aT ?_ | refine aC ?_ | refine aB ?_)
 | (first
 | (with_reducible first | refine aP (ops := #[⟨some 2, _, _, _, _, _⟩, _, _, _]) 0 [0,1] ?_ | refine aP (ops := #[⟨some 2, _, _, _, _, _⟩, _, _]) 0 [0,1] ?_ | refine aP 1 [2,3,4] ?_)
 | ((with_reducible refine aR (c := Code.region 1 _ true) [2,3] ?_); (with_reducible refine aD ?_ ?_ ?_ ?_); (focus kernel_rfl); (focus kernel_rfl); (focus kernel_rfl))
 | (with_reducible first | refine aP (ops := #[⟨some 23, _, _, _, _, _⟩, _]) 2 [2,3,5,6] ?_ | refine aP (ops := #[⟨some 17, _, _, _, _, _⟩, _, _, _]) 3 [2,3,4] ?_ | refine aP (ops := #[⟨some 25, _, _, _, _, _⟩, _, _, _]) 3 [2,3,5,6,7] ?_ | refine aP (ops := #[⟨some 19, _, _, _, _, _⟩, _, _]) 4 [3,4,6] ?_ | refine aP (ops := #[⟨some 21, _, _, _, _, _⟩, _]) 5 [4,6,7] ?_ | refine aP (ops := #[⟨some 29, _, _, _, _, _⟩, _, _]) 5 [2,3,5,6,7] ?_ | refine aP (ops := #[⟨some 23, _, _, _, _, _⟩, _, _, _]) 6 [4,7] ?_ | refine aP (ops := #[⟨some 4, _, _, _, _, _⟩]) 6 [] ?_)))
 | ((first | (with_reducible refine And.intro ?_ ?_) | (with_reducible refine Need.mk ?_)); focus (first | exact True.intro | (intro _; exact True.intro)))
 | (with_reducible refine retK_n ?_)
 | ((with_reducible show condN _ _ _ _ _ _); first
 | ((with_reducible refine condN_t ?_ ?_) <;> (intro hc; (try simp only [zB, zC, reduceCtorEq] at hc); (try (exfalso; contradiction)))))
 | ((with_reducible refine And.intro ?_ ?_); focus ((with_reducible show chkR _ _ _ = true); kernel_rfl))
 | ((with_reducible show callN _ _ _ _ _ _ _ _ _ _); first
 | (refine callN_q (k := 34) fnok_34 (sheet_p s hs) ?_ ?_)
 | ((refine callN_i (k := 43) Tryz.func43 rfl fnok_43 (by rw [Tryz.ntmps43]; simp) ?_ ?_ (fun K hK => ?_)); (focus (exact True.intro)); (focus ((simp [lsF]; done))); simp only [Tryz.ntmps43, List.map_cons, List.map_nil, List.nil_append, List.cons_append, List.append_nil, LV.tv, argEnv, Nat.zero_add, Nat.reduceAdd]))
 | ((with_reducible show callGN _ _ _ _ _ _ _ _ _ _); first
 | (refine callGN_q (k := 42) fnok_42 (fun hg => Not_p N ho) ?_ ?_))
 | ((with_reducible show callDN _ _ _ _ _ _ _ _ _ _ _ _ _); first
 | (refine callDN_q (k := 65) fnok_65 (prtF_p N s.ch ho) ?_ ?_))
 | ((fail_if_success (with_reducible show AW _ _ _ _)); simp (maxSteps := 2000000) only [go_sem, reduceIte, reduceCtorEq, xA, xL, xD, xE, xM, xS, xB, Tryz.f12, Tryz.f43, hv, hw, hk1, hb, intI])
 | ((with_reducible refine hK _ ?_); clear hK K)
 | (with_reducible apply_assumption -exfalso only [*]))
  all_goals ((have e := ApS_e (N := N) (s := s) ((Ap_val hv hw).trans (ed_4 hk hb)) (by decide); rw [e.1, e.2]; (repeat' (first | exact rfl | (with_reducible refine And.intro ?_ ?_))); done))
theorem edAp_p (s : ShtS) (N : NotS) (hs : s.Ok) (ho : N.Ok) : CallsP Tryz.prog 12 [(shP s), (noP N)] (.tup [(shP (ApS s N)), .one (.g (.int .i64 (ApE s N)))]) := by
  cases hv : shtB s with
  | false => exact edAp_a s N hs ho hv
  | true => cases hw : notB N with
    | false => exact edAp_b s N hs ho hv hw
    | true =>
      by_cases hk : N.kd = 1
      · cases hb : prtB N s.ch with
        | false => exact edAp_d s N hs ho hv hw hk hb
        | true => exact edAp_e s N hs ho hv hw hk hb
      · exact edAp_c s N hs ho hv hw hk
end Go.Proofs.YtdhgiklbkmkblaaGreat
