/- Part 14 of 17: contracts of functions and plain laws for the root text. No condition. -/
import Derived.Test.YtcfechepbamhkaaGreatZ01
import Derived.Test.YtcfechepbamhkaaGreatZ02
import Derived.Test.YtcfechepbamhkaaGreatZ03
import Derived.Test.YtcfechepbamhkaaGreatZ04
import Derived.Test.YtcfechepbamhkaaGreatZ05
import Derived.Test.YtcfechepbamhkaaGreatZ06
import Derived.Test.YtcfechepbamhkaaGreatZ07
import Derived.Test.YtcfechepbamhkaaGreatZ08
import Derived.Test.YtcfechepbamhkaaGreatZ09
import Derived.Test.YtcfechepbamhkaaGreatZ10
import Derived.Test.YtcfechepbamhkaaGreatZ11
import Derived.Test.YtcfechepbamhkaaGreatZ12
import Derived.Test.YtcfechepbamhkaaGreatZ13
set_option linter.unusedVariables false
set_option linter.unusedSimpArgs false
set_option maxRecDepth 100000
set_option maxHeartbeats 4000000
namespace Go.Proofs.YtcfechepbamhkaaGreat
open Go.RowKit Go.Sea
open Nat renaming reduceAdd -> xA, reduceLT -> xL, reduceLeDiff -> xD, reduceEqDiff -> xE, reduceMul -> xM, reduceSub -> xS, reduceBEq -> xB
theorem JC : aN Tryz.prog 103 = true := by kernel_rfl
theorem Jd : aN Tryz.prog 104 = true := by kernel_rfl
theorem Ic : aN Tryz.prog 141 = true := by kernel_rfl
theorem NY : aN Tryz.prog 54 = true := by kernel_rfl
theorem abd : aN Tryz.prog 55 = true := by kernel_rfl
theorem NM : aN Tryz.prog 57 = true := by kernel_rfl
attribute [go_sem] JC Jd Ic NY NM
def EX (n m : Nat) (f g : Nat -> fE) : Bool := decide (n = m /\ ∀ i, i < n -> qY (f i) (g i) = true)
def vQ (p q : eH) : Bool := decide (p.ch = q.ch) && oQ p.q q.q p.a q.a && EX p.k q.k p.o q.o
def MV (n m : Nat) (f g : Nat -> eH) : Bool := decide (n = m /\ ∀ i, i < n -> vQ (f i) (g i) = true)
def vk (a b : ah) : Bool := decide (a.oc = b.oc /\ a.nu = b.nu /\ a.kd = b.kd /\ a.fr = b.fr /\ a.un = b.un /\ a.ca = b.ca) && MV a.n b.n a.p b.p
theorem VU {n m : Nat} {f g : Nat -> fE} (h : (n : Int) ≠ m) : false = EX n m f g := (decide_eq_false fun q => h (by rw [q.1])).symm
theorem ZN {n m : Nat} {f g : Nat -> fE} {i : Nat} (hi : (i : Int) < n) (h : qY (f i) (g i) = false) : false = EX n m f g := (decide_eq_false fun q => by have := q.2 i (by omega); rw [h] at this; cases this).symm
theorem Xn {n m : Nat} {f g : Nat -> fE} {i : Nat} (h : (n : Int) = m) (hi : (n : Int) <= i) (a : ∀ j, j < i -> qY (f j) (g j) = true) : true = EX n m f g := (decide_eq_true ⟨by omega, fun j hj => a j (by omega)⟩).symm
theorem XL {n m : Nat} {f g : Nat -> eH} (h : (n : Int) ≠ m) : false = MV n m f g := (decide_eq_false fun q => h (by rw [q.1])).symm
theorem Uf {n m : Nat} {f g : Nat -> eH} {i : Nat} (hi : (i : Int) < n) (h : vQ (f i) (g i) = false) : false = MV n m f g := (decide_eq_false fun q => by have := q.2 i (by omega); rw [h] at this; cases this).symm
theorem VT {n m : Nat} {f g : Nat -> eH} {i : Nat} (h : (n : Int) = m) (hi : (n : Int) <= i) (a : ∀ j, j < i -> vQ (f j) (g j) = true) : true = MV n m f g := (decide_eq_true ⟨by omega, fun j hj => a j (by omega)⟩).symm
theorem aju {p q : eH} (h : (p.ch ≠ q.ch \/ oQ p.q q.q p.a q.a = false) \/ EX p.k q.k p.o q.o = false) : vQ p q = false := by
  unfold vQ
  rcases h with (h | h) | h
  · rw [decide_eq_false h]; rfl
  · rw [h]; simp
  · rw [h]; simp
theorem af9 {p q : eH} (h : (p.ch = q.ch /\ oQ p.q q.q p.a q.a = true) /\ EX p.k q.k p.o q.o = true) : vQ p q = true := by
  unfold vQ; rw [decide_eq_true h.1.1, h.1.2, h.2]; rfl
theorem afC {a b : ah} (h : ((((a.oc ≠ b.oc \/ a.nu ≠ b.nu) \/ a.kd ≠ b.kd) \/ a.fr ≠ b.fr) \/ a.un ≠ b.un) \/ a.ca ≠ b.ca) : false = vk a b := by
  unfold vk; rw [decide_eq_false (fun g => by omega)]; rfl
theorem afy {a b : ah} (h : ((((a.oc = b.oc /\ a.nu = b.nu) /\ a.kd = b.kd) /\ a.fr = b.fr) /\ a.un = b.un) /\ a.ca = b.ca) : MV a.n b.n a.p b.p = vk a b := by
  unfold vk; rw [decide_eq_true (by omega)]; rfl
theorem amM {a b : ah} (h : (a.n : Int) ≠ b.n) : false = vk a b := by
  unfold vk; rw [<- XL h, Bool.and_false]
theorem ah7 (n m : Nat) (s t : Nat -> Int) (hn : n <= 9223372036854775807) (hm : m <= 9223372036854775807) : aA Tryz.prog 103 [.one (.lst 1 n (bn s)), .one (.lst 1 m (bn t))] (.t (.one (.g (.bool (oQ n m s t))))) := by
  refine ak Tryz.func103 rfl (by rw [Tryz.ntmps103]; simp) ?_
  simp only [Tryz.ntmps103, zM, PT.tv, au, Nat.zero_add, Nat.reduceAdd]
  repeat' (first
 | ((with_reducible show AW _ _ _ _); first
 | (with_reducible first | refine aS (fun K hK => ?_) | refine aI ?_ | refine aX ?_ | refine aT ?_ | refine aC ?_ | refine aB ?_)
 | (first
 | (with_reducible first | refine aP 0 [0,1] ?_ | refine aP 1 [0,1] ?_ | refine aP 2 [] ?_ | refine aP 3 [0,1] ?_ | refine aP 4 [0,1,5] ?_ | refine aP 5 [0,1,5] ?_)
 | ((with_reducible refine aR (c := Code.region 6 _ true) [0,1,5] ?_); (with_reducible refine aD ?_ ?_ ?_ ?_); (focus kernel_rfl); (focus kernel_rfl); (focus kernel_rfl))
 | (with_reducible first | refine aP 7 [] ?_ | refine aP 8 [] ?_))
 | ((with_reducible show AW _ (Code.loop _) _ _); first
 | ((with_reducible refine aL (c := (Code.seq (Code.seq (Code.region 4 _ _) _) _)) (ι := Nat) [0,1] (fun i => [(5, iA .i64 (i : Int))]) (fun i => []) (fun i => i <= n /\ (∀ i', i' < i -> s i' = t i')) (fun i => n - i) 0 ?lg4 ?l14 ?l24 ?li4 ?lr4); (case' lg4 => rintro i _); (case' li4 => try (exact ⟨Nat.zero_le _, fun i hi => absurd hi (Nat.not_lt_zero _)⟩)); (case' lr4 => rintro i ⟨hi, hai⟩ KR hR4; simp only [bI, dI, hset, lk, if_true, if_false, xE, reduceIte, zN]))))
 | (((with_reducible refine And.intro ?_ ?_)); focus (omega))
 | (with_reducible refine aJ ?_)
 | ((with_reducible show bL _ _ _ _ _ _); first
 | ((with_reducible refine aM ?_ ?_) <;> (intro hc; (try simp only [zB, zC, reduceCtorEq] at hc); (try (exfalso; contradiction)))))
 | ((with_reducible refine And.intro ?_ ?_); focus ((with_reducible show gW _ _ _ = true); kernel_rfl))
 | ((with_reducible refine hR4 _ (i + 1) ?_); (try clear hR4 KR))
 | ((with_reducible refine Told.mk ?_); simp only [go_sem, reduceIte, reduceCtorEq, xA, xL, xD, xE, xM, xS, xB, bn] <;> ((((try simp (disch := omega) only [aV, Int.natCast_add, Int.cast_ofNat_Int, and_true, true_and, and_self]); (repeat' (first | omega | (with_reducible refine And.intro ?_ ?_) | (exact all_succ (by assumption) (by assumption)) )); done))))
 | ((fail_if_success (with_reducible show AW _ _ _ _)); simp (maxSteps := 2000000) only [go_sem, reduceIte, reduceCtorEq, xA, xL, xD, xE, xM, xS, xB, Tryz.f103, bn])
 | ((with_reducible refine hK _ ?_); clear hK K)
 | (with_reducible apply_assumption -exfalso only [*]))
  all_goals first | exact FY (by assumption) | exact Fj (by assumption) hc | exact Fb (by omega) (by assumption) hai | skip
theorem aic (a b : fE) (ha : a.f.Ok) (hb : b.f.Ok) : aA Tryz.prog 141 [.agg [.g (.int .i64 (a.kd)), .g (.int .i64 (a.id)), .g (.int .i64 (a.f.id)), .g (.int .i64 (a.f.kd)), .g (.int .i64 (a.f.x)), .g (.int .i64 (a.f.y)), .g (.int .i64 (a.f.r)), .lst 2 a.f.n (eO a.f.P), .g (.int .i64 (a.f.d)), .g (.int .i64 (a.f.s)), .lst 6 a.f.m (eO a.f.S), .g (.int .i64 (a.x)), .g (.int .i64 (a.y)), .g (.int .i64 (a.r)), .g (.int .i64 (a.d)), .g (.int .i64 (a.s))], .agg [.g (.int .i64 (b.kd)), .g (.int .i64 (b.id)), .g (.int .i64 (b.f.id)), .g (.int .i64 (b.f.kd)), .g (.int .i64 (b.f.x)), .g (.int .i64 (b.f.y)), .g (.int .i64 (b.f.r)), .lst 2 b.f.n (eO b.f.P), .g (.int .i64 (b.f.d)), .g (.int .i64 (b.f.s)), .lst 6 b.f.m (eO b.f.S), .g (.int .i64 (b.x)), .g (.int .i64 (b.y)), .g (.int .i64 (b.r)), .g (.int .i64 (b.d)), .g (.int .i64 (b.s))]] (.t (.one (.g (.bool (qY a b))))) := by
  refine ak Tryz.func141 rfl (by rw [Tryz.ntmps141]; simp) ?_
  simp only [Tryz.ntmps141, zM, PT.tv, au, Nat.zero_add, Nat.reduceAdd]
  repeat' (first
 | ((with_reducible show AW _ _ _ _); first
 | (with_reducible first | refine aS (fun K hK => ?_) | refine aT ?_)
 | (first
 | (with_reducible first | refine aP 0 [0,1] ?_ | refine aP 1 [2,3] ?_)))
 | (((with_reducible refine Need.mk ?_)); focus ((intro _; (with_reducible assumption))))
 | (with_reducible refine aJ ?_)
 | ((with_reducible show bG _ _ _ _ _ _ _ _ _ _); first
 | (refine aO (k := 64) GQ (fun hg => JG a.f b.f ha hb) ?_ ?_))
 | ((fail_if_success (with_reducible show AW _ _ _ _)); simp (maxSteps := 2000000) only [go_sem, reduceIte, reduceCtorEq, xA, xL, xD, xE, xM, xS, xB, Tryz.f141, Go.Sea.nZ])
 | ((with_reducible refine hK _ ?_); clear hK K))
  all_goals (unfold qY; refine Bool.eq_iff_iff.2 ?_; simp only [Bool.and_eq_true, decide_eq_true_eq, beq_iff_eq]; exact ⟨fun h => by simp only [h, and_self], fun h => by simp only [h, and_self]⟩)
theorem aiG (n m : Nat) (f g : Nat -> fE) (hn : n <= 9223372036854775807) (hm : m <= 9223372036854775807) (hf : ∀ i, i < n -> (f i).f.Ok) (hg : ∀ i, i < m -> (g i).f.Ok) : aA Tryz.prog 104 [.one (.lst 16 n (iR f)), .one (.lst 16 m (iR g))] (.t (.one (.g (.bool (EX n m f g))))) := by
  refine ak Tryz.func104 rfl (by rw [Tryz.ntmps104]; simp) ?_
  simp only [Tryz.ntmps104, zM, PT.tv, au, Nat.zero_add, Nat.reduceAdd]
  repeat' (first
 | ((with_reducible show AW _ _ _ _); first
 | (with_reducible first | refine aS (fun K hK => ?_) | refine aI ?_ | refine aX ?_ | refine aT ?_ | refine aC ?_ | refine aB ?_)
 | (first
 | (with_reducible first | refine aP 0 [0,1] ?_ | refine aP 1 [0,1] ?_ | refine aP 2 [] ?_ | refine aP 3 [0,1] ?_ | refine aP 4 [0,1,5] ?_ | refine aP 5 [0,1,5] ?_)
 | ((with_reducible refine aR (c := Code.region 6 _ true) [0,1,5] ?_); (with_reducible refine aD ?_ ?_ ?_ ?_); (focus kernel_rfl); (focus kernel_rfl); (focus kernel_rfl))
 | (with_reducible first | refine aP 7 [] ?_ | refine aP 8 [] ?_))
 | ((with_reducible show AW _ (Code.loop _) _ _); first
 | ((with_reducible refine aL (c := (Code.seq (Code.seq (Code.region 4 _ _) _) _)) (ι := Nat) [0,1] (fun i => [(5, iA .i64 (i : Int))]) (fun i => []) (fun i => i <= n /\ (∀ i', i' < i -> qY (f i') (g i') = true)) (fun i => n - i) 0 ?lg4 ?l14 ?l24 ?li4 ?lr4); (case' lg4 => rintro i _); (case' li4 => try (exact ⟨Nat.zero_le _, fun i hi => absurd hi (Nat.not_lt_zero _)⟩)); (case' lr4 => rintro i ⟨hi, hai⟩ KR hR4; simp only [bI, dI, hset, lk, if_true, if_false, xE, reduceIte, zN]))))
 | ((first | (with_reducible refine And.intro ?_ ?_) | (with_reducible refine Need.mk ?_)); focus (first | exact True.intro | omega))
 | (with_reducible refine aJ ?_)
 | ((with_reducible show bL _ _ _ _ _ _); first
 | ((with_reducible refine aM ?_ ?_) <;> (intro hc; (try simp only [zB, zC, reduceCtorEq] at hc); (try (exfalso; contradiction)))))
 | ((with_reducible refine And.intro ?_ ?_); focus ((with_reducible show gW _ _ _ = true); kernel_rfl))
 | ((with_reducible show eu _ _ _ _ _ _ _ _ _ _ _ _ _); first
 | (refine cB (k := 141) Ic (aic (f i) (g i) (hf i (by omega)) (hg i (by omega))) ?_ ?_))
 | ((with_reducible refine hR4 _ (i + 1) ?_); (try clear hR4 KR))
 | ((with_reducible refine Told.mk ?_); simp only [go_sem, reduceIte, reduceCtorEq, xA, xL, xD, xE, xM, xS, xB] <;> ((((try simp (disch := omega) only [aV, Int.natCast_add, Int.cast_ofNat_Int, and_true, true_and, and_self]); (repeat' (first | omega | (with_reducible refine And.intro ?_ ?_) | (exact all_succ (by assumption) (by assumption)) )); done))))
 | ((fail_if_success (with_reducible show AW _ _ _ _)); simp (maxSteps := 2000000) only [go_sem, reduceIte, reduceCtorEq, xA, xL, xD, xE, xM, xS, xB, Tryz.f104])
 | ((with_reducible refine hK _ ?_); clear hK K)
 | (with_reducible apply_assumption -exfalso only [*]))
  all_goals first | exact VU (by assumption) | exact ZN (by assumption) hc | exact Xn (by omega) (by assumption) hai | skip
theorem alB (a b : ah) (ha : a.Ok) (hb : b.Ok) : aA Tryz.prog 50 [.agg [.g (.int .i64 a.oc), .g (.int .i64 a.nu), .g (.int .i64 a.kd), .g (.int .i64 a.fr), .g (.int .i64 a.un), .g (.int .i64 a.ca), .lst 3 a.n (dK a.p)], .agg [.g (.int .i64 b.oc), .g (.int .i64 b.nu), .g (.int .i64 b.kd), .g (.int .i64 b.fr), .g (.int .i64 b.un), .g (.int .i64 b.ca), .lst 3 b.n (dK b.p)]] (.t (.one (.g (.bool (vk a b))))) := by
  have hna := ha.n
  have hnb := hb.n
  refine ak Tryz.func50 rfl (by rw [Tryz.ntmps50]; simp) ?_
  simp only [Tryz.ntmps50, zM, PT.tv, au, Nat.zero_add, Nat.reduceAdd]
  repeat' (first
 | ((with_reducible show AW _ _ _ _); first
 | (with_reducible first | refine aS (fun K hK => ?_) | refine aI ?_ | refine aX ?_ | refine aT ?_ | refine aC ?_ | refine aB ?_)
 | (first
 | (with_reducible first | refine aP 0 [0,1] ?_ | refine aP 1 [2,3] ?_ | refine aP 2 [] ?_ | refine aP 3 [2,3] ?_ | refine aP 4 [2,3,5] ?_ | refine aP 5 [2,3,5] ?_ | refine aP 6 [2,3,5] ?_ | refine aP 7 [2,3,5,6] ?_ | refine aP 8 [2,3,5,6,7] ?_ | refine aP 9 [] ?_ | refine aP 10 [] ?_))
 | ((with_reducible show AW _ (Code.loop _) _ _); first
 | ((with_reducible refine aL (c := (Code.seq (Code.seq (Code.region 4 _ _) _) _)) (ι := Nat) [2,3] (fun i => [(5, iA .i64 (i : Int))]) (fun i => []) (fun i => i <= a.n /\ (∀ j, j < i -> vQ (a.p j) (b.p j) = true)) (fun i => a.n - i) 0 ?lg4 ?l14 ?l24 ?li4 ?lr4); (case' lg4 => rintro i _); (case' li4 => try (exact ⟨Nat.zero_le _, fun i hi => absurd hi (Nat.not_lt_zero _)⟩)); (case' lr4 => rintro i ⟨hi, hai⟩ KR hR4; simp only [bI, dI, hset, lk, if_true, if_false, xE, reduceIte, zN]))))
 | ((first | (with_reducible refine And.intro ?_ ?_) | (with_reducible refine Need.mk ?_)); focus (first | omega | (intro _; (with_reducible assumption)) | (simp; done)))
 | (with_reducible refine aJ ?_)
 | ((with_reducible show bL _ _ _ _ _ _); first
 | ((with_reducible refine aM ?_ ?_) <;> (intro hc; (try simp only [zB, zC, reduceCtorEq] at hc); (try (exfalso; contradiction)))))
 | ((with_reducible show bG _ _ _ _ _ _ _ _ _ _); first
 | (refine aO (k := 103) JC (fun hg => ah7 _ _ _ _ (ha.p i (by omega)).q (hb.p i (by omega)).q) ?_ ?_)
 | (refine aO (k := 104) Jd (fun hg => aiG _ _ _ _ (ha.p i (by omega)).k (hb.p i (by omega)).k (ha.p i (by omega)).o (hb.p i (by omega)).o) ?_ ?_))
 | ((with_reducible refine hR4 _ (i + 1) ?_); (try clear hR4 KR))
 | ((with_reducible refine Told.mk ?_); simp only [go_sem, reduceIte, reduceCtorEq, xA, xL, xD, xE, xM, xS, xB, bn] <;> ((((try simp (disch := omega) only [aV, Int.natCast_add, Int.cast_ofNat_Int, and_true, true_and, and_self]); (repeat' (first | omega | (with_reducible refine And.intro ?_ ?_) | ((exact all_succ (by assumption) (af9 (by assumption)))))); done))))
 | ((fail_if_success (with_reducible show AW _ _ _ _)); simp (maxSteps := 2000000) only [go_sem, reduceIte, reduceCtorEq, xA, xL, xD, xE, xM, xS, xB, Tryz.f50, bn])
 | ((with_reducible refine hK _ ?_); clear hK K)
 | (with_reducible apply_assumption -exfalso only [*]))
  all_goals first | exact hc.elim afC amM | (rw [<- afy (by omega)]; first | exact Uf (by assumption) (aju (by assumption)) | exact VT (by omega) (by assumption) hai) | skip
theorem akc (n m : Nat) (f g : Nat -> fE) (hn : n <= 9223372036854775807) (hm : m <= 9223372036854775807) (hf : ∀ i, i < n -> (f i).f.Ok) (hg : ∀ i, i < m -> (g i).f.Ok) : aA Tryz.prog 57 [.one (.lst 16 n (iR f)), .one (.lst 16 m (iR g)), .one (.g (.func (.func 58) #[] #[]))] (.t (.one (.g (.bool (EX n m f g))))) := by
  refine ak Tryz.func57 rfl (by rw [Tryz.ntmps57]; simp) ?_
  simp only [Tryz.ntmps57, zM, PT.tv, au, Nat.zero_add, Nat.reduceAdd]
  repeat' (first
 | ((with_reducible show AW _ _ _ _); first
 | (with_reducible first | refine aS (fun K hK => ?_) | refine aI ?_ | refine aX ?_ | refine aT ?_ | refine aC ?_ | refine aB ?_)
 | (first
 | (with_reducible first | refine aP 0 [0,1,2] ?_ | refine aP 1 [0,1,2] ?_ | refine aP 2 [] ?_ | refine aP 3 [0,1,2] ?_ | refine aP 4 [1,2,15,16,17] ?_ | refine aP 5 [1,2,15,16,17] ?_ | refine aP 6 [1,2,7,8,15,16,17] ?_ | refine aP 7 [1,2,8,9,15,16,17] ?_ | refine aP 8 [] ?_ | refine aP 9 [1,2,15,16,17] ?_ | refine aP 10 [] ?_))
 | ((with_reducible show AW _ (Code.loop _) _ _); first
 | ((with_reducible refine aL (c := (Code.seq (Code.region 4 _ _) _)) (ι := Nat) [1,2,15,16] (fun i => [(17, iA .i64 (i : Int))]) (fun i => []) (fun i => i <= n /\ (∀ i', i' < i -> qY (f i') (g i') = true)) (fun i => n - i) 0 ?lg4 ?l14 ?l24 ?li4 ?lr4); (case' lg4 => rintro i _); (case' li4 => try (exact ⟨Nat.zero_le _, fun i hi => absurd hi (Nat.not_lt_zero _)⟩)); (case' lr4 => rintro i ⟨hi, hai⟩ KR hR4; simp only [bI, dI, hset, lk, if_true, if_false, xE, reduceIte, zN]))))
 | ((first | (with_reducible refine And.intro ?_ ?_) | (with_reducible refine Need.mk ?_)); focus (first | exact True.intro | omega))
 | (with_reducible refine aJ ?_)
 | ((with_reducible show bL _ _ _ _ _ _); first
 | ((with_reducible refine aM ?_ ?_) <;> (intro hc; (try simp only [zB, zC, reduceCtorEq] at hc); (try (exfalso; contradiction)))))
 | ((with_reducible show aQ _ _ _ _ _ _ _ _ _ _); first
 | (refine aF (k := 58) ER (afF (f i) (g i) (hf i (by omega)) (hg i (by omega))) ?_ ?_))
 | ((with_reducible refine hR4 _ (i + 1) ?_); (try clear hR4 KR))
 | ((with_reducible refine Told.mk ?_); simp only [go_sem, reduceIte, reduceCtorEq, xA, xL, xD, xE, xM, xS, xB] <;> ((((try simp (disch := omega) only [aV, Int.natCast_add, Int.cast_ofNat_Int, and_true, true_and, and_self]); (repeat' (first | omega | (with_reducible refine And.intro ?_ ?_) | (exact all_succ (by assumption) (by assumption)) )); done))))
 | ((fail_if_success (with_reducible show AW _ _ _ _)); simp (maxSteps := 2000000) only [go_sem, reduceIte, reduceCtorEq, xA, xL, xD, xE, xM, xS, xB, Tryz.f57])
 | ((with_reducible refine hK _ ?_); clear hK K)
 | (with_reducible apply_assumption -exfalso only [*]))
  all_goals first | exact VU (by assumption) | exact ZN (by assumption) hc | exact Xn (by omega) (by assumption) hai | skip
theorem adt (p q : eH) (hp : p.Ok) (hq : q.Ok) : aA Tryz.prog 55 [.agg [.g (.int .i64 p.ch), .lst 1 p.q (bn p.a), .lst 16 p.k (iR p.o)], .agg [.g (.int .i64 q.ch), .lst 1 q.q (bn q.a), .lst 16 q.k (iR q.o)]] (.t (.one (.g (.bool (vQ p q))))) := by
  refine ak Tryz.func55 rfl (by rw [Tryz.ntmps55]; simp) ?_
  simp only [Tryz.ntmps55, zM, PT.tv, au, Nat.zero_add, Nat.reduceAdd]
  repeat' (first
 | ((with_reducible show AW _ _ _ _); first
 | (with_reducible first | refine aS (fun K hK => ?_) | refine aT ?_)
 | (first
 | (with_reducible first | refine aP 0 [0,1] ?_ | refine aP 1 [2,3] ?_)))
 | (((with_reducible refine Need.mk ?_)); focus ((intro _; (with_reducible assumption))))
 | (with_reducible refine aJ ?_)
 | ((with_reducible show bG _ _ _ _ _ _ _ _ _ _); first
 | (refine aO (k := 56) Pp (fun hg => alT _ _ _ _ hp.q hq.q) ?_ ?_)
 | (refine aO (k := 57) NM (fun hg => akc _ _ _ _ hp.k hq.k hp.o hq.o) ?_ ?_))
 | ((fail_if_success (with_reducible show AW _ _ _ _)); simp (maxSteps := 2000000) only [go_sem, reduceIte, reduceCtorEq, xA, xL, xD, xE, xM, xS, xB, Tryz.f55, bn])
 | ((with_reducible refine hK _ ?_); clear hK K))
  all_goals (unfold vQ; rfl)
theorem amI (n m : Nat) (f g : Nat -> eH) (hn : n <= 9223372036854775807) (hm : m <= 9223372036854775807) (hf : ∀ i, i < n -> (f i).Ok) (hg : ∀ i, i < m -> (g i).Ok) : aA Tryz.prog 54 [.one (.lst 3 n (dK f)), .one (.lst 3 m (dK g)), .one (.g (.func (.func 55) #[] #[]))] (.t (.one (.g (.bool (MV n m f g))))) := by
  refine ak Tryz.func54 rfl (by rw [Tryz.ntmps54]; simp) ?_
  simp only [Tryz.ntmps54, zM, PT.tv, au, Nat.zero_add, Nat.reduceAdd]
  repeat' (first
 | ((with_reducible show AW _ _ _ _); first
 | (with_reducible first | refine aS (fun K hK => ?_) | refine aI ?_ | refine aX ?_ | refine aT ?_ | refine aC ?_ | refine aB ?_)
 | (first
 | (with_reducible first | refine aP 0 [0,1,2] ?_ | refine aP 1 [0,1,2] ?_ | refine aP 2 [] ?_ | refine aP 3 [0,1,2] ?_ | refine aP 4 [1,2,15,16,17] ?_ | refine aP 5 [1,2,15,16,17] ?_ | refine aP 6 [1,2,7,8,15,16,17] ?_ | refine aP 7 [1,2,8,9,15,16,17] ?_ | refine aP 8 [] ?_ | refine aP 9 [1,2,15,16,17] ?_ | refine aP 10 [] ?_))
 | ((with_reducible show AW _ (Code.loop _) _ _); first
 | ((with_reducible refine aL (c := (Code.seq (Code.region 4 _ _) _)) (ι := Nat) [1,2,15,16] (fun i => [(17, iA .i64 (i : Int))]) (fun i => []) (fun i => i <= n /\ (∀ i', i' < i -> vQ (f i') (g i') = true)) (fun i => n - i) 0 ?lg4 ?l14 ?l24 ?li4 ?lr4); (case' lg4 => rintro i _); (case' li4 => try (exact ⟨Nat.zero_le _, fun i hi => absurd hi (Nat.not_lt_zero _)⟩)); (case' lr4 => rintro i ⟨hi, hai⟩ KR hR4; simp only [bI, dI, hset, lk, if_true, if_false, xE, reduceIte, zN]))))
 | ((first | (with_reducible refine And.intro ?_ ?_) | (with_reducible refine Need.mk ?_)); focus (first | exact True.intro | omega))
 | (with_reducible refine aJ ?_)
 | ((with_reducible show bL _ _ _ _ _ _); first
 | ((with_reducible refine aM ?_ ?_) <;> (intro hc; (try simp only [zB, zC, reduceCtorEq] at hc); (try (exfalso; contradiction)))))
 | ((with_reducible show aQ _ _ _ _ _ _ _ _ _ _); first
 | (refine aF (k := 55) abd (adt (f i) (g i) (hf i (by omega)) (hg i (by omega))) ?_ ?_))
 | ((with_reducible refine hR4 _ (i + 1) ?_); (try clear hR4 KR))
 | ((with_reducible refine Told.mk ?_); simp only [go_sem, reduceIte, reduceCtorEq, xA, xL, xD, xE, xM, xS, xB, bn] <;> ((((try simp (disch := omega) only [aV, Int.natCast_add, Int.cast_ofNat_Int, and_true, true_and, and_self]); (repeat' (first | omega | (with_reducible refine And.intro ?_ ?_) | (exact all_succ (by assumption) (by assumption)) )); done))))
 | ((fail_if_success (with_reducible show AW _ _ _ _)); simp (maxSteps := 2000000) only [go_sem, reduceIte, reduceCtorEq, xA, xL, xD, xE, xM, xS, xB, Tryz.f54, bn])
 | ((with_reducible refine hK _ ?_); clear hK K)
 | (with_reducible apply_assumption -exfalso only [*]))
  all_goals first | exact XL (by assumption) | exact Uf (by assumption) hc | exact VT (by omega) (by assumption) hai | skip
theorem aiD (a b : ah) (ha : a.Ok) (hb : b.Ok) : aA Tryz.prog 19 [.agg [.g (.int .i64 a.oc), .g (.int .i64 a.nu), .g (.int .i64 a.kd), .g (.int .i64 a.fr), .g (.int .i64 a.un), .g (.int .i64 a.ca), .lst 3 a.n (dK a.p)], .agg [.g (.int .i64 b.oc), .g (.int .i64 b.nu), .g (.int .i64 b.kd), .g (.int .i64 b.fr), .g (.int .i64 b.un), .g (.int .i64 b.ca), .lst 3 b.n (dK b.p)]] (.t (.one (.g (.bool (vk a b))))) := by
  refine ak Tryz.func19 rfl (by rw [Tryz.ntmps19]; simp) ?_
  simp only [Tryz.ntmps19, zM, PT.tv, au, Nat.zero_add, Nat.reduceAdd]
  repeat' (first
 | ((with_reducible show AW _ _ _ _); first
 | (with_reducible first | refine aS (fun K hK => ?_) | refine aI ?_ | refine aT ?_ | refine aC ?_)
 | (first
 | (with_reducible first | refine aP 0 [0,1] ?_ | refine aP 1 [2,3] ?_ | refine aP 2 [] ?_ | refine aP 3 [2,3] ?_)))
 | ((first | (with_reducible refine And.intro ?_ ?_) | (with_reducible refine Need.mk ?_)); focus (first | exact True.intro | (simp; done)))
 | (with_reducible refine aJ ?_)
 | ((with_reducible show bL _ _ _ _ _ _); first
 | ((with_reducible refine aM ?_ ?_) <;> (intro hc; (try simp only [zB, zC, reduceCtorEq] at hc); (try (exfalso; contradiction)))))
 | ((with_reducible show aQ _ _ _ _ _ _ _ _ _ _); first
 | (refine aF (k := 54) NY (amI _ _ _ _ ha.n hb.n ha.p hb.p) ?_ ?_))
 | ((fail_if_success (with_reducible show AW _ _ _ _)); simp (maxSteps := 2000000) only [go_sem, reduceIte, reduceCtorEq, xA, xL, xD, xE, xM, xS, xB, Tryz.f19, bn])
 | ((with_reducible refine hK _ ?_); clear hK K))
  all_goals first | exact afC (by assumption) | exact afy (by assumption) | skip
end Go.Proofs.YtcfechepbamhkaaGreat
set_option maxRecDepth 100000
set_option maxHeartbeats 4000000
namespace Go.Proofs.YtcfechepbamhkaaGreat
open Go.RowKit Go.Sea
open Nat renaming reduceAdd -> xA, reduceLT -> xL, reduceLeDiff -> xD, reduceEqDiff -> xE, reduceMul -> xM, reduceSub -> xS, reduceBEq -> xB
theorem kG : aN Tryz.prog 45 = true := by kernel_rfl
theorem aa4 : aN Tryz.prog 74 = true := by kernel_rfl
attribute [go_sem] kG aa4
theorem AY {f : aj} {ch : Int} (h : jL f ch = 0) : asV f ch = (jA f ch : Int) /\ jA f ch < f.k /\ (f.S (jA f ch)).ch = ch /\ fK f = true := by
  unfold jL at h
  split at h
  · rename_i hb
    split at h
    · cases h
    · rename_i hp
      have hlt : jA f ch < f.k := by
        unfold Oa at hp
        split at hp
        · assumption
        · omega
      refine ⟨?_, hlt, of_decide_eq_true ((jD (b := fun i => decide ((f.S i).ch = ch)) (k := f.k)).2 hlt), ?_⟩
      · unfold asV; rw [if_pos hb, if_neg hp]; unfold Oa; rw [if_pos hlt]
      · unfold asB at hb; simp only [Bool.and_eq_true] at hb; exact hb.1
  · cases h
def jZ (f : aj) (ch : Int) : aH := if jL f ch = 0 then f.S (jA f ch) else bq
theorem amy {f : aj} {ch : Int} (h : jL f ch ≠ 0) : jZ f ch = bq := by unfold jZ; rw [if_neg h]
theorem afE {f : aj} {ch : Int} (h : jL f ch = 0) : jZ f ch = f.S (jA f ch) := by unfold jZ; rw [if_pos h]
def Qv (s : aH) (N : Nat -> ah) : Nat -> List Int
  | 0 => []
  | i + 1 => if nJ s (N i) = true then Qv s N i ++ [(N i).nu] else Qv s N i
theorem JN (s : aH) (N : Nat -> ah) : Qv s N 0 = [] := rfl
theorem afp {s : aH} {N : Nat -> ah} {i : Nat} (h : nJ s (N i) = true) : Qv s N (i + 1) = Qv s N i ++ [(N i).nu] := by show (if _ then _ else _) = _; rw [if_pos h]
theorem afN {s : aH} {N : Nat -> ah} {i : Nat} (h : nJ s (N i) = false) : Qv s N (i + 1) = Qv s N i := by show (if _ then _ else _) = _; rw [if_neg (by rw [h]; simp)]
theorem MZ (s : aH) (N : Nat -> ah) : ∀ i, (Qv s N i).length <= i
  | 0 => Nat.le_refl _
  | i + 1 => by
    have := MZ s N i
    show (if _ then _ else _ : List Int).length <= _
    split
    · simp; omega
    · omega
def wL (f : aj) (ch : Int) : List Int := if jL f ch = 0 then Qv (f.S (jA f ch)) f.N f.n else []
theorem aj0 {f : aj} {ch : Int} (h : jL f ch ≠ 0) : wL f ch = [] := by unfold wL; rw [if_neg h]
theorem ajC {f : aj} {ch : Int} (h : jL f ch = 0) : wL f ch = Qv (f.S (jA f ch)) f.N f.n := by unfold wL; rw [if_pos h]
theorem anJ {s : aH} {N : ah} (h : kD N s.ch = true /\ gq s.q s.dn N.nu = false) : nJ s N = true := Vv h
theorem alv {s : aH} {N : ah} (h : kD N s.ch = false \/ gq s.q s.dn N.nu = true) : nJ s N = false := by
  unfold nJ; rcases h with h | h <;> rw [h] <;> simp
theorem aly (f : aj) (hf : f.Ok) (ch : Int) (h0 : jL f ch ≠ 0) : aA Tryz.prog 21 [jJ f, .one (.g (.int .i64 ch))] (.tup [.agg [.g (.int .i64 (jZ f ch).ch), .g (.int .i64 (jZ f ch).sc), .g (.int .i64 (jZ f ch).ed), .g (.int .i64 (jZ f ch).m.A), .g (.int .i64 (jZ f ch).m.B), .g (.int .i64 (jZ f ch).m.C), .g (.int .i64 (jZ f ch).m.D), .g (.int .i64 (jZ f ch).m.E), .g (.int .i64 (jZ f ch).m.F), .g (.int .i64 (jZ f ch).m.R), .g (.int .i64 (jZ f ch).cap), .lst 1 (jZ f ch).q (bn (jZ f ch).dn), .lst 9 (jZ f ch).n (dN (jZ f ch).f)], .one (.g (.int .i64 (jL f ch)))]) := by
  refine ak Tryz.func21 rfl (by rw [Tryz.ntmps21]; simp) ?_
  simp only [Tryz.ntmps21, zM, PT.tv, au, Nat.zero_add, Nat.reduceAdd]
  repeat' (first
 | ((with_reducible show AW _ _ _ _); first
 | (with_reducible first | refine aS (fun K hK => ?_) | refine aT ?_ | refine aC ?_)
 | (first
 | (with_reducible first | refine aP 0 [0,1] ?_ | refine aP 1 [1,2,4] ?_ | refine aP 2 [2,4,6,7] ?_ | refine aP 3 [4,7] ?_)))
 | ((first | (with_reducible refine And.intro ?_ ?_) | (with_reducible refine Need.mk ?_)); focus (exact True.intro))
 | (with_reducible refine aJ ?_)
 | ((with_reducible show bL _ _ _ _ _ _); first
 | ((with_reducible refine aM ?_ ?_) <;> (intro hc; (try simp only [zB, zC, reduceCtorEq] at hc); (try (exfalso; contradiction)))))
 | ((with_reducible show aQ _ _ _ _ _ _ _ _ _ _); first
 | (refine aF (k := 45) kG (oD f hf ch) ?_ ?_))
 | ((fail_if_success (with_reducible show AW _ _ _ _)); simp (maxSteps := 2000000) only [go_sem, reduceIte, reduceCtorEq, xA, xL, xD, xE, xM, xS, xB, Tryz.f21, bR, bP, bV, bU, bX, bY, bQ, bS, bW, bT, bC, bB, bF, bn, h0])
 | ((with_reducible refine hK _ ?_); clear hK K))
  all_goals (rw [amy h0]; (repeat' (first | exact rfl | (with_reducible refine And.intro ?_ ?_))))
theorem alu (f : aj) (hf : f.Ok) (ch : Int) (h0 : jL f ch = 0) : aA Tryz.prog 21 [jJ f, .one (.g (.int .i64 ch))] (.tup [.agg [.g (.int .i64 (jZ f ch).ch), .g (.int .i64 (jZ f ch).sc), .g (.int .i64 (jZ f ch).ed), .g (.int .i64 (jZ f ch).m.A), .g (.int .i64 (jZ f ch).m.B), .g (.int .i64 (jZ f ch).m.C), .g (.int .i64 (jZ f ch).m.D), .g (.int .i64 (jZ f ch).m.E), .g (.int .i64 (jZ f ch).m.F), .g (.int .i64 (jZ f ch).m.R), .g (.int .i64 (jZ f ch).cap), .lst 1 (jZ f ch).q (bn (jZ f ch).dn), .lst 9 (jZ f ch).n (dN (jZ f ch).f)], .one (.g (.int .i64 (jL f ch)))]) := by
  have hn := hf.n
  have hk := hf.k
  have ha := AY h0
  have ha1 := ha.1
  have ha2 := ha.2.1
  have hn2 := (mM (iB ha.2.2.2).2.2).1
  refine ak Tryz.func21 rfl (by rw [Tryz.ntmps21]; simp) ?_
  simp only [Tryz.ntmps21, zM, PT.tv, au, Nat.zero_add, Nat.reduceAdd]
  repeat' (first
 | ((with_reducible show AW _ _ _ _); first
 | (with_reducible first | refine aS (fun K hK => ?_) | refine aI ?_ | refine aT ?_ | refine aC ?_)
 | (first
 | (with_reducible first | refine aP 0 [0,1] ?_ | refine aP 1 [1,2,4] ?_ | refine aP 2 [2,4,6,7] ?_ | refine aP 4 [2,4,6] ?_)))
 | ((first | (with_reducible refine And.intro ?_ ?_) | (with_reducible refine Need.mk ?_)); focus (first | exact True.intro | omega))
 | (with_reducible refine aJ ?_)
 | ((with_reducible show bL _ _ _ _ _ _); first
 | ((with_reducible refine aM ?_ ?_) <;> (intro hc; (try simp only [zB, zC, reduceCtorEq] at hc); (try (exfalso; contradiction)))))
 | ((with_reducible show aQ _ _ _ _ _ _ _ _ _ _); first
 | (refine aF (k := 45) kG (oD f hf ch) ?_ ?_))
 | ((fail_if_success (with_reducible show AW _ _ _ _)); simp (maxSteps := 2000000) only [go_sem, reduceIte, reduceCtorEq, xA, xL, xD, xE, xM, xS, xB, Tryz.f21, bR, bP, bV, bU, bX, bY, bQ, bS, bW, bT, bC, bB, bF, bn, h0, ha1])
 | ((with_reducible refine hK _ ?_); clear hK K))
  all_goals (rw [afE h0]; (repeat' (first | exact rfl | (with_reducible refine And.intro ?_ ?_) | (intro i q hi hq; exact IV.bf _) | (intro i q hi hq; exact rfl))))
theorem afP (f : aj) (hf : f.Ok) (ch : Int) : aA Tryz.prog 21 [jJ f, .one (.g (.int .i64 ch))] (.tup [.agg [.g (.int .i64 (jZ f ch).ch), .g (.int .i64 (jZ f ch).sc), .g (.int .i64 (jZ f ch).ed), .g (.int .i64 (jZ f ch).m.A), .g (.int .i64 (jZ f ch).m.B), .g (.int .i64 (jZ f ch).m.C), .g (.int .i64 (jZ f ch).m.D), .g (.int .i64 (jZ f ch).m.E), .g (.int .i64 (jZ f ch).m.F), .g (.int .i64 (jZ f ch).m.R), .g (.int .i64 (jZ f ch).cap), .lst 1 (jZ f ch).q (bn (jZ f ch).dn), .lst 9 (jZ f ch).n (dN (jZ f ch).f)], .one (.g (.int .i64 (jL f ch)))]) := by
  by_cases h0 : jL f ch = 0
  · exact alu f hf ch h0
  · exact aly f hf ch h0
theorem akU (f : aj) (hf : f.Ok) (ch : Int) (h0 : jL f ch ≠ 0) : aA Tryz.prog 13 [jJ f, .one (.g (.int .i64 ch))] (.tup [.one (.lst 1 (wL f ch).length (bn (zL (wL f ch)))), .one (.g (.int .i64 (jL f ch)))]) := by
  refine ak Tryz.func13 rfl (by rw [Tryz.ntmps13]; simp) ?_
  simp only [Tryz.ntmps13, zM, PT.tv, au, Nat.zero_add, Nat.reduceAdd]
  repeat' (first
 | ((with_reducible show AW _ _ _ _); first
 | (with_reducible first | refine aS (fun K hK => ?_) | refine aT ?_ | refine aC ?_)
 | ((with_reducible first | refine aP 0 [0,1,27] ?_ | refine aP 1 [1,2,27] ?_ | refine aP 2 [2,6,7,27] ?_ | refine aP 3 [7] ?_)))
 | (((with_reducible refine Need.mk ?_)); focus (exact True.intro))
 | (with_reducible refine aJ ?_)
 | ((with_reducible show bL _ _ _ _ _ _); first
 | ((with_reducible refine aM ?_ ?_) <;> (intro hc; (try simp only [zB, zC, reduceCtorEq] at hc); (try (exfalso; contradiction)))))
 | ((with_reducible show aQ _ _ _ _ _ _ _ _ _ _); first
 | (refine aF (k := 45) kG (oD f hf ch) ?_ ?_))
 | ((fail_if_success (with_reducible show AW _ _ _ _)); simp (maxSteps := 2000000) only [go_sem, reduceIte, reduceCtorEq, xA, xL, xD, xE, xM, xS, xB, Tryz.f13, bR, bP, bV, bU, bX, bY, bQ, bS, bW, bT, bC, bB, bF, bn, h0])
 | ((with_reducible refine hK _ ?_); clear hK K))
  all_goals (rw [aj0 h0]; (repeat' (exact rfl)))
theorem alE (f : aj) (hf : f.Ok) (ch : Int) (h0 : jL f ch = 0) : aA Tryz.prog 13 [jJ f, .one (.g (.int .i64 ch))] (.tup [.one (.lst 1 (wL f ch).length (bn (zL (wL f ch)))), .one (.g (.int .i64 (jL f ch)))]) := by
  have hn := hf.n
  have hk := hf.k
  have ha := AY h0
  have ha1 := ha.1
  have ha2 := ha.2.1
  have hn2 := (mM (iB ha.2.2.2).2.2).1
  refine ak Tryz.func13 rfl (by rw [Tryz.ntmps13]; simp) ?_
  simp only [Tryz.ntmps13, zM, PT.tv, au, Nat.zero_add, Nat.reduceAdd]
  repeat' (first
 | ((refine iV ?_ ?_) <;> (intro hc; (try rw [hc]); (try simp only [zB, zC, reduceCtorEq] at hc); (try (exfalso; contradiction))))
 | ((with_reducible show AW _ _ _ _); first
 | (with_reducible first | refine aS (fun K hK => ?_) | refine aI ?_ | refine aX ?_ | refine aT ?_ | refine aC ?_ | refine aB ?_)
 | ((refine eT (k := 91) rfl Tryz.func91 rfl zX (by rw [Tryz.ntmps91]; simp) ?_ ?_ (fun l hlne A B hA hB => ?_)); (focus (simp (maxSteps := 2000000) only [go_sem, reduceIte, reduceCtorEq, xA, xL, xD, xE, xM, xS, xB, Tryz.f13, Tryz.f91, Tryz.f46, bR, bP, bV, bU, bX, bY, bQ, bS, bW, bT, bC, bB, bF, bn, h0, ha1, JN, bH, fH, bg, maxLen, List.length_append]; try exact True.intro)); (focus (simp (maxSteps := 2000000) only [go_sem, reduceIte, reduceCtorEq, xA, xL, xD, xE, xM, xS, xB, Tryz.f13, Tryz.f91, Tryz.f46, bR, bP, bV, bU, bX, bY, bQ, bS, bW, bT, bC, bB, bF, bn, h0, ha1, JN, bH, fH, bg, maxLen, List.length_append]; try exact True.intro)); simp only [Tryz.ntmps91, List.map_cons, List.map_nil, LV.tv, au, yV, Nat.zero_add, Nat.reduceAdd]; clear hlne)
 | (with_reducible refine u7 (by assumption) ?_)
 | (first
 | (with_reducible first | refine aP 0 [0,1,2,27] ?_ | refine aP (ops := #[⟨some 11, _, _, _, _, _⟩, _, _, _, _, _, _, _]) 1 [1,2,27] ?_ | refine aP (ops := #[⟨some 9, _, _, _, _, _⟩]) 1 [0,2,6,7,8] ?_ | refine aP (ops := #[⟨some 5, _, _, _, _, _⟩, _]) 1 [2,3] ?_ | refine aP (ops := #[⟨some 16, _, _, _, _, _⟩, _]) 2 [2,6,7,27] ?_ | refine aP (ops := #[⟨some 10, _, _, _, _, _⟩, _, _, _]) 2 [0,2,6,7,8] ?_ | refine aP (ops := #[⟨some 12, _, _, _, _, _⟩, _, _, _, _, _, _, _, _, _, _, _, _, _, _, _, _, _]) 3 [0,2,5,6,7,8] ?_ | refine aP (ops := #[⟨some 8, _, _, _, _, _⟩]) 4 [2,6,27] ?_ | refine aP (ops := #[⟨some 30, _, _, _, _, _⟩, _]) 4 [0,2,6,7,8] ?_)
 | ((with_reducible refine aR (c := Code.region 5 _ true) [2,6,8,27] ?_); (with_reducible refine mH 7 ?_ ?_ ?_ ?_ ?_); (focus kernel_rfl); (focus kernel_rfl); (focus kernel_rfl); (focus kernel_rfl))
 | (with_reducible first | refine aP 6 [8,27] ?_ | refine aP 7 [8,9,27] ?_ | refine vH (c := Code.region 8 _ false) [4] ?_ (aP 8 [8] ?_)))
 | ((with_reducible show AW _ (Code.loop _) _ _); first
 | ((with_reducible refine aL (c := (Code.seq (Code.region 1 _ _) _)) (ι := Nat) [0,2,6,7] (fun i => [(8, iA .i64 (i : Int))]) (fun i => [(1, [.slc 4 0 (Qv (f.S (jA f ch)) f.N i).length 1]), (4, dX (Qv (f.S (jA f ch)) f.N i))]) (fun i => i <= f.n) (fun i => f.n - i) 0 ?lg1 ?l11 ?l21 ?li1 ?lr1); (case' lg1 => rintro i _); (case' li1 => try (omega)); (case' lr1 => rintro i hi KR hR1; have oL := MZ (f.S (jA f ch)) f.N i; simp only [bI, dI, hset, lk, if_true, if_false, xE, reduceIte, zN, bR, bP, bV, bU, bX, bY, bQ, bS, bW, bT, bC, bB, bF, h0, ha1, JN, bH, fH, bg, maxLen, List.length_append]))))
 | ((first | (with_reducible refine And.intro ?_ ?_) | (with_reducible refine Need.mk ?_)); focus (first | exact iO _ | first | exact True.intro | omega | (intro _; (with_reducible assumption))))
 | (with_reducible refine aJ ?_)
 | ((with_reducible show bL _ _ _ _ _ _); first
 | ((with_reducible refine aM ?_ ?_) <;> (intro hc; (try simp only [zB, zC, reduceCtorEq] at hc); ((try (have e0 : f.n = i := (by omega)))); (try (exfalso; contradiction)))))
 | ((with_reducible show ∀ _ : AS -> Prop, _ -> _); intro K hK)
 | ((with_reducible refine And.intro ?_ ?_); focus (((with_reducible show yZ _ _ _ _ = true); kernel_rfl)))
 | ((with_reducible show aQ _ _ _ _ _ _ _ _ _ _); first
 | (refine aF (k := 45) kG (oD f hf ch) ?_ ?_)
 | (refine aF (k := 70) qG (DF (f.N i) (f.S (jA f ch)).ch (hf.nn i (by omega))) ?_ ?_)
 | ((refine dA (k := 46) Tryz.func46 rfl tJ (by rw [Tryz.ntmps46]; simp) ?_ ?_ (fun K hK => ?_)); (focus (exact True.intro)); (focus ((simp [jF]; done))); simp only [Tryz.ntmps46, List.map_cons, List.map_nil, List.nil_append, List.cons_append, List.append_nil, LV.tv, au, Nat.zero_add, Nat.reduceAdd]))
 | ((with_reducible show bG _ _ _ _ _ _ _ _ _ _); first
 | (refine aO (k := 92) uK (fun hg => Hf (f.S (jA f ch)).q (f.S (jA f ch)).dn (f.N i).nu (hf.s _ (by omega)).q) ?_ ?_))
 | ((with_reducible refine hR1 _ (i + 1) ?_); (try clear hR1 KR))
 | ((with_reducible refine Told.mk ?_); simp only [go_sem, reduceIte, reduceCtorEq, xA, xL, xD, xE, xM, xS, xB, bR, bP, bV, bU, bX, bY, bQ, bS, bW, bT, bC, bB, bF, bn, h0, ha1, JN, bH, fH, bg, maxLen, List.length_append] <;> ((((try simp (disch := omega) only [aV, Int.natCast_add, Int.cast_ofNat_Int, and_true, true_and, and_self]); (repeat' (first | omega | rfl | (with_reducible refine And.intro ?_ ?_) | ((first | rw [afp (anJ (by assumption))] | rw [afN (alv (by assumption))])) | ((exact kY rfl (iO _))) | ((simp only [List.length_append, List.length_cons, List.length_nil, Nat.zero_add]; done)))); done))))
 | ((fail_if_success (with_reducible show AW _ _ _ _)); simp (maxSteps := 2000000) only [go_sem, reduceIte, reduceCtorEq, xA, xL, xD, xE, xM, xS, xB, Tryz.f13, Tryz.f91, Tryz.f46, bR, bP, bV, bU, bX, bY, bQ, bS, bW, bT, bC, bB, bF, bn, h0, ha1, JN, bH, fH, bg, maxLen, List.length_append])
 | ((with_reducible show aQ _ _ _ _ _ _ (.yld _) _ _ _); (refine lS (by simp only [EG, if_true]; exact rfl) ?_ (by simp) ?_ ?_ (fun K hK => ?_)); (focus (exact True.intro)); (focus (simp [ng])); (focus ((simp [jF]; done))); simp only [jm, gf, if_true, Nat.reduceAdd])
 | ((with_reducible refine hK _ ?_); clear hK K)
 | (with_reducible apply_assumption -exfalso only [*]))
  all_goals (have e0 : i = f.n := (by omega); subst e0; rw [ajC h0]; (repeat' (first | exact rfl | (with_reducible refine And.intro ?_ ?_) | (intro i q hi hq; exact ET _ i q hi hq))))
theorem aaw (f : aj) (hf : f.Ok) (ch : Int) : aA Tryz.prog 13 [jJ f, .one (.g (.int .i64 ch))] (.tup [.one (.lst 1 (wL f ch).length (bn (zL (wL f ch)))), .one (.g (.int .i64 (jL f ch)))]) := by
  by_cases h0 : jL f ch = 0
  · exact alE f hf ch h0
  · exact akU f hf ch h0
end Go.Proofs.YtcfechepbamhkaaGreat
namespace Go.Proofs.YtcfechepbamhkaaGreat
open Go.RowKit Go.Sea Go.Lib
theorem Tk : Tryz.prog.underlying 37 = some (.slice 64) := by kernel_rfl
theorem alH : (Tryz.prog.info? 64).map (fun i => (i.size, i.bytes, i.zero.map (·.cells.size))) = some (9, 104, some 9) := by kernel_rfl
set_option maxHeartbeats 4000000 in
set_option maxRecDepth 100000 in
set_option maxHeartbeats 2000000 in
theorem Ls (cap : Nat) (w : World) : Calls Tryz.prog 59 #[.slice none 0 cap] w fun e w' => e = .returned (.slice none 0 0) /\ w' = w := by
  have q : (binOp .eql 37 (.slice none 0 cap) (.slice none 0 0)).run Tryz.prog w = .ok (.bool true) w := run_eql_slice_nil w 37 64 none 0 cap Tk
  go_enter Tryz.func59, Tryz.ntmps59
  go_wp2
  go_ret
  exact ⟨rfl, rfl⟩
set_option maxHeartbeats 4000000 in
set_option maxRecDepth 100000 in
theorem yB (p : Addr) (n cap : Nat) (w w' : World) (u : Value) (h : ∀ ty, (Builtin.append_ #[37,37] ty #[.slice (some ⟨w.heap.size, 0, none⟩) 0 0, .slice (some p) n cap]).run Tryz.prog (w.alloc (.cells #[] 64)) = .ok u w') : Calls Tryz.prog 59 #[.slice (some p) n cap] w fun e w'' => e = .returned u /\ w'' = w' := by
  have q : (binOp .eql 37 (.slice (some p) n cap) (.slice none 0 0)).run Tryz.prog w = .ok (.bool false) w := run_eql_slice_nil w 37 64 (some p) n cap Tk
  go_enter Tryz.func59, Tryz.ntmps59
  go_wp2_with (at_builtin; refine Lib.wpList_append_run _ rfl _ _ _ _ rfl _ _ rfl rfl _ _ (h _) ?_)
  all_goals (go_ret; exact ⟨rfl, rfl⟩)
set_option maxHeartbeats 2000000 in
theorem Uq (n : Nat) (f : Nat -> Nat -> IV) (hn : n <= 1000) : l8 Tryz.prog 59 [.one (.iv (.lst 9 n f))] (eG f 9 n 0) (fun i => .t (.one (.slc i 0 n 9))) := by
  intro H i hH w0 Z0 J Z s a w vs R hs hv
  subst hs
  obtain ⟨vs⟩ := vs
  match vs, hv with
  | [v], ⟨hv, _⟩ =>
    have hv : Rd w Z v (.lst 9 n f) := hv
    have hlen : (eG f 9 n 0).length = n * 9 := gI f 9 n 0
    have empty : ∀ (p : Addr) (cap : Nat), n = 0 -> v = .slice (some p) 0 cap -> Calls Tryz.prog 59 #[v] w fun e w' => ∃ v J' Z', e = .returned v /\ Rel w0 Z0 J' Z' { s with heap := hset s.heap i (eG f 9 n 0) } a w' /\ bD w' J' Z' v (.t (.one (.slc i 0 n 9))) := fun p cap h0 ev => by
      subst h0; subst ev
      obtain ⟨ii, h33⟩ : ∃ ii, Tryz.prog.info? 64 = some ii := by
        have := alH
        cases h : Tryz.prog.info? 64 with
        | none => rw [h] at this; cases this
        | some i => exact ⟨i, rfl⟩
      refine (yB p 0 cap w _ _ fun ty => gX Tk h33 _ _ 0 0 cap (Nat.le_refl _)).mono fun e w' ⟨he, hw⟩ => ?_
      subst hw
      have R1 := R.new (nid := i) (cs := []) (c := #[]) (e := 64) (H := hset s.heap i []) hH (aG _ _ _) (fun q hq => aK _ _ _ _ hq) (by simp [aU])
      exact ⟨_, _, _, he, R1, Or.inr ⟨w.heap.size, 0, #[], 64, rfl, by simp [gy], Nat.zero_le _, Nat.zero_le _, heap_alloc_new w _, by simp⟩⟩
    have hv0 := hv
    cases hv with
    | nil p cap =>
      cases p with
      | none =>
        refine (Ls cap w).mono fun e w' ⟨he, hw⟩ => ?_
        subst hw
        exact ⟨_, J, Z, he, R.pV (nid := i) hH (by rw [aG]; rfl) (fun q hq => aK _ _ _ _ hq), Or.inl ⟨rfl, rfl⟩⟩
      | some p => exact empty p cap rfl rfl
    | lst b off _ cap _ _ X hz hc hm h1 h2 =>
      by_cases h0 : n = 0
      · exact empty ⟨b, off, none⟩ cap h0 (by rw [h0])
      · obtain ⟨hR1, G⟩ := R.call (mX w (.cells #[] 64))
        have hv1 : cu (w.alloc (.cells #[] 64)) J (fun b => Z b \/ (w.heap.size <= b /\ b < (w.alloc (.cells #[] 64)).heap.size)) (.slice (some ⟨b, off, none⟩) n cap) (.one (.iv (.lst 9 n f))) := bM.grow G (CV.bZ (.iv (.lst 9 n f))) hv0
        obtain ⟨ii, z, t1, t2, t3, t4, t5, t6, t7⟩ := gY (P := Tryz.prog) (t := 37) (e := 64) (n := 9) (b := 104) (by kernel_rfl)
        rcases ko hR1 (size := 9) (m := n) (nd := True) (x := .one (.iv (.lst 9 n f))) (ns := eG f 9 n 0) (by simp [x9]) trivial hv1 with ⟨h, _⟩ | ⟨hpos, b2, off2, cap2, news, e2, n1, n2, n3, n4⟩
        · exact absurd h h0
        · cases e2
          have hrun := fun ty => run_append_grow (P := Tryz.prog) (w.alloc (.cells #[] 64)) 37 ty 64 ii z t1 t2 t3 ⟨w.heap.size, 0, none⟩ 0 0 [] (by simp) (fun j v h => by simp at h) ⟨b, off, none⟩ n cap news (by rw [n1, t5]) n2 (by omega) (by omega) (by
            rw [t6]; exact growslice_fits (by omega) (by omega))
          simp only [Nat.zero_add] at hrun
          have hsz := grownCap_ge (w.alloc (.cells #[] 64)) n 0 64
          have hmx := grownCap_le_maxLen (w.alloc (.cells #[] 64)) n 0 64 (by unfold maxLen; omega)
          generalize grownCap (w.alloc (.cells #[] 64)) n 0 64 = G at hrun hsz hmx
          have hC : G * 9 <= (([] : List Value).toArray ++ news.toArray ++ Builtin.zeroCells z.cells (G - n)).size := by
            simp only [Array.size_append, size_zeroCells, t4, List.size_toArray, n1, List.length_nil]
            omega
          have hD : aU (bM (w.alloc (.cells #[] 64)) J (fun b => Z b \/ (w.heap.size <= b /\ b < (w.alloc (.cells #[] 64)).heap.size))) ((([] : List Value).toArray ++ news.toArray ++ Builtin.zeroCells z.cells (G - n)).toList.take (eG f 9 n 0).length) (eG f 9 n 0) := by
            rw [Array.toList_append, Array.toList_append, List.nil_append, List.take_append_of_le_length (by simp; omega), List.take_of_length_le (by simp; omega)]
            exact n4
          generalize ([] : List Value).toArray ++ news.toArray ++ Builtin.zeroCells z.cells (G - n) = C at hrun hC hD
          have cl := yB ⟨b, off, none⟩ n cap w _ _ hrun
          have R2 := (hR1.drew).new (nid := i) (cs := eG f 9 n 0) (c := C) (e := 64) (H := hset s.heap i (eG f 9 n 0)) hH (aG _ _ _) (fun q hq => aK _ _ _ _ hq) (lX hD)
          have hA := heap_alloc_new (w.alloc (.cells #[] 64)).drew (.cells C 64)
          generalize hw1 : w.alloc (.cells #[] 64) = w1 at cl R2 hA
          refine cl.mono fun e w' ⟨he, hw⟩ => ?_
          subst hw
          exact ⟨_, _, _, he, R2, Or.inr ⟨_, _, _, 64, rfl, by simp [gy], hsz, hmx, hA, by rw [Nat.zero_add]; exact hC⟩⟩
end Go.Proofs.YtcfechepbamhkaaGreat
set_option maxRecDepth 100000
set_option maxHeartbeats 4000000
namespace Go.Proofs.YtcfechepbamhkaaGreat
open Go.RowKit Go.Sea
open Nat renaming reduceAdd -> xA, reduceLT -> xL, reduceLeDiff -> xD, reduceEqDiff -> xE, reduceMul -> xM, reduceSub -> xS, reduceBEq -> xB
theorem Nl : aN Tryz.prog 22 = true := by kernel_rfl
theorem Oo : aN Tryz.prog 59 = true := by kernel_rfl
theorem aeD : aN Tryz.prog 78 = true := by kernel_rfl
attribute [go_sem] Nl Oo aeD
theorem X6 (f : Nat -> Nat -> IV) (E n : Nat) (i o : Nat) (hi : i < n) (ho : o < E) : (IE ((eG f E n 0).getD (i * E + o) .any)).eqv (f i o) := by
  rw [List.getD, pz _ _ _ _ _ _ hi ho, Nat.zero_add]
  exact IV.bf _
def Eb (x : Nat × (Nat -> aZ)) (N : ah) (ch : Int) : Nat × (Nat -> aZ) := if iQ N ch = true /\ zJ x.1 x.2 (prt N ch).k (prt N ch).o = 0 then (Ef x.1 x.2 (prt N ch).k (prt N ch).o, apF x.1 x.2 (prt N ch).k (prt N ch).o) else x
def zT (f : aj) (ch : Int) (l : List Int) : Nat -> Nat × (Nat -> aZ)
  | 0 => ((f.S (jA f ch)).n, (f.S (jA f ch)).f)
  | i + 1 => Eb (zT f ch l i) (f.N (zL l i).toNat) ch
theorem ZR (f : aj) (ch : Int) (l : List Int) : zT f ch l 0 = ((f.S (jA f ch)).n, (f.S (jA f ch)).f) := rfl
theorem afu {f : aj} {ch : Int} {l : List Int} {i : Nat} (h : iQ (f.N (zL l i).toNat) ch = true) (h2 : zJ (zT f ch l i).1 (zT f ch l i).2 (prt (f.N (zL l i).toNat) ch).k (prt (f.N (zL l i).toNat) ch).o = 0) : (zT f ch l (i + 1)).1 = Ef (zT f ch l i).1 (zT f ch l i).2 (prt (f.N (zL l i).toNat) ch).k (prt (f.N (zL l i).toNat) ch).o /\ (zT f ch l (i + 1)).2 = apF (zT f ch l i).1 (zT f ch l i).2 (prt (f.N (zL l i).toNat) ch).k (prt (f.N (zL l i).toNat) ch).o := by
  show (Eb _ _ _).1 = _ /\ (Eb _ _ _).2 = _
  unfold Eb; rw [if_pos ⟨h, h2⟩]; exact ⟨rfl, rfl⟩
theorem afz {f : aj} {ch : Int} {l : List Int} {i : Nat} (h : iQ (f.N (zL l i).toNat) ch = false \/ zJ (zT f ch l i).1 (zT f ch l i).2 (prt (f.N (zL l i).toNat) ch).k (prt (f.N (zL l i).toNat) ch).o ≠ 0) : zT f ch l (i + 1) = zT f ch l i := by
  show Eb _ _ _ = _
  unfold Eb; rw [if_neg]
  rintro ⟨a, b⟩
  rcases h with h | h
  · rw [h] at a; cases a
  · exact h b
theorem Oe {l : List Int} {i : Nat} (h : i < l.length) : zL l i ∈ l := by
  unfold zL; rw [List.getD, List.getElem?_eq_getElem h]; exact List.getElem_mem h
theorem Tx {n : Nat} {f : Nat -> aZ} {k : Nat} {o : Nat -> fE} (h : zJ n f k o = 0) : Good (jN (LF f n) o k) /\ Ef n f k o = (jN (LF f n) o k).length := by
  unfold zJ at h
  split at h
  · rename_i hv
    have hv2 := hv
    unfold OP at hv2
    simp only [Bool.and_eq_true] at hv2
    have hG := kU (Gg hv2.1) (of_decide_eq_true hv2.2).2 k (Nat.le_refl k)
    refine ⟨hG, ?_⟩
    split at h
    · rename_i hj
      exact absurd h (of_decide_eq_true ((jD (b := fun j => decide ((ow (jN (LF f n) o j) (o j)).1 ≠ 0)) (k := k)).2 hj))
    · rename_i hj
      unfold Ef; rw [if_pos hv, if_neg hj]
  · cases h
theorem ac0 {n : Nat} {f : Nat -> aZ} {k : Nat} {o : Nat -> fE} (h : zJ n f k o = 0) : Ef n f k o <= 9223372036854775807 /\ ∀ j, j < Ef n f k o -> (apF n f k o j).Ok := by
  have hg := Tx h
  refine ⟨by have := hg.1.n; rw [hg.2]; omega, fun j hj => ?_⟩
  rw [hg.2] at hj
  unfold apF
  exact GA (hg.1.f _ (Di hj))
theorem adv {N : ah} {ch : Int} (h : iQ N ch = true) : xY N ch = (jO N ch : Int) := by unfold xY; rw [if_pos (of_decide_eq_true h)]
theorem afa {N : ah} {ch : Int} (h : iQ N ch = false) : xY N ch = -1 := by unfold xY; rw [if_neg (of_decide_eq_false h)]
theorem acI {N : ah} {ch : Int} (h : iQ N ch = false) : jr N ch = Ey := by unfold jr; rw [if_neg (by rw [h]; simp)]
theorem aeo (n : Nat) (N : Nat -> ah) (t : Int) : (mP n N t).length <= n := by
  unfold mP; split
  · exact E8 n N t n
  · exact Nat.zero_le _
theorem ZV {s : aH} (h : gU s = true) : s.n <= 300 := by
  unfold gU at h; simp only [Bool.and_eq_true] at h
  exact (of_decide_eq_true h.2).1
theorem Ma {f : aj} {ch : Int} {l : List Int} (hs : (f.S (jA f ch)).Ok) : ∀ i, (zT f ch l i).1 <= 9223372036854775807 /\ ∀ j, j < (zT f ch l i).1 -> ((zT f ch l i).2 j).Ok
  | 0 => ⟨hs.n, hs.f⟩
  | i + 1 => by
    have ih := Ma hs (ch := ch) (l := l) i
    show (Eb _ _ _).1 <= _ /\ ∀ j, j < (Eb _ _ _).1 -> ((Eb _ _ _).2 j).Ok
    unfold Eb
    split
    · rename_i h; exact ac0 h.2
    · exact ih
def Jy (f : aj) (ch t : Int) : Int := if jL f ch = 1 \/ ¬ (0 <= t /\ t <= 10000000) then 1 else jL f ch
def Hl (f : aj) (ch t : Int) : Nat := if Jy f ch t = 0 then (zT f ch (mP f.n f.N t) (mP f.n f.N t).length).1 else 0
def XB (f : aj) (ch t : Int) : Nat -> aZ := (zT f ch (mP f.n f.N t) (mP f.n f.N t).length).2
theorem UL {f : aj} {ch : Int} (h : jL f ch ≠ 1) : fK f = true := by
  unfold jL at h
  split at h
  · rename_i hb; unfold asB at hb; simp only [Bool.and_eq_true] at hb; exact hb.1
  · exact absurd rfl h
theorem ME {f : aj} {t : Int} (h : fK f = true) : Y6 f.n f.N t = if 0 <= t /\ t <= 10000000 then 0 else 1 := by
  have hn := mM (iB h).2.2
  unfold Y6 acB
  by_cases ht : 0 <= t /\ t <= 10000000
  · rw [if_pos ht, if_pos (decide_eq_true ⟨hn.1, ht, fun i hi => (hn.2 i hi).1⟩)]
  · rw [if_neg ht, if_neg]
    intro g; exact ht (of_decide_eq_true g).2.1
theorem alz {f : aj} {ch t : Int} (h : jL f ch = 1 \/ ¬ (0 <= t /\ t <= 10000000)) : Jy f ch t = 1 /\ Hl f ch t = 0 := by
  have e : Jy f ch t = 1 := by unfold Jy; rw [if_pos h]
  exact ⟨e, by unfold Hl; rw [if_neg (by omega)]⟩
theorem amD {f : aj} {ch t : Int} (h : jL f ch ≠ 1) (ht : 0 <= t /\ t <= 10000000) (h0 : jL f ch ≠ 0) : Jy f ch t = jL f ch /\ Hl f ch t = 0 := by
  have e : Jy f ch t = jL f ch := by unfold Jy; rw [if_neg (by rintro (g | g); exact h g; exact g ht)]
  exact ⟨e, by unfold Hl; rw [if_neg (by omega)]⟩
theorem ak9 {f : aj} {ch t : Int} (ht : 0 <= t /\ t <= 10000000) (h0 : jL f ch = 0) : Jy f ch t = 0 /\ Hl f ch t = (zT f ch (mP f.n f.N t) (mP f.n f.N t).length).1 := by
  have e : Jy f ch t = 0 := by unfold Jy; rw [if_neg (by rintro (g | g); omega; exact g ht)]; exact h0
  exact ⟨e, by unfold Hl; rw [if_pos e]⟩
theorem F4 {n : Nat} {N : Nat -> ah} {t : Int} : ∀ (i : Nat) x, x ∈ rZ n N t i -> 0 <= x /\ x < i
  | 0, x, h => by cases h
  | i + 1, x, h => by
    have h' : x ∈ (if yw n N t i = true then rZ n N t i ++ [(i : Int)] else rZ n N t i) := h
    split at h'
    · rcases List.mem_append.1 h' with g | g
      · have := F4 i x g; omega
      · simp only [List.mem_singleton] at g; omega
    · have := F4 i x h'; omega
theorem ahl {n : Nat} {N : Nat -> ah} {t : Int} {i : Nat} (h : i < (mP n N t).length) : 0 <= zL (mP n N t) i /\ zL (mP n N t) i < n := by
  have hm := Oe h
  generalize zL (mP n N t) i = x at hm
  unfold mP at hm
  split at hm
  · exact F4 n x hm
  · cases hm
theorem am8 (f : aj) (hf : f.Ok) (ch t : Int) (h1 : jL f ch = 1 \/ ¬ (0 <= t /\ t <= 10000000)) : aA Tryz.prog 20 [jJ f, .one (.g (.int .i64 ch)), .one (.g (.int .i64 t))] (.tup [.one (.lst 9 (Hl f ch t) (dN (XB f ch t))), .one (.g (.int .i64 (Jy f ch t)))]) := by
  refine ak Tryz.func20 rfl (by rw [Tryz.ntmps20]; simp) ?_
  simp only [Tryz.ntmps20, zM, PT.tv, au, Nat.zero_add, Nat.reduceAdd]
  repeat' (first
 | ((with_reducible show AW _ _ _ _); first
 | (with_reducible first | refine aS (fun K hK => ?_) | refine aT ?_ | refine aC ?_)
 | (first
 | (with_reducible first | refine aP 0 [0,1,2] ?_ | refine aP 1 [1,2,3] ?_ | refine aP 2 [1,2,3,8,9] ?_ | refine aP 3 [] ?_)))
 | ((first | (with_reducible refine And.intro ?_ ?_) | (with_reducible refine Need.mk ?_)); focus (first | exact True.intro | (simp; done)))
 | (with_reducible refine aJ ?_)
 | ((with_reducible show bL _ _ _ _ _ _); first
 | ((with_reducible refine aM ?_ ?_) <;> (intro hc; (try simp only [zB, zC, reduceCtorEq] at hc); (try (exfalso; omega)))))
 | ((with_reducible show aQ _ _ _ _ _ _ _ _ _ _); first
 | (refine aF (k := 45) kG (oD f hf ch) ?_ ?_))
 | ((fail_if_success (with_reducible show AW _ _ _ _)); simp (maxSteps := 2000000) only [go_sem, reduceIte, reduceCtorEq, xA, xL, xD, xE, xM, xS, xB, Tryz.f20, bR, bP, bV, bU, bX, bY, bQ, bS, bW, bT, bC, bB, bF, bn])
 | ((with_reducible refine hK _ ?_); clear hK K))
  all_goals first
    | (have e := alz (f := f) (ch := ch) (t := t) h1; rw [e.1, e.2]; (repeat' (first | exact rfl | (with_reducible refine And.intro ?_ ?_))); done)
    | (exfalso; refine h1.elim (fun q => hc.1 q) (fun q => ?_); have e := ME (t := t) (UL hc.1); rw [if_neg q] at e; omega)
    | (exfalso; omega)
    | skip
theorem akz (f : aj) (hf : f.Ok) (ch t : Int) (h1 : jL f ch ≠ 1) (ht : 0 <= t /\ t <= 10000000) (h0 : jL f ch ≠ 0) : aA Tryz.prog 20 [jJ f, .one (.g (.int .i64 ch)), .one (.g (.int .i64 t))] (.tup [.one (.lst 9 (Hl f ch t) (dN (XB f ch t))), .one (.g (.int .i64 (Jy f ch t)))]) := by
  have e5 : Y6 f.n f.N t = 0 := by rw [ME (UL h1), if_pos ht]
  refine ak Tryz.func20 rfl (by rw [Tryz.ntmps20]; simp) ?_
  simp only [Tryz.ntmps20, zM, PT.tv, au, Nat.zero_add, Nat.reduceAdd]
  repeat' (first
 | ((with_reducible show AW _ _ _ _); first
 | (with_reducible first | refine aS (fun K hK => ?_) | refine aI ?_ | refine aT ?_ | refine aC ?_)
 | (first
 | (with_reducible first | refine aP 0 [0,1,2] ?_ | refine aP 1 [1,2,3] ?_ | refine aP 2 [1,2,3,8,9] ?_ | refine aP 4 [1,2,3,8,9] ?_ | refine aP 5 [9] ?_)))
 | ((first | (with_reducible refine And.intro ?_ ?_) | (with_reducible refine Need.mk ?_)); focus (first | exact True.intro | (simp; done)))
 | (with_reducible refine aJ ?_)
 | ((with_reducible show bL _ _ _ _ _ _); first
 | ((with_reducible refine aM ?_ ?_) <;> (intro hc; (try simp only [zB, zC, reduceCtorEq] at hc); (try (exfalso; first | contradiction | omega)))))
 | ((with_reducible show aQ _ _ _ _ _ _ _ _ _ _); first
 | (refine aF (k := 45) kG (oD f hf ch) ?_ ?_))
 | ((fail_if_success (with_reducible show AW _ _ _ _)); simp (maxSteps := 2000000) only [go_sem, reduceIte, reduceCtorEq, xA, xL, xD, xE, xM, xS, xB, Tryz.f20, bR, bP, bV, bU, bX, bY, bQ, bS, bW, bT, bC, bB, bF, bn, h1, h0, e5])
 | ((with_reducible refine hK _ ?_); clear hK K))
  all_goals ((have e := amD (f := f) (ch := ch) (t := t) h1 ht h0; rw [e.1, e.2]; (repeat' (first | exact rfl | (with_reducible refine And.intro ?_ ?_))); done))
theorem akV (f : aj) (hf : f.Ok) (ch t : Int) (ht : 0 <= t /\ t <= 10000000) (h0 : jL f ch = 0) : aA Tryz.prog 20 [jJ f, .one (.g (.int .i64 ch)), .one (.g (.int .i64 t))] (.tup [.one (.lst 9 (Hl f ch t) (dN (XB f ch t))), .one (.g (.int .i64 (Jy f ch t)))]) := by
  have ha := AY h0
  have ha1 := ha.1
  have ha2 := ha.2.1
  have hsok := hf.s _ ha2
  have hxo := fun i => Ma (f := f) (ch := ch) (l := (mP f.n f.N t)) hsok i
  have e5 : Y6 f.n f.N t = 0 := by rw [ME ha.2.2.2, if_pos ht]
  have mk1 : True := trivial
  have hpv : True := trivial
  have hps : True := trivial
  have hn := hf.n
  have hk := hf.k
  have hn2 := (mM (iB ha.2.2.2).2.2).1
  have hal : (mP f.n f.N t).length <= f.n := aeo f.n f.N t
  have hs3 : (f.S (jA f ch)).n <= 300 := ZV ((iB ha.2.2.2).2.1 _ ha2).1
  have hb : True := trivial
  refine ak Tryz.func20 rfl (by rw [Tryz.ntmps20]; simp) ?_
  simp only [Tryz.ntmps20, zM, PT.tv, au, Nat.zero_add, Nat.reduceAdd]
  repeat' (first
 | ((with_reducible show AW _ _ _ _); first
 | (with_reducible first | refine aS (fun K hK => ?_) | refine aI ?_ | refine aX ?_ | refine aT ?_ | refine aC ?_ | refine aB ?_)
 | (first
 | (with_reducible first | refine aP 0 [0,1,2] ?_ | refine aP 1 [1,2,3] ?_ | refine aP 2 [1,2,3,8,9] ?_ | refine aP 4 [1,2,3,8,9] ?_ | refine aP 6 [1,2,3,8] ?_ | refine aP 7 [1,3,8,9,10] ?_ | refine aP 9 [1,3,8,10] ?_ | refine vH (c := Code.region 10 _ false) [1] ?_ (aP 10 [1,3,10,11] ?_) | refine aP 11 [1,3,11,55,56,57] ?_ | refine aP 12 [1,3,11,55,56,57] ?_ | refine aP 13 [1,3,11,13,55,56,57] ?_ | refine aP 14 [1,3,11,14,15,55,56,57] ?_ | refine aP 15 [1,3,11,14,55,56,57] ?_ | refine aP 16 [1,3,11,16,18,55,56,57] ?_ | refine aP 17 [1,3,16,55,56,57] ?_ | refine aP 18 [1,3,11,55,56,57] ?_ | refine aP 19 [11] ?_))
 | ((with_reducible show AW _ (Code.loop _) _ _); first
 | ((with_reducible refine aL (c := (Code.seq (Code.region 11 _ _) _)) (ι := Nat) [1,3,55,56] (fun i => [(11, .t (.one (.iv (.lst 9 (zT f ch (mP f.n f.N t) i).1 (dN (zT f ch (mP f.n f.N t) i).2))))), (57, iA .i64 (i : Int))]) (fun i => []) (fun i => i <= (mP f.n f.N t).length) (fun i => (mP f.n f.N t).length - i) 0 ?lg11 ?l111 ?l211 ?li11 ?lr11); (case' lg11 => rintro i _); (case' li11 => try (omega)); (case' lr11 => rintro i hi KR hR11; simp only [bI, dI, hset, lk, if_true, if_false, xE, reduceIte, zN, bR, bP, bV, bU, bX, bY, bQ, bS, bW, bT, bC, bB, bF, h0, e5, ha1, hpv, hps, hb, ZR, Go.Sea.gI]))))
 | ((first | (with_reducible refine And.intro ?_ ?_) | (with_reducible refine Need.mk ?_)); focus (first | exact EN _ _ _ _ | first | exact True.intro | (with_reducible assumption) | omega | (simp; done)))
 | (with_reducible refine aJ ?_)
 | ((with_reducible show bL _ _ _ _ _ _); first
 | ((with_reducible refine aM ?_ ?_) <;> (intro hc; (try simp only [zB, zC, reduceCtorEq] at hc); ((try (clear mk1; have hx := ahl (n := f.n) (N := f.N) (t := t) (i := i) (by omega); have hNo := hf.nn (zL (mP f.n f.N t) i).toNat (by omega); have hNn := hNo.n; cases hb : iQ (f.N (zL (mP f.n f.N t) i).toNat) ch; all_goals (first | (have hpv : xY (f.N (zL (mP f.n f.N t) i).toNat) ch = (jO (f.N (zL (mP f.n f.N t) i).toNat) ch : Int) := adv hb; have hpl := of_decide_eq_true hb; have hPo := hNo.p _ hpl; have hps : jr (f.N (zL (mP f.n f.N t) i).toNat) ch = ((f.N (zL (mP f.n f.N t) i).toNat).p (jO (f.N (zL (mP f.n f.N t) i).toNat) ch)) := Fv hb) | (have hpv : xY (f.N (zL (mP f.n f.N t) i).toNat) ch = -1 := afa hb; have hps : jr (f.N (zL (mP f.n f.N t) i).toNat) ch = Ey := acI hb))))); (try (exfalso; first | contradiction | omega)))))
 | ((with_reducible show aQ _ _ _ _ _ _ _ _ _ _); first
 | (refine aF (k := 45) kG (oD f hf ch) ?_ ?_)
 | (refine aF (k := 22) Nl (akH f.n f.N hf.n hf.nn t) ?_ ?_)
 | (refine aF (k := 60) zh (Fy (f.N (zL (mP f.n f.N t) i).toNat) ch hNo) ?_ ?_)
 | (refine aF (k := 61) FU (OH (zT f ch (mP f.n f.N t) i).1 (zT f ch (mP f.n f.N t) i).2 ((f.N (zL (mP f.n f.N t) i).toNat).p (jO (f.N (zL (mP f.n f.N t) i).toNat) ch)).k ((f.N (zL (mP f.n f.N t) i).toNat).p (jO (f.N (zL (mP f.n f.N t) i).toNat) ch)).o (hxo i).1 (hxo i).2 hPo.k hPo.o) ?_ ?_)
 | (refine nK (k := 59) Oo (Ba (Uq (f.S (jA f ch)).n (dN (f.S (jA f ch)).f) (Nat.le_trans hs3 (by decide))) (i := 1) rfl) ?_ ?_))
 | ((with_reducible refine hR11 _ (i + 1) ?_); (try clear hR11 KR))
 | ((with_reducible refine Told.mk ?_); simp only [go_sem, reduceIte, reduceCtorEq, xA, xL, xD, xE, xM, xS, xB, bR, bP, bV, bU, bX, bY, bQ, bS, bW, bT, bC, bB, bF, bn, h0, e5, ha1, hpv, hps, hb, ZR, Go.Sea.gI] <;> ((((try simp (disch := omega) only [aV, Int.natCast_add, Int.cast_ofNat_Int, and_true, true_and, and_self]); (repeat' (first | omega | (with_reducible refine And.intro ?_ ?_) | ((exact Or.inr ⟨(afu hb (by assumption)).1.symm, fun i o hi ho => by rw [(afu hb (by assumption)).2]; exact IV.bf _⟩)) | ((rw [afz (Or.inl hb)]; exact Or.inl rfl)) | ((rw [afz (Or.inr (by assumption))]; exact Or.inl rfl)) | ((exact Or.inr (fun i o hi ho => X6 _ _ _ i o hi ho))))); done))))
 | ((fail_if_success (with_reducible show AW _ _ _ _)); simp (maxSteps := 2000000) only [go_sem, reduceIte, reduceCtorEq, xA, xL, xD, xE, xM, xS, xB, Tryz.f20, bR, bP, bV, bU, bX, bY, bQ, bS, bW, bT, bC, bB, bF, bn, h0, e5, ha1, hpv, hps, hb, ZR, Go.Sea.gI])
 | ((with_reducible refine hK _ ?_); clear hK K)
 | (with_reducible apply_assumption -exfalso only [*]))
  all_goals (have e := ak9 ht h0; have e0 : i = (mP f.n f.N t).length := (by omega); subst e0; rw [e.1, e.2]; unfold XB; (repeat' (first | exact rfl | (with_reducible refine And.intro ?_ ?_) | (intro i q hi hq; exact IV.bf _))))
theorem afX (f : aj) (hf : f.Ok) (ch t : Int) : aA Tryz.prog 20 [jJ f, .one (.g (.int .i64 ch)), .one (.g (.int .i64 t))] (.tup [.one (.lst 9 (Hl f ch t) (dN (XB f ch t))), .one (.g (.int .i64 (Jy f ch t)))]) := by
  by_cases h1 : jL f ch = 1 \/ ¬ (0 <= t /\ t <= 10000000)
  · exact am8 f hf ch t h1
  · have h2 := not_or.1 h1
    have ht : 0 <= t /\ t <= 10000000 := Classical.byContradiction h2.2
    by_cases h0 : jL f ch = 0
    · exact akV f hf ch t ht h0
    · exact akz f hf ch t h2.1 ht h0
end Go.Proofs.YtcfechepbamhkaaGreat
namespace Go.Proofs.YtcfechepbamhkaaGreat
open Go.RowKit Go.Sea
open Nat renaming reduceAdd -> xA, reduceLT -> xL, reduceLeDiff -> xD, reduceEqDiff -> xE, reduceMul -> xM, reduceSub -> xS, reduceBEq -> xB
theorem FK : aN Tryz.prog 24 = true := by kernel_rfl
theorem Pf : aN Tryz.prog 50 = true := by kernel_rfl
attribute [go_sem] FK Pf
def Ig (f g : aj) : Bool := decide (f.k = g.k /\ f.n = g.n /\ (∀ i, i < f.k -> seqB (f.S i) (g.S i) = true) /\ ∀ i, i < f.n -> vk (f.N i) (g.N i) = true)
theorem VL {f g : aj} (h : (f.k : Int) ≠ g.k \/ (f.n : Int) ≠ g.n) : false = Ig f g := (decide_eq_false fun q => by have := q.1; have := q.2.1; omega).symm
theorem ags {f g : aj} {i : Nat} (hi : (i : Int) < f.k) (h : seqB (f.S i) (g.S i) = false) : false = Ig f g := (decide_eq_false fun q => by have := q.2.2.1 i (by omega); rw [h] at this; cases this).symm
theorem ahv {f g : aj} {i : Nat} (hi : (i : Int) < f.n) (h : vk (f.N i) (g.N i) = false) : false = Ig f g := (decide_eq_false fun q => by have := q.2.2.2 i (by omega); rw [h] at this; cases this).symm
theorem af8 {f g : aj} {j : Nat} (h : (f.k : Int) = g.k /\ (f.n : Int) = g.n) (hi : (f.n : Int) <= j) (b : ∀ i, i < f.k -> seqB (f.S i) (g.S i) = true) (a : ∀ i, i < j -> vk (f.N i) (g.N i) = true) : true = Ig f g := (decide_eq_true ⟨by omega, by omega, b, fun i hj => a i (by omega)⟩).symm
set_option maxRecDepth 100000 in
set_option maxHeartbeats 4000000 in
theorem aks (f : aj) (hf : f.Ok) (g : aj) (hg : g.Ok) : aA Tryz.prog 17 [jJ f, jJ g] (.t (.one (.g (.bool (Ig f g))))) := by
  have hfn := hf.n
  have hfk := hf.k
  have hgn := hg.n
  have hgk := hg.k
  refine ak Tryz.func17 rfl (by rw [Tryz.ntmps17]; simp) ?_
  simp only [Tryz.ntmps17, zM, PT.tv, au, Nat.zero_add, Nat.reduceAdd]
  repeat' (first
 | ((with_reducible show AW _ _ _ _); first
 | (with_reducible first | refine aS (fun K hK => ?_) | refine aI ?_ | refine aX ?_ | refine aT ?_ | refine aC ?_ | refine aB ?_)
 | (first
 | (with_reducible first | refine aP 0 [0,1] ?_ | refine aP 1 [2,3] ?_ | refine aP 2 [] ?_ | refine aP 3 [2,3] ?_ | refine aP 4 [2,3,5] ?_ | refine aP 5 [2,3,5] ?_)
 | ((with_reducible refine aR (c := Code.region 6 _ true) [2,3,5] ?_); (with_reducible refine aD ?_ ?_ ?_ ?_); (focus kernel_rfl); (focus kernel_rfl); (focus kernel_rfl))
 | (with_reducible first | refine aP 7 [] ?_ | refine aP 8 [2,3] ?_ | refine aP 9 [2,3,6] ?_ | refine aP 10 [2,3,6] ?_)
 | ((with_reducible refine aR (c := Code.region 11 _ true) [2,3,6] ?_); (with_reducible refine aD ?_ ?_ ?_ ?_); (focus kernel_rfl); (focus kernel_rfl); (focus kernel_rfl))
 | (with_reducible first | refine aP 12 [] ?_ | refine aP 13 [] ?_))
 | ((with_reducible show AW _ (Code.loop _) _ _); first
 | ((with_reducible refine aL (c := (Code.seq (Code.seq (Code.region 4 _ _) _) _)) (ι := Nat) [2,3] (fun i => [(5, iA .i64 (i : Int))]) (fun i => []) (fun i => i <= f.k /\ (∀ j, j < i -> seqB (f.S j) (g.S j) = true)) (fun i => f.k - i) 0 ?lg4 ?l14 ?l24 ?li4 ?lr4); (case' lg4 => rintro i _); (case' li4 => try (exact ⟨Nat.zero_le _, fun i hi => absurd hi (Nat.not_lt_zero _)⟩)); (case' lr4 => rintro i ⟨hi, hai⟩ KR hR4; simp only [bI, dI, hset, lk, if_true, if_false, xE, reduceIte, zN, bR, bP, bV, bU, bX, bY, bQ, bS, bW, bT, bC, bB, bF]))
 | ((with_reducible refine aL (c := (Code.seq (Code.seq (Code.region 9 _ _) _) _)) (ι := Nat) [2,3] (fun j => [(6, iA .i64 (j : Int))]) (fun j => []) (fun j => j <= f.n /\ (∀ i, i < j -> vk (f.N i) (g.N i) = true)) (fun j => f.n - j) 0 ?lg9 ?l19 ?l29 ?li9 ?lr9); (case' lg9 => rintro j _); (case' li9 => try (exact ⟨Nat.zero_le _, fun i hi => absurd hi (Nat.not_lt_zero _)⟩)); (case' lr9 => rintro j ⟨hj, haj⟩ KR hR9; simp only [bI, dI, hset, lk, if_true, if_false, xE, reduceIte, zN, bR, bP, bV, bU, bX, bY, bQ, bS, bW, bT, bC, bB, bF]))))
 | ((first | (with_reducible refine And.intro ?_ ?_) | (with_reducible refine Need.mk ?_)); focus (first | exact True.intro | omega | (simp; done)))
 | (with_reducible refine aJ ?_)
 | ((with_reducible show bL _ _ _ _ _ _); first
 | ((with_reducible refine aM ?_ ?_) <;> (intro hc; (try simp only [zB, zC, reduceCtorEq] at hc); (try (exfalso; contradiction)))))
 | ((with_reducible refine And.intro ?_ ?_); focus ((with_reducible show gW _ _ _ = true); kernel_rfl))
 | ((with_reducible show eu _ _ _ _ _ _ _ _ _ _ _ _ _); first
 | (refine cB (k := 24) FK (N8 (f.S i) (g.S i) (hf.s i (by omega)) (hg.s i (by omega))) ?_ ?_)
 | (refine cB (k := 50) Pf (alB (f.N j) (g.N j) (hf.nn j (by omega)) (hg.nn j (by omega))) ?_ ?_))
 | ((with_reducible refine hR4 _ (i + 1) ?_); (try clear hR4 KR))
 | ((with_reducible refine hR9 _ (j + 1) ?_); (try clear hR9 KR))
 | ((with_reducible refine Told.mk ?_); simp only [go_sem, reduceIte, reduceCtorEq, xA, xL, xD, xE, xM, xS, xB, bR, bP, bV, bU, bX, bY, bQ, bS, bW, bT, bC, bB, bF, bn] <;> ((((try simp (disch := omega) only [aV, Int.natCast_add, Int.cast_ofNat_Int, and_true, true_and, and_self]); (repeat' (first | omega | (with_reducible refine And.intro ?_ ?_) | (exact all_succ (by assumption) (by assumption)))); done))))
 | ((fail_if_success (with_reducible show AW _ _ _ _)); simp (maxSteps := 2000000) only [go_sem, reduceIte, reduceCtorEq, xA, xL, xD, xE, xM, xS, xB, Tryz.f17, bR, bP, bV, bU, bX, bY, bQ, bS, bW, bT, bC, bB, bF, bn])
 | ((with_reducible refine hK _ ?_); clear hK K)
 | (with_reducible apply_assumption -exfalso only [*]))
  all_goals first | exact VL (by assumption) | exact VL (by omega) | exact ags (by assumption) (by assumption) | exact ahv (by assumption) (by assumption) | exact af8 (by omega) (by assumption) (fun i hi => (by assumption : ∀ j, j < _ -> seqB (f.S j) (g.S j) = true) i (by omega)) (by assumption) | skip
end Go.Proofs.YtcfechepbamhkaaGreat
set_option maxRecDepth 100000
set_option maxHeartbeats 4000000
namespace Go.Proofs.YtcfechepbamhkaaGreat
open Go.RowKit Go.Sea
open Nat renaming reduceAdd -> xA, reduceLT -> xL, reduceLeDiff -> xD, reduceEqDiff -> xE, reduceMul -> xM, reduceSub -> xS, reduceBEq -> xB
theorem Oq : aN Tryz.prog 44 = true := by kernel_rfl
attribute [go_sem] Oq
theorem ane {f : aj} (h : fK f = true) : f.k <= 1000 := Nat.le_trans (iB h).1 (by decide)
theorem ahp (f : aj) (hf : f.Ok) (hk : f.k <= 1000) (F G : Nat -> Nat -> IV) (h : ∀ i o, i < f.k -> o < 13 -> (F i o).eqv (jq f.S i o)) (h' : ∀ i o, i < f.n -> o < 7 -> (G i o).eqv (eP f.N i o)) : aA Tryz.prog 44 [.agg [.lst 13 f.k F, .lst 7 f.n G]] (.t (jJ (BG f))) :=
  (ahV f hf hk).eqv (args' := [.agg [.lst 13 f.k F, .lst 7 f.n G]]) ⟨⟨⟨rfl, rfl, h⟩, ⟨rfl, rfl, h'⟩, trivial⟩, trivial⟩ (PV.bf _)
end Go.Proofs.YtcfechepbamhkaaGreat
set_option maxRecDepth 100000
namespace Go.Sea
open Go.RowKit Go.Sea
def aja (ops : Array Oper) (m i : Nat) : Bool := !(m.testBit i) && match ops[i]? with
  | some o => o.after.toList.all fun e => !Region.binds .any e || m.testBit e.on
  | none => false
def amN (ops : Array Oper) (Ms : List Nat) (Es : List (Nat × Nat × Nat)) : Bool := Ms.contains 0 && Ms.all fun m => (List.range ops.size).all fun i => !(aja ops m i) || (Es.contains (m, i, m ||| 2 ^ i) && Ms.contains (m ||| 2 ^ i))
def aou (ops : Array Oper) (Ms : List Nat) (mf : Nat) : Bool := Ms.all fun m => ((List.range ops.size).any fun i => !(m.testBit i)) || m == mf
theorem tK {w0 : World} {Z0 : Fr} {s s' : AS} {a : Act} {w : World} {L : List Nat} (h : Leaf ⟨bI s.env L, s.heap, s.N, s.gh, s.lp⟩ s') (R : mJ w0 Z0 s a w) : mJ w0 Z0 s' a w := by
  obtain ⟨rfl⟩ := h
  obtain ⟨J, Z, R⟩ := R
  exact ⟨J, Z, R.nodef, R.size, R.below, R.zfrom, R.zlt, R.jlt, R.inj, R.hole, R.blk, fun t => by
    rcases BJ s.env t L with e | e
    · show bD _ _ _ _ (lk (bI s.env L) t); rw [e]; trivial
    · show bD _ _ _ _ (lk (bI s.env L) t); rw [e]; exact R.slots t, R.ghost, R.loops, R.lnd, R.ro⟩
end Go.Sea
set_option maxRecDepth 100000
set_option maxHeartbeats 4000000
namespace Go.Proofs.YtcfechepbamhkaaGreat
open Go.RowKit Go.Sea
open Nat renaming reduceAdd -> xA, reduceLT -> xL, reduceLeDiff -> xD, reduceEqDiff -> xE, reduceMul -> xM, reduceSub -> xS, reduceBEq -> xB
theorem abY : aN Tryz.prog 69 = true := by kernel_rfl
theorem abD : dz Tryz.prog 25 0 = some (0, 1) := by kernel_rfl
attribute [go_sem] abY abD
theorem acd {s : aH} (h : gU s = true) : 1 <= s.ch /\ s.ch <= 1000 := by
  unfold gU at h; simp only [Bool.and_eq_true, decide_eq_true_eq] at h; omega
def dU (f : aj) (s : aH) : AV := .t (.one (.iv (.g (.int .i64 (jA f s.ch : Int)))))
def dS (f : aj) (s : aH) : Option (List CV) := some [.iv (.lst 13 f.k (jq f.S)), .iv (.lst 7 f.n (eP f.N))]
def dR (f : aj) (s : aH) : Option (List CV) := some [.iv (.g (.int .i64 s.ch)), .iv (.g (.int .i64 s.sc)), .iv (.g (.int .i64 s.ed)), .iv (.g (.int .i64 s.m.A)), .iv (.g (.int .i64 s.m.B)), .iv (.g (.int .i64 s.m.C)), .iv (.g (.int .i64 s.m.D)), .iv (.g (.int .i64 s.m.E)), .iv (.g (.int .i64 s.m.F)), .iv (.g (.int .i64 s.m.R)), .iv (.g (.int .i64 s.cap)), .iv (.lst 1 s.q (bn s.dn)), .iv (.lst 9 s.n (dN s.f))]
def dw (f : aj) (s : aH) : Option (List CV) := some [.iv (.g (.slice none 0 0)), .iv (.g (.slice none 0 0))]
def jP (f : aj) (s : aH) : AV := .t (.one (.slc 3 0 0 13))
def nN (f : aj) (s : aH) : AV := .t (.one (.iv (.lst 13 f.k (jq f.S))))
def Dz (f : aj) (s : aH) : AV := .t (.one (.slc 3 0 f.k 13))
def mF (f : aj) (s : aH) : AV := .t (.one (.iv (.lst 7 f.n (eP f.N))))
def gP (m : Nat) : List Nat := if m = 0 then [2,3,4,6] else if m = 1 then [2,3,4,6,34] else if m = 2 then [2,3,4,6,35] else if m = 3 then [2,3,4,6,34,35] else if m = 6 then [2,3,4,6,36] else if m = 7 then [2,3,4,6,34,36] else if m = 15 then [2,3,4,6,37] else if m = 16 then [2,3,4,6,38] else if m = 17 then [2,3,4,6,34,38] else if m = 18 then [2,3,4,6,35,38] else if m = 19 then [2,3,4,6,34,35,38] else if m = 22 then [2,3,4,6,36,38] else if m = 23 then [2,3,4,6,34,36,38] else if m = 31 then [2,3,4,6,37,38] else if m = 48 then [2,3,4,6,39] else if m = 49 then [2,3,4,6,34,39] else if m = 50 then [2,3,4,6,35,39] else if m = 51 then [2,3,4,6,34,35,39] else if m = 54 then [2,3,4,6,36,39] else if m = 55 then [2,3,4,6,34,36,39] else if m = 63 then [2,3,4,6,37,39] else if m = 127 then [2,3,4,6,40] else if m = 128 then [2,3,4,6,7] else if m = 129 then [2,3,4,6,34,7] else if m = 130 then [2,3,4,6,35,7] else if m = 131 then [2,3,4,6,34,35,7] else if m = 134 then [2,3,4,6,36,7] else if m = 135 then [2,3,4,6,34,36,7] else if m = 143 then [2,3,4,6,37,7] else if m = 144 then [2,3,4,6,38,7] else if m = 145 then [2,3,4,6,34,38,7] else if m = 146 then [2,3,4,6,35,38,7] else if m = 147 then [2,3,4,6,34,35,38,7] else if m = 150 then [2,3,4,6,36,38,7] else if m = 151 then [2,3,4,6,34,36,38,7] else if m = 159 then [2,3,4,6,37,38,7] else if m = 176 then [2,3,4,6,39,7] else if m = 177 then [2,3,4,6,34,39,7] else if m = 178 then [2,3,4,6,35,39,7] else if m = 179 then [2,3,4,6,34,35,39,7] else if m = 182 then [2,3,4,6,36,39,7] else if m = 183 then [2,3,4,6,34,36,39,7] else if m = 191 then [2,3,4,6,37,39,7] else if m = 255 then [2,3,4,6,40,7] else if m = 511 then [3,4,6,7] else []
theorem ajE : gP 0 = [2,3,4,6] := rfl
theorem ahd : gP 1 = [2,3,4,6,34] := rfl
theorem ajs : gP 2 = [2,3,4,6,35] := rfl
theorem ajN : gP 3 = [2,3,4,6,34,35] := rfl
theorem agM : gP 6 = [2,3,4,6,36] := rfl
theorem aij : gP 7 = [2,3,4,6,34,36] := rfl
theorem aeb : gP 15 = [2,3,4,6,37] := rfl
theorem ac3 : gP 16 = [2,3,4,6,38] := rfl
theorem adg : gP 17 = [2,3,4,6,34,38] := rfl
theorem aex : gP 18 = [2,3,4,6,35,38] := rfl
theorem acP : gP 19 = [2,3,4,6,34,35,38] := rfl
theorem abS : gP 22 = [2,3,4,6,36,38] := rfl
theorem acV : gP 23 = [2,3,4,6,34,36,38] := rfl
theorem ae1 : gP 31 = [2,3,4,6,37,38] := rfl
theorem ac4 : gP 48 = [2,3,4,6,39] := rfl
theorem ac6 : gP 49 = [2,3,4,6,34,39] := rfl
theorem adw : gP 50 = [2,3,4,6,35,39] := rfl
theorem aeV : gP 51 = [2,3,4,6,34,35,39] := rfl
theorem aeO : gP 54 = [2,3,4,6,36,39] := rfl
theorem aey : gP 55 = [2,3,4,6,34,36,39] := rfl
theorem aeZ : gP 63 = [2,3,4,6,37,39] := rfl
theorem Yx : gP 127 = [2,3,4,6,40] := rfl
theorem Tn : gP 128 = [2,3,4,6,7] := rfl
theorem Vz : gP 129 = [2,3,4,6,34,7] := rfl
theorem Uj : gP 130 = [2,3,4,6,35,7] := rfl
theorem Zk : gP 131 = [2,3,4,6,34,35,7] := rfl
theorem Yl : gP 134 = [2,3,4,6,36,7] := rfl
theorem Zn : gP 135 = [2,3,4,6,34,36,7] := rfl
theorem aah : gP 143 = [2,3,4,6,37,7] := rfl
theorem Wj : gP 144 = [2,3,4,6,38,7] := rfl
theorem Zc : gP 145 = [2,3,4,6,34,38,7] := rfl
theorem aas : gP 146 = [2,3,4,6,35,38,7] := rfl
theorem Xo : gP 147 = [2,3,4,6,34,35,38,7] := rfl
theorem Zd : gP 150 = [2,3,4,6,36,38,7] := rfl
theorem Za : gP 151 = [2,3,4,6,34,36,38,7] := rfl
theorem U0 : gP 159 = [2,3,4,6,37,38,7] := rfl
theorem V7 : gP 176 = [2,3,4,6,39,7] := rfl
theorem aaq : gP 177 = [2,3,4,6,34,39,7] := rfl
theorem Yz : gP 178 = [2,3,4,6,35,39,7] := rfl
theorem TH : gP 179 = [2,3,4,6,34,35,39,7] := rfl
theorem Y5 : gP 182 = [2,3,4,6,36,39,7] := rfl
theorem XM : gP 183 = [2,3,4,6,34,36,39,7] := rfl
theorem YT : gP 191 = [2,3,4,6,37,39,7] := rfl
theorem aaD : gP 255 = [2,3,4,6,40,7] := rfl
theorem Xg : gP 511 = [3,4,6,7] := rfl
def Gc (f : aj) (s : aH) : AS := ⟨[(2, .t (.one (.ptr 0 0))), (3, .t (.one (.ptr 1 0))), (4, .t (.one (.ptr 2 0))), (6, (dU f s))], [(dS f s), (dR f s), (dw f s)], 48, [], LP.top⟩
def M9 (f : aj) (s : aH) : AS := ⟨[(2, .t (.one (.ptr 0 0))), (3, .t (.one (.ptr 1 0))), (4, .t (.one (.ptr 2 0))), (6, (dU f s)), (34, (jP f s))], [(dS f s), (dR f s), (dw f s), some []], 48, [], LP.top⟩
def KW (f : aj) (s : aH) : AS := ⟨[(2, .t (.one (.ptr 0 0))), (3, .t (.one (.ptr 1 0))), (4, .t (.one (.ptr 2 0))), (6, (dU f s)), (35, .t (.one (.ptr 0 0)))], [(dS f s), (dR f s), (dw f s)], 48, [], LP.top⟩
def MF (f : aj) (s : aH) : AS := ⟨[(2, .t (.one (.ptr 0 0))), (3, .t (.one (.ptr 1 0))), (4, .t (.one (.ptr 2 0))), (6, (dU f s)), (34, (jP f s)), (35, .t (.one (.ptr 0 0)))], [(dS f s), (dR f s), (dw f s), some []], 48, [], LP.top⟩
def Mk (f : aj) (s : aH) : AS := ⟨[(2, .t (.one (.ptr 0 0))), (3, .t (.one (.ptr 1 0))), (4, .t (.one (.ptr 2 0))), (6, (dU f s)), (36, (nN f s))], [(dS f s), (dR f s), (dw f s)], 48, [], LP.top⟩
def Mw (f : aj) (s : aH) : AS := ⟨[(2, .t (.one (.ptr 0 0))), (3, .t (.one (.ptr 1 0))), (4, .t (.one (.ptr 2 0))), (6, (dU f s)), (34, (jP f s)), (36, (nN f s))], [(dS f s), (dR f s), (dw f s), some []], 48, [], LP.top⟩
def Fg (f : aj) (s : aH) : AS := ⟨[(2, .t (.one (.ptr 0 0))), (3, .t (.one (.ptr 1 0))), (4, .t (.one (.ptr 2 0))), (6, (dU f s)), (37, (Dz f s))], [(dS f s), (dR f s), (dw f s), some (eZ (jM f 0))], 48, [], LP.top⟩
def Gt (f : aj) (s : aH) : AS := ⟨[(2, .t (.one (.ptr 0 0))), (3, .t (.one (.ptr 1 0))), (4, .t (.one (.ptr 2 0))), (6, (dU f s)), (38, .t (.one (.ptr 0 1)))], [(dS f s), (dR f s), (dw f s)], 48, [], LP.top⟩
def GD (f : aj) (s : aH) : AS := ⟨[(2, .t (.one (.ptr 0 0))), (3, .t (.one (.ptr 1 0))), (4, .t (.one (.ptr 2 0))), (6, (dU f s)), (34, (jP f s)), (38, .t (.one (.ptr 0 1)))], [(dS f s), (dR f s), (dw f s), some []], 48, [], LP.top⟩
def GH (f : aj) (s : aH) : AS := ⟨[(2, .t (.one (.ptr 0 0))), (3, .t (.one (.ptr 1 0))), (4, .t (.one (.ptr 2 0))), (6, (dU f s)), (35, .t (.one (.ptr 0 0))), (38, .t (.one (.ptr 0 1)))], [(dS f s), (dR f s), (dw f s)], 48, [], LP.top⟩
def GY (f : aj) (s : aH) : AS := ⟨[(2, .t (.one (.ptr 0 0))), (3, .t (.one (.ptr 1 0))), (4, .t (.one (.ptr 2 0))), (6, (dU f s)), (34, (jP f s)), (35, .t (.one (.ptr 0 0))), (38, .t (.one (.ptr 0 1)))], [(dS f s), (dR f s), (dw f s), some []], 48, [], LP.top⟩
def GR (f : aj) (s : aH) : AS := ⟨[(2, .t (.one (.ptr 0 0))), (3, .t (.one (.ptr 1 0))), (4, .t (.one (.ptr 2 0))), (6, (dU f s)), (36, (nN f s)), (38, .t (.one (.ptr 0 1)))], [(dS f s), (dR f s), (dw f s)], 48, [], LP.top⟩
def Gu (f : aj) (s : aH) : AS := ⟨[(2, .t (.one (.ptr 0 0))), (3, .t (.one (.ptr 1 0))), (4, .t (.one (.ptr 2 0))), (6, (dU f s)), (34, (jP f s)), (36, (nN f s)), (38, .t (.one (.ptr 0 1)))], [(dS f s), (dR f s), (dw f s), some []], 48, [], LP.top⟩
def FX (f : aj) (s : aH) : AS := ⟨[(2, .t (.one (.ptr 0 0))), (3, .t (.one (.ptr 1 0))), (4, .t (.one (.ptr 2 0))), (6, (dU f s)), (37, (Dz f s)), (38, .t (.one (.ptr 0 1)))], [(dS f s), (dR f s), (dw f s), some (eZ (jM f 0))], 48, [], LP.top⟩
def ES (f : aj) (s : aH) : AS := ⟨[(2, .t (.one (.ptr 0 0))), (3, .t (.one (.ptr 1 0))), (4, .t (.one (.ptr 2 0))), (6, (dU f s)), (39, (mF f s))], [(dS f s), (dR f s), (dw f s)], 48, [], LP.top⟩
def Gj (f : aj) (s : aH) : AS := ⟨[(2, .t (.one (.ptr 0 0))), (3, .t (.one (.ptr 1 0))), (4, .t (.one (.ptr 2 0))), (6, (dU f s)), (34, (jP f s)), (39, (mF f s))], [(dS f s), (dR f s), (dw f s), some []], 48, [], LP.top⟩
def GN (f : aj) (s : aH) : AS := ⟨[(2, .t (.one (.ptr 0 0))), (3, .t (.one (.ptr 1 0))), (4, .t (.one (.ptr 2 0))), (6, (dU f s)), (35, .t (.one (.ptr 0 0))), (39, (mF f s))], [(dS f s), (dR f s), (dw f s)], 48, [], LP.top⟩
def Fh (f : aj) (s : aH) : AS := ⟨[(2, .t (.one (.ptr 0 0))), (3, .t (.one (.ptr 1 0))), (4, .t (.one (.ptr 2 0))), (6, (dU f s)), (34, (jP f s)), (35, .t (.one (.ptr 0 0))), (39, (mF f s))], [(dS f s), (dR f s), (dw f s), some []], 48, [], LP.top⟩
def Fa (f : aj) (s : aH) : AS := ⟨[(2, .t (.one (.ptr 0 0))), (3, .t (.one (.ptr 1 0))), (4, .t (.one (.ptr 2 0))), (6, (dU f s)), (36, (nN f s)), (39, (mF f s))], [(dS f s), (dR f s), (dw f s)], 48, [], LP.top⟩
def F6 (f : aj) (s : aH) : AS := ⟨[(2, .t (.one (.ptr 0 0))), (3, .t (.one (.ptr 1 0))), (4, .t (.one (.ptr 2 0))), (6, (dU f s)), (34, (jP f s)), (36, (nN f s)), (39, (mF f s))], [(dS f s), (dR f s), (dw f s), some []], 48, [], LP.top⟩
def G5 (f : aj) (s : aH) : AS := ⟨[(2, .t (.one (.ptr 0 0))), (3, .t (.one (.ptr 1 0))), (4, .t (.one (.ptr 2 0))), (6, (dU f s)), (37, (Dz f s)), (39, (mF f s))], [(dS f s), (dR f s), (dw f s), some (eZ (jM f 0))], 48, [], LP.top⟩
def Bb (f : aj) (s : aH) : AS := ⟨[(2, .t (.one (.ptr 0 0))), (3, .t (.one (.ptr 1 0))), (4, .t (.one (.ptr 2 0))), (6, (dU f s)), (40, .t (.agg [.slc 3 0 f.k 13, .iv (.lst 7 f.n (eP f.N))]))], [(dS f s), (dR f s), (dw f s), some (eZ (jM f 0))], 48, [], LP.top⟩
def Ap (f : aj) (s : aH) : AS := ⟨[(2, .t (.one (.ptr 0 0))), (3, .t (.one (.ptr 1 0))), (4, .t (.one (.ptr 2 0))), (6, (dU f s)), (7, .t (.one (.ptr 10 0)))], [(dS f s), (dR f s), (dw f s), none, none, none, none, none, none, none, (dw f s)], 48, [], LP.top⟩
def Bn (f : aj) (s : aH) : AS := ⟨[(2, .t (.one (.ptr 0 0))), (3, .t (.one (.ptr 1 0))), (4, .t (.one (.ptr 2 0))), (6, (dU f s)), (34, (jP f s)), (7, .t (.one (.ptr 10 0)))], [(dS f s), (dR f s), (dw f s), some [], none, none, none, none, none, none, (dw f s)], 48, [], LP.top⟩
def Bv (f : aj) (s : aH) : AS := ⟨[(2, .t (.one (.ptr 0 0))), (3, .t (.one (.ptr 1 0))), (4, .t (.one (.ptr 2 0))), (6, (dU f s)), (35, .t (.one (.ptr 0 0))), (7, .t (.one (.ptr 10 0)))], [(dS f s), (dR f s), (dw f s), none, none, none, none, none, none, none, (dw f s)], 48, [], LP.top⟩
def Dn (f : aj) (s : aH) : AS := ⟨[(2, .t (.one (.ptr 0 0))), (3, .t (.one (.ptr 1 0))), (4, .t (.one (.ptr 2 0))), (6, (dU f s)), (34, (jP f s)), (35, .t (.one (.ptr 0 0))), (7, .t (.one (.ptr 10 0)))], [(dS f s), (dR f s), (dw f s), some [], none, none, none, none, none, none, (dw f s)], 48, [], LP.top⟩
def Az (f : aj) (s : aH) : AS := ⟨[(2, .t (.one (.ptr 0 0))), (3, .t (.one (.ptr 1 0))), (4, .t (.one (.ptr 2 0))), (6, (dU f s)), (36, (nN f s)), (7, .t (.one (.ptr 10 0)))], [(dS f s), (dR f s), (dw f s), none, none, none, none, none, none, none, (dw f s)], 48, [], LP.top⟩
def Cg (f : aj) (s : aH) : AS := ⟨[(2, .t (.one (.ptr 0 0))), (3, .t (.one (.ptr 1 0))), (4, .t (.one (.ptr 2 0))), (6, (dU f s)), (34, (jP f s)), (36, (nN f s)), (7, .t (.one (.ptr 10 0)))], [(dS f s), (dR f s), (dw f s), some [], none, none, none, none, none, none, (dw f s)], 48, [], LP.top⟩
def BM (f : aj) (s : aH) : AS := ⟨[(2, .t (.one (.ptr 0 0))), (3, .t (.one (.ptr 1 0))), (4, .t (.one (.ptr 2 0))), (6, (dU f s)), (37, (Dz f s)), (7, .t (.one (.ptr 10 0)))], [(dS f s), (dR f s), (dw f s), some (eZ (jM f 0)), none, none, none, none, none, none, (dw f s)], 48, [], LP.top⟩
def Aq (f : aj) (s : aH) : AS := ⟨[(2, .t (.one (.ptr 0 0))), (3, .t (.one (.ptr 1 0))), (4, .t (.one (.ptr 2 0))), (6, (dU f s)), (38, .t (.one (.ptr 0 1))), (7, .t (.one (.ptr 10 0)))], [(dS f s), (dR f s), (dw f s), none, none, none, none, none, none, none, (dw f s)], 48, [], LP.top⟩
def Cv (f : aj) (s : aH) : AS := ⟨[(2, .t (.one (.ptr 0 0))), (3, .t (.one (.ptr 1 0))), (4, .t (.one (.ptr 2 0))), (6, (dU f s)), (34, (jP f s)), (38, .t (.one (.ptr 0 1))), (7, .t (.one (.ptr 10 0)))], [(dS f s), (dR f s), (dw f s), some [], none, none, none, none, none, none, (dw f s)], 48, [], LP.top⟩
def BO (f : aj) (s : aH) : AS := ⟨[(2, .t (.one (.ptr 0 0))), (3, .t (.one (.ptr 1 0))), (4, .t (.one (.ptr 2 0))), (6, (dU f s)), (35, .t (.one (.ptr 0 0))), (38, .t (.one (.ptr 0 1))), (7, .t (.one (.ptr 10 0)))], [(dS f s), (dR f s), (dw f s), none, none, none, none, none, none, none, (dw f s)], 48, [], LP.top⟩
def BR (f : aj) (s : aH) : AS := ⟨[(2, .t (.one (.ptr 0 0))), (3, .t (.one (.ptr 1 0))), (4, .t (.one (.ptr 2 0))), (6, (dU f s)), (34, (jP f s)), (35, .t (.one (.ptr 0 0))), (38, .t (.one (.ptr 0 1))), (7, .t (.one (.ptr 10 0)))], [(dS f s), (dR f s), (dw f s), some [], none, none, none, none, none, none, (dw f s)], 48, [], LP.top⟩
def Cj (f : aj) (s : aH) : AS := ⟨[(2, .t (.one (.ptr 0 0))), (3, .t (.one (.ptr 1 0))), (4, .t (.one (.ptr 2 0))), (6, (dU f s)), (36, (nN f s)), (38, .t (.one (.ptr 0 1))), (7, .t (.one (.ptr 10 0)))], [(dS f s), (dR f s), (dw f s), none, none, none, none, none, none, none, (dw f s)], 48, [], LP.top⟩
def Bj (f : aj) (s : aH) : AS := ⟨[(2, .t (.one (.ptr 0 0))), (3, .t (.one (.ptr 1 0))), (4, .t (.one (.ptr 2 0))), (6, (dU f s)), (34, (jP f s)), (36, (nN f s)), (38, .t (.one (.ptr 0 1))), (7, .t (.one (.ptr 10 0)))], [(dS f s), (dR f s), (dw f s), some [], none, none, none, none, none, none, (dw f s)], 48, [], LP.top⟩
def A8 (f : aj) (s : aH) : AS := ⟨[(2, .t (.one (.ptr 0 0))), (3, .t (.one (.ptr 1 0))), (4, .t (.one (.ptr 2 0))), (6, (dU f s)), (37, (Dz f s)), (38, .t (.one (.ptr 0 1))), (7, .t (.one (.ptr 10 0)))], [(dS f s), (dR f s), (dw f s), some (eZ (jM f 0)), none, none, none, none, none, none, (dw f s)], 48, [], LP.top⟩
def CQ (f : aj) (s : aH) : AS := ⟨[(2, .t (.one (.ptr 0 0))), (3, .t (.one (.ptr 1 0))), (4, .t (.one (.ptr 2 0))), (6, (dU f s)), (39, (mF f s)), (7, .t (.one (.ptr 10 0)))], [(dS f s), (dR f s), (dw f s), none, none, none, none, none, none, none, (dw f s)], 48, [], LP.top⟩
def Au (f : aj) (s : aH) : AS := ⟨[(2, .t (.one (.ptr 0 0))), (3, .t (.one (.ptr 1 0))), (4, .t (.one (.ptr 2 0))), (6, (dU f s)), (34, (jP f s)), (39, (mF f s)), (7, .t (.one (.ptr 10 0)))], [(dS f s), (dR f s), (dw f s), some [], none, none, none, none, none, none, (dw f s)], 48, [], LP.top⟩
def Cm (f : aj) (s : aH) : AS := ⟨[(2, .t (.one (.ptr 0 0))), (3, .t (.one (.ptr 1 0))), (4, .t (.one (.ptr 2 0))), (6, (dU f s)), (35, .t (.one (.ptr 0 0))), (39, (mF f s)), (7, .t (.one (.ptr 10 0)))], [(dS f s), (dR f s), (dw f s), none, none, none, none, none, none, none, (dw f s)], 48, [], LP.top⟩
def Dc (f : aj) (s : aH) : AS := ⟨[(2, .t (.one (.ptr 0 0))), (3, .t (.one (.ptr 1 0))), (4, .t (.one (.ptr 2 0))), (6, (dU f s)), (34, (jP f s)), (35, .t (.one (.ptr 0 0))), (39, (mF f s)), (7, .t (.one (.ptr 10 0)))], [(dS f s), (dR f s), (dw f s), some [], none, none, none, none, none, none, (dw f s)], 48, [], LP.top⟩
def Bq (f : aj) (s : aH) : AS := ⟨[(2, .t (.one (.ptr 0 0))), (3, .t (.one (.ptr 1 0))), (4, .t (.one (.ptr 2 0))), (6, (dU f s)), (36, (nN f s)), (39, (mF f s)), (7, .t (.one (.ptr 10 0)))], [(dS f s), (dR f s), (dw f s), none, none, none, none, none, none, none, (dw f s)], 48, [], LP.top⟩
def Dy (f : aj) (s : aH) : AS := ⟨[(2, .t (.one (.ptr 0 0))), (3, .t (.one (.ptr 1 0))), (4, .t (.one (.ptr 2 0))), (6, (dU f s)), (34, (jP f s)), (36, (nN f s)), (39, (mF f s)), (7, .t (.one (.ptr 10 0)))], [(dS f s), (dR f s), (dw f s), some [], none, none, none, none, none, none, (dw f s)], 48, [], LP.top⟩
def Dv (f : aj) (s : aH) : AS := ⟨[(2, .t (.one (.ptr 0 0))), (3, .t (.one (.ptr 1 0))), (4, .t (.one (.ptr 2 0))), (6, (dU f s)), (37, (Dz f s)), (39, (mF f s)), (7, .t (.one (.ptr 10 0)))], [(dS f s), (dR f s), (dw f s), some (eZ (jM f 0)), none, none, none, none, none, none, (dw f s)], 48, [], LP.top⟩
def BX (f : aj) (s : aH) : AS := ⟨[(2, .t (.one (.ptr 0 0))), (3, .t (.one (.ptr 1 0))), (4, .t (.one (.ptr 2 0))), (6, (dU f s)), (40, .t (.agg [.slc 3 0 f.k 13, .iv (.lst 7 f.n (eP f.N))])), (7, .t (.one (.ptr 10 0)))], [(dS f s), (dR f s), (dw f s), some (eZ (jM f 0)), none, none, none, none, none, none, (dw f s)], 48, [], LP.top⟩
def DC (f : aj) (s : aH) : AS := ⟨[(3, .t (.one (.ptr 1 0))), (4, .t (.one (.ptr 2 0))), (6, (dU f s)), (7, .t (.one (.ptr 10 0)))], [(dS f s), (dR f s), (dw f s), some (eZ (jM f 0)), none, none, none, none, none, none, some [.slc 3 0 f.k 13, .iv (.lst 7 f.n (eP f.N))]], 48, [], LP.top⟩
def gV (f : aj) (s : aH) (m : Nat) : AS := if m = 0 then Gc f s else if m = 1 then M9 f s else if m = 2 then KW f s else if m = 3 then MF f s else if m = 6 then Mk f s else if m = 7 then Mw f s else if m = 15 then Fg f s else if m = 16 then Gt f s else if m = 17 then GD f s else if m = 18 then GH f s else if m = 19 then GY f s else if m = 22 then GR f s else if m = 23 then Gu f s else if m = 31 then FX f s else if m = 48 then ES f s else if m = 49 then Gj f s else if m = 50 then GN f s else if m = 51 then Fh f s else if m = 54 then Fa f s else if m = 55 then F6 f s else if m = 63 then G5 f s else if m = 127 then Bb f s else if m = 128 then Ap f s else if m = 129 then Bn f s else if m = 130 then Bv f s else if m = 131 then Dn f s else if m = 134 then Az f s else if m = 135 then Cg f s else if m = 143 then BM f s else if m = 144 then Aq f s else if m = 145 then Cv f s else if m = 146 then BO f s else if m = 147 then BR f s else if m = 150 then Cj f s else if m = 151 then Bj f s else if m = 159 then A8 f s else if m = 176 then CQ f s else if m = 177 then Au f s else if m = 178 then Cm f s else if m = 179 then Dc f s else if m = 182 then Bq f s else if m = 183 then Dy f s else if m = 191 then Dv f s else if m = 255 then BX f s else if m = 511 then DC f s else Gc f s
theorem aiw (f : aj) (s : aH) : gV f s 0 = Gc f s := rfl
theorem ajF (f : aj) (s : aH) : gV f s 1 = M9 f s := rfl
theorem ah4 (f : aj) (s : aH) : gV f s 2 = KW f s := rfl
theorem ajt (f : aj) (s : aH) : gV f s 3 = MF f s := rfl
theorem ahD (f : aj) (s : aH) : gV f s 6 = Mk f s := rfl
theorem agr (f : aj) (s : aH) : gV f s 7 = Mw f s := rfl
theorem abb (f : aj) (s : aH) : gV f s 15 = Fg f s := rfl
theorem aa9 (f : aj) (s : aH) : gV f s 16 = Gt f s := rfl
theorem abN (f : aj) (s : aH) : gV f s 17 = GD f s := rfl
theorem aaN (f : aj) (s : aH) : gV f s 18 = GH f s := rfl
theorem adF (f : aj) (s : aH) : gV f s 19 = GY f s := rfl
theorem adP (f : aj) (s : aH) : gV f s 22 = GR f s := rfl
theorem aeN (f : aj) (s : aH) : gV f s 23 = Gu f s := rfl
theorem abu (f : aj) (s : aH) : gV f s 31 = FX f s := rfl
theorem ab1 (f : aj) (s : aH) : gV f s 48 = ES f s := rfl
theorem acv (f : aj) (s : aH) : gV f s 49 = Gj f s := rfl
theorem adT (f : aj) (s : aH) : gV f s 50 = GN f s := rfl
theorem ae5 (f : aj) (s : aH) : gV f s 51 = Fh f s := rfl
theorem aaL (f : aj) (s : aH) : gV f s 54 = Fa f s := rfl
theorem abr (f : aj) (s : aH) : gV f s 55 = F6 f s := rfl
theorem adM (f : aj) (s : aH) : gV f s 63 = G5 f s := rfl
theorem WT (f : aj) (s : aH) : gV f s 127 = Bb f s := rfl
theorem Xe (f : aj) (s : aH) : gV f s 128 = Ap f s := rfl
theorem V8 (f : aj) (s : aH) : gV f s 129 = Bn f s := rfl
theorem Vk (f : aj) (s : aH) : gV f s 130 = Bv f s := rfl
theorem Wo (f : aj) (s : aH) : gV f s 131 = Dn f s := rfl
theorem Y2 (f : aj) (s : aH) : gV f s 134 = Az f s := rfl
theorem Z4 (f : aj) (s : aH) : gV f s 135 = Cg f s := rfl
theorem XA (f : aj) (s : aH) : gV f s 143 = BM f s := rfl
theorem Wi (f : aj) (s : aH) : gV f s 144 = Aq f s := rfl
theorem aaC (f : aj) (s : aH) : gV f s 145 = Cv f s := rfl
theorem Wd (f : aj) (s : aH) : gV f s 146 = BO f s := rfl
theorem YJ (f : aj) (s : aH) : gV f s 147 = BR f s := rfl
theorem XV (f : aj) (s : aH) : gV f s 150 = Cj f s := rfl
theorem WS (f : aj) (s : aH) : gV f s 151 = Bj f s := rfl
theorem YE (f : aj) (s : aH) : gV f s 159 = A8 f s := rfl
theorem VP (f : aj) (s : aH) : gV f s 176 = CQ f s := rfl
theorem aam (f : aj) (s : aH) : gV f s 177 = Au f s := rfl
theorem Ze (f : aj) (s : aH) : gV f s 178 = Cm f s := rfl
theorem WG (f : aj) (s : aH) : gV f s 179 = Dc f s := rfl
theorem aal (f : aj) (s : aH) : gV f s 182 = Bq f s := rfl
theorem Xx (f : aj) (s : aH) : gV f s 183 = Dy f s := rfl
theorem Ww (f : aj) (s : aH) : gV f s 191 = Dv f s := rfl
theorem WL (f : aj) (s : aH) : gV f s 255 = BX f s := rfl
theorem aan (f : aj) (s : aH) : gV f s 511 = DC f s := rfl
attribute [go_sem] dU dS dR dw jP nN Dz mF ajE Gc aiw ahd M9 ajF ajs KW ah4 ajN MF ajt agM Mk ahD aij Mw agr aeb Fg abb ac3 Gt aa9 adg GD abN aex GH aaN acP GY adF abS GR adP acV Gu aeN ae1 FX abu ac4 ES ab1 ac6 Gj acv adw GN adT aeV Fh ae5 aeO Fa aaL aey F6 abr aeZ G5 adM Yx Bb WT Tn Ap Xe Vz Bn V8 Uj Bv Vk Zk Dn Wo Yl Az Y2 Zn Cg Z4 aah BM XA Wj Aq Wi Zc Cv aaC aas BO Wd Xo BR YJ Zd Cj XV Za Bj WS U0 A8 YE V7 CQ VP aaq Au aam Yz Cm Ze TH Dc WG Y5 Bq aal XM Dy Xx YT Dv Ww aaD BX WL Xg DC aan
end Go.Proofs.YtcfechepbamhkaaGreat
