/- Part 13 of 17: contracts of functions and plain laws for the root text. No condition. -/
import Derived.Test.YtcfechepbamhkaaGreatX01
import Derived.Test.YtcfechepbamhkaaGreatX02
import Derived.Test.YtcfechepbamhkaaGreatX03
import Derived.Test.YtcfechepbamhkaaGreatX04
import Derived.Test.YtcfechepbamhkaaGreatX05
import Derived.Test.YtcfechepbamhkaaGreatX06
import Derived.Test.YtcfechepbamhkaaGreatX07
import Derived.Test.YtcfechepbamhkaaGreatX08
import Derived.Test.YtcfechepbamhkaaGreatX09
import Derived.Test.YtcfechepbamhkaaGreatX10
import Derived.Test.YtcfechepbamhkaaGreatX11
import Derived.Test.YtcfechepbamhkaaGreatX12
set_option linter.unusedVariables false
set_option linter.unusedSimpArgs false
set_option maxRecDepth 100000
set_option maxHeartbeats 4000000
namespace Go.Proofs.YtcfechepbamhkaaGreat
open Go.RowKit Go.Sea
open Nat renaming reduceAdd -> xA, reduceLT -> xL, reduceLeDiff -> xD, reduceEqDiff -> xE, reduceMul -> xM, reduceSub -> xS, reduceBEq -> xB
theorem Iy : aM Tryz.prog 131 = true := by kernel_rfl
theorem FN : aM Tryz.prog 16 = true := by kernel_rfl
theorem uK : aM Tryz.prog 46 = true := by kernel_rfl
theorem qP : aM Tryz.prog 70 = true := by kernel_rfl
theorem Aj : aM Tryz.prog 91 = true := by kernel_rfl
theorem uV : aM Tryz.prog 92 = true := by kernel_rfl
attribute [go_sem] Iy FN uK qP uV
theorem KE {L : List aF} {i : Nat} (hi : i < L.length) : List.take 13 (List.drop (i * 13) (eY L)) = c13 (L.getD i bg) := by
  refine List.ext_getElem? fun o => ?_
  rw [List.getElem?_take, List.getElem?_drop]
  by_cases ho : o < 13
  · rw [if_pos ho]
    have h := uJ L i o hi ho
    have hl : i * 13 + o < (eY L).length := by rw [eH]; omega
    have hc : o < (c13 (L.getD i bg)).length := ho
    rw [List.getD, List.getD, List.getElem?_eq_getElem hl, List.getElem?_eq_getElem hc] at h
    rw [List.getElem?_eq_getElem hl, List.getElem?_eq_getElem hc]
    exact congrArg some h
  · rw [if_neg ho, List.getElem?_eq_none (by show 13 <= o; omega)]
theorem JF (a b : List aF) : eY (a ++ b) = eY a ++ eY b := by simp [eY]
theorem DY {L : List aF} {i : Nat} (hi : i < L.length) (X : aF) : List.take (i * 13) (eY L) ++ c13 X ++ List.drop (i * 13 + 13) (eY L) = eY (L.set i X) := by
  have e : L = L.take i ++ L.getD i bg :: L.drop (i + 1) := by
    rw [List.getD, List.getElem?_eq_getElem hi, Option.getD_some, <- List.drop_eq_getElem_cons hi, List.take_append_drop]
  have hl : (eY (L.take i)).length = i * 13 := by rw [eH, List.length_take]; omega
  have e2 : eY L = eY (L.take i) ++ (c13 (L.getD i bg) ++ eY (L.drop (i + 1))) := by
    conv => lhs; rw [e]
    rw [JF]; rfl
  have e3 : L.set i X = L.take i ++ X :: L.drop (i + 1) := List.set_eq_take_append_cons_drop.trans (by rw [if_pos hi])
  rw [e3, JF]
  have h1 : List.take (i * 13) (eY L) = eY (L.take i) := by rw [e2, <- hl, List.take_left]
  have h2 : List.drop (i * 13 + 13) (eY L) = eY (L.drop (i + 1)) := by
    rw [e2, <- List.drop_drop, <- hl, List.drop_left]
    exact List.drop_left (l₁ := c13 (L.getD i bg))
  rw [h1, h2, List.append_assoc]; rfl
theorem WA {s : aF} {N : ah} (h : kN N s.ch = true /\ fD s.q s.dn N.nu = false) : rU s N = true := by unfold rU; rw [h.1, h.2]; rfl
theorem alu {s : aF} {N : ah} (h : kN N s.ch = false \/ fD s.q s.dn N.nu = true) : (rU s N && decide (pQ s N = 0)) = false := by
  unfold rU; rcases h with h | h <;> rw [h] <;> simp
theorem GK (q : Nat) (a : Nat -> Int) (x : Int) (hq : q <= 9223372036854775807) : aA Tryz.prog 92 [.one (.lst 1 q (bC a)), .one (.g (.int .i64 x))] (.t (.one (.g (.bool (fD q a x))))) := by
  refine ak Tryz.func92 rfl (by rw [Tryz.ntmps92]; simp) ?_
  simp only [Tryz.ntmps92, zM, PT.tv, au, Nat.zero_add, Nat.reduceAdd]
  repeat' (first
 | ((with_reducible show AW _ _ _ _); first
 | (with_reducible first | refine aS (fun K hK => ?_) | refine aI ?_ | refine aX ?_ | refine aT ?_ | refine aC ?_ | refine aB ?_)
 | (first
 | (with_reducible first | refine aP 0 [0,1] ?_ | refine aP (ops := #[⟨some 5, _, _, _, _, _⟩, _, _, _, _]) 1 [0,1] ?_ | refine aP (ops := #[⟨some 6, _, _, _, _, _⟩, _, _]) 1 [0,1] ?_ | refine aP 2 [0,1,7,8] ?_ | refine aP 3 [0,1,7,8] ?_ | refine aP 4 [0,1,5,7,8] ?_ | refine aP 5 [5] ?_ | refine aP 6 [0,1,7,8] ?_ | refine aP 7 [] ?_))
 | ((with_reducible show AW _ (Code.loop _) _ _); first
 | ((with_reducible refine aL (c := (Code.seq (Code.region 2 _ _) _)) (ι := Nat) [0,1,7] (fun i => [(8, iA .i64 (i : Int))]) (fun i => []) (fun i => i <= q /\ (∀ j, j < i -> a j ≠ x)) (fun i => q - i) 0 ?lg2 ?l12 ?l22 ?li2 ?lr2); (case' lg2 => rintro i _); (case' li2 => try (exact ⟨Nat.zero_le _, fun i hi => absurd hi (Nat.not_lt_zero _)⟩)); (case' lr2 => rintro i ⟨hi, hai⟩ KR hR2; simp only [bG, dL, hset, lk, if_true, if_false, xE, reduceIte, zN]))))
 | (((with_reducible refine And.intro ?_ ?_)); focus (omega))
 | (with_reducible refine aK ?_)
 | ((with_reducible show bL _ _ _ _ _ _); first
 | ((with_reducible refine aN ?_ ?_) <;> (intro hc; (try simp only [zB, zC, reduceCtorEq] at hc); (try (exfalso; contradiction)))))
 | ((with_reducible refine hR2 _ (i + 1) ?_); (try clear hR2 KR))
 | ((with_reducible refine Told.mk ?_); simp only [go_sem, reduceIte, reduceCtorEq, xA, xL, xD, xE, xM, xS, xB, bC] <;> ((((try simp (disch := omega) only [aY, Int.natCast_add, Int.cast_ofNat_Int, and_true, true_and, and_self]); (repeat' (first | omega | (with_reducible refine And.intro ?_ ?_) | ((exact all_succ (by assumption) (by omega))))); done))))
 | ((fail_if_success (with_reducible show AW _ _ _ _)); simp (maxSteps := 2000000) only [go_sem, reduceIte, reduceCtorEq, xA, xL, xD, xE, xM, xS, xB, Tryz.f92, Tryz.f131, bC])
 | ((with_reducible show aZ _ _ _ _ _ _ _ _ _ _); first
 | ((refine bW (k := 131) Tryz.func131 rfl Iy (by rw [Tryz.ntmps131]; simp) ?_ ?_ (fun K hK => ?_)); (focus (exact True.intro)); (focus ((simp [iZ]; done))); simp only [Tryz.ntmps131, List.map_cons, List.map_nil, List.nil_append, List.cons_append, List.append_nil, LV.tv, au, Nat.zero_add, Nat.reduceAdd]))
 | ((with_reducible refine hK _ ?_); clear hK K)
 | (with_reducible apply_assumption -exfalso only [*]))
  all_goals first
    | (have e : fD q a x = true := decide_eq_true ⟨i, by omega, by omega⟩; rw [e]; exact decide_eq_true (by omega))
    | (have e : fD q a x = false := decide_eq_false (fun ⟨j, h1, h2⟩ => hai j (by omega) h2); rw [e]; rfl)
theorem ahP (f : aj) (hf : f.Ok) (L : List aF) (i : Nat) (hL : L.length = f.k) (hi : i < f.k) (hk : f.k <= 1000) (hS : (L.getD i bg).Ok) (hw : dI (L.getD i bg) f.n f.N < f.n) : iD Tryz.prog 88 [.one (.ptr 0 0), .one (.ptr 3 0)] ([some [.slc 2 0 f.k 13, .iv (.lst 7 f.n (dX f.N))], some [.iv (.g (.slice none 0 0)), .iv (.g (.slice none 0 0))], some (eY (L)), some [.iv (.g (.int .i64 (i : Int)))]]) (.t (.one (.iv (.g (.bool true))))) ([some [.slc 2 0 f.k 13, .iv (.lst 7 f.n (dX f.N))], some [.iv (.g (.slice none 0 0)), .iv (.g (.slice none 0 0))], some (eY (L.set i (mQ (L.getD i bg) (f.N (dI (L.getD i bg) f.n f.N))))), some [.iv (.g (.int .i64 (i : Int)))], some [.iv (.g (.bool true))], some [.iv (.g (.int .i64 (L.getD i bg).ch)), .iv (.g (.int .i64 (L.getD i bg).sc)), .iv (.g (.int .i64 (L.getD i bg).ed)), .iv (.g (.int .i64 (L.getD i bg).m.A)), .iv (.g (.int .i64 (L.getD i bg).m.B)), .iv (.g (.int .i64 (L.getD i bg).m.C)), .iv (.g (.int .i64 (L.getD i bg).m.D)), .iv (.g (.int .i64 (L.getD i bg).m.E)), .iv (.g (.int .i64 (L.getD i bg).m.F)), .iv (.g (.int .i64 (L.getD i bg).m.R)), .iv (.g (.int .i64 (L.getD i bg).cap)), .iv (.lst 1 (L.getD i bg).q (bC (L.getD i bg).dn)), .iv (.lst 9 (L.getD i bg).n (dN (L.getD i bg).f))], some [.iv (.lst 7 f.n (dX f.N))], some [.iv (.g (.int .i64 (f.N (dI (L.getD i bg) f.n f.N)).oc)), .iv (.g (.int .i64 (f.N (dI (L.getD i bg) f.n f.N)).nu)), .iv (.g (.int .i64 (f.N (dI (L.getD i bg) f.n f.N)).kd)), .iv (.g (.int .i64 (f.N (dI (L.getD i bg) f.n f.N)).fr)), .iv (.g (.int .i64 (f.N (dI (L.getD i bg) f.n f.N)).un)), .iv (.g (.int .i64 (f.N (dI (L.getD i bg) f.n f.N)).ca)), .iv (.lst 3 (f.N (dI (L.getD i bg) f.n f.N)).n (dZ (f.N (dI (L.getD i bg) f.n f.N)).p))], some [.iv (.g (.int .i64 (f.N (dI (L.getD i bg) f.n f.N)).oc)), .iv (.g (.int .i64 (f.N (dI (L.getD i bg) f.n f.N)).nu)), .iv (.g (.int .i64 (f.N (dI (L.getD i bg) f.n f.N)).kd)), .iv (.g (.int .i64 (f.N (dI (L.getD i bg) f.n f.N)).fr)), .iv (.g (.int .i64 (f.N (dI (L.getD i bg) f.n f.N)).un)), .iv (.g (.int .i64 (f.N (dI (L.getD i bg) f.n f.N)).ca)), .iv (.lst 3 (f.N (dI (L.getD i bg) f.n f.N)).n (dZ (f.N (dI (L.getD i bg) f.n f.N)).p))], none, none, none, none, none, none, none, none, none, none, some [.iv (.g (.int .i64 (mQ (L.getD i bg) (f.N (dI (L.getD i bg) f.n f.N))).ch)), .iv (.g (.int .i64 (mQ (L.getD i bg) (f.N (dI (L.getD i bg) f.n f.N))).sc)), .iv (.g (.int .i64 (mQ (L.getD i bg) (f.N (dI (L.getD i bg) f.n f.N))).ed)), .iv (.g (.int .i64 (mQ (L.getD i bg) (f.N (dI (L.getD i bg) f.n f.N))).m.A)), .iv (.g (.int .i64 (mQ (L.getD i bg) (f.N (dI (L.getD i bg) f.n f.N))).m.B)), .iv (.g (.int .i64 (mQ (L.getD i bg) (f.N (dI (L.getD i bg) f.n f.N))).m.C)), .iv (.g (.int .i64 (mQ (L.getD i bg) (f.N (dI (L.getD i bg) f.n f.N))).m.D)), .iv (.g (.int .i64 (mQ (L.getD i bg) (f.N (dI (L.getD i bg) f.n f.N))).m.E)), .iv (.g (.int .i64 (mQ (L.getD i bg) (f.N (dI (L.getD i bg) f.n f.N))).m.F)), .iv (.g (.int .i64 (mQ (L.getD i bg) (f.N (dI (L.getD i bg) f.n f.N))).m.R)), .iv (.g (.int .i64 (mQ (L.getD i bg) (f.N (dI (L.getD i bg) f.n f.N))).cap)), .iv (.lst 1 (mQ (L.getD i bg) (f.N (dI (L.getD i bg) f.n f.N))).q (bC (mQ (L.getD i bg) (f.N (dI (L.getD i bg) f.n f.N))).dn)), .iv (.lst 9 (mQ (L.getD i bg) (f.N (dI (L.getD i bg) f.n f.N))).n (dN (mQ (L.getD i bg) (f.N (dI (L.getD i bg) f.n f.N))).f))]]) := by
  have hn := hf.n
  have hsub := KE (L := L) (i := i) (by omega)
  have hupd2 := DY (L := L) (i := i) (by omega)
  simp only [c13] at hupd2
  refine CO Tryz.func88 rfl (by rw [Tryz.ntmps88]; simp) fun g ls fr hG hFr => ?_
  obtain ⟨f0, d0⟩ := hFr fr (Nat.le_refl _)
  obtain ⟨f1, d1⟩ := hFr (fr + 1) (by omega)
  obtain ⟨f2, d2⟩ := hFr (fr + 2) (by omega)
  simp only [Tryz.ntmps88, au, Nat.zero_add, Nat.reduceAdd]
  repeat' (first
 | ((refine mJ ?_ ?_) <;> (intro hc; (try rw [hc]); (try simp only [zB, zC, reduceCtorEq] at hc); (try (exfalso; contradiction))))
 | ((with_reducible show AW _ _ _ _); first
 | (with_reducible first | refine aS (fun K hK => ?_) | refine aI ?_ | refine aX ?_ | refine aT ?_ | refine aC ?_ | refine aB ?_)
 | ((refine eT (k := 91) rfl Tryz.func91 rfl Aj (by rw [Tryz.ntmps91]; simp) ?_ ?_ (fun l hlne A B hA hB => ?_)); (focus (simp (maxSteps := 2000000) only [go_sem, reduceIte, reduceCtorEq, xA, xL, xD, xE, xM, xS, xB, Tryz.f88, Tryz.f91, Tryz.f46, dh, cB, cK, cO, cu, cZ, bZ, bY, bX, dw, bJ, bH, bI, bC, hsub, hupd2, c13, eH, gI, hL, f0, d0, f1, d1, f2, d2, Nat.add_eq_left, Nat.left_eq_add]; try exact True.intro)); (focus (simp (maxSteps := 2000000) only [go_sem, reduceIte, reduceCtorEq, xA, xL, xD, xE, xM, xS, xB, Tryz.f88, Tryz.f91, Tryz.f46, dh, cB, cK, cO, cu, cZ, bZ, bY, bX, dw, bJ, bH, bI, bC, hsub, hupd2, c13, eH, gI, hL, f0, d0, f1, d1, f2, d2, Nat.add_eq_left, Nat.left_eq_add]; try exact True.intro)); simp only [Tryz.ntmps91, List.map_cons, List.map_nil, LV.tv, au, yV, Nat.zero_add, Nat.reduceAdd]; clear hlne)
 | (with_reducible refine vN (by assumption) ?_)
 | (first
 | (with_reducible first | refine aP (ops := #[⟨some 2, _, _, _, _, _⟩]) 0 [0,1,14] ?_ | refine aP (ops := #[⟨some 6, _, _, _, _, _⟩, _, _]) 0 [0,1,2] ?_ | refine aP (ops := #[⟨some 2, _, _, _, _, _⟩, _, _]) 0 [0,1] ?_ | refine aP (ops := #[⟨some 9, _, _, _, _, _⟩]) 1 [0,2,6,7,8] ?_ | refine aP (ops := #[⟨some 5, _, _, _, _, _⟩, _]) 1 [2,3] ?_)
 | ((with_reducible refine aR (c := Code.region 1 _ true) [0,1,2,14] ?_); (with_reducible refine l5 7 ?_ ?_ ?_ ?_ ?_); (focus kernel_rfl); (focus kernel_rfl); (focus kernel_rfl); (focus kernel_rfl))
 | (with_reducible first | refine aP (ops := #[⟨some 3, _, _, _, _, _⟩, _]) 2 [0,1,2,14] ?_ | refine aP (ops := #[⟨some 10, _, _, _, _, _⟩, _, _, _]) 2 [0,2,6,7,8] ?_ | refine aP 3 [0,2,5,6,7,8] ?_)
 | ((with_reducible refine aR (c := Code.region 3 _ true) [0,1,2,3,14] ?_); (with_reducible refine aD ?_ ?_ ?_ ?_); (focus kernel_rfl); (focus kernel_rfl); (focus kernel_rfl))
 | (with_reducible first | refine aP (ops := #[⟨some 25, _, _, _, _, _⟩, _]) 4 [0,1,2,4,5,14] ?_ | refine aP (ops := #[⟨some 30, _, _, _, _, _⟩, _]) 4 [0,2,6,7,8] ?_ | refine aP 5 [0,1,2,4] ?_ | refine aP 6 [2] ?_ | refine aP 7 [2] ?_))
 | ((with_reducible show AW _ (Code.loop _) _ _); first
 | ((with_reducible refine rG (c := (Code.seq (Code.region 1 _ _) _)) (ι := Nat) [0,2,6,7] (fun v => [(8, iA .i64 (v : Int))]) (fun v => [some [.slc 2 0 f.k 13, .iv (.lst 7 f.n (dX f.N))], some [.iv (.g (.slice none 0 0)), .iv (.g (.slice none 0 0))], some (eY (L)), some [.iv (.g (.int .i64 (i : Int)))], some [.iv (.g (.bool false))], some [.iv (.g (.int .i64 (L.getD i bg).ch)), .iv (.g (.int .i64 (L.getD i bg).sc)), .iv (.g (.int .i64 (L.getD i bg).ed)), .iv (.g (.int .i64 (L.getD i bg).m.A)), .iv (.g (.int .i64 (L.getD i bg).m.B)), .iv (.g (.int .i64 (L.getD i bg).m.C)), .iv (.g (.int .i64 (L.getD i bg).m.D)), .iv (.g (.int .i64 (L.getD i bg).m.E)), .iv (.g (.int .i64 (L.getD i bg).m.F)), .iv (.g (.int .i64 (L.getD i bg).m.R)), .iv (.g (.int .i64 (L.getD i bg).cap)), .iv (.lst 1 (L.getD i bg).q (bC (L.getD i bg).dn)), .iv (.lst 9 (L.getD i bg).n (dN (L.getD i bg).f))], some [.iv (.lst 7 f.n (dX f.N))]]) (fun v => v <= f.n /\ (∀ t, t < v -> (rU (L.getD i bg) (f.N t) && decide (pQ (L.getD i bg) (f.N t) = 0)) = false)) (fun v => f.n - v) 0 ?lg1 ?l11 ?l21 ?li1 ?lr1); (case' lg1 => rintro v _; exact z8.cons (by simp only [List.mem_cons, forall_eq_or_imp, List.not_mem_nil, false_or, or_false, forall_eq, false_implies, implies_true, and_true, AV.ok, TV.ok, CV.ok, LV.ok, okB, hget, Option.isSome_some]; (repeat' (first | exact True.intro | (with_reducible refine And.intro ?_ ?_) | rfl))) (hG.mono (nZ (by simp only [Rf])))); (case' li1 => try (exact ⟨Nat.zero_le _, fun i hi => absurd hi (Nat.not_lt_zero _)⟩)); (case' lr1 => rintro v ⟨hv, hav⟩ KR hR1; simp only [bG, dL, hset, lk, if_true, if_false, xE, reduceIte, zN, dh, cB, cK, cO, cu, cZ, bZ, bY, bX, dw, bJ, bH, bI, hsub, hupd2, c13, eH, gI, hL, f0, d0, f1, d1, f2, d2, Nat.add_eq_left, Nat.left_eq_add]))))
 | ((first | (with_reducible refine And.intro ?_ ?_) | (with_reducible refine Need.mk ?_)); focus (first | exact True.intro | omega | (intro _; (with_reducible assumption))))
 | (with_reducible refine Zz rfl rfl rfl ?_)
 | ((with_reducible show bL _ _ _ _ _ _); first
 | ((with_reducible refine aN ?_ ?_) <;> (intro hc; (try simp only [zB, zC, reduceCtorEq] at hc); ((try (have e := Yb (s := (L.getD i bg)) (n := f.n) (N := f.N) (i := v) (by omega) (WA (by assumption)) (by assumption) hav; subst e))); (try (exfalso; contradiction)))))
 | ((with_reducible show ∀ _ : AS -> Prop, _ -> _); intro K hK)
 | ((with_reducible refine And.intro ?_ ?_); focus (((with_reducible show zA _ _ _ _ = true); kernel_rfl)))
 | ((with_reducible refine And.intro ?_ ?_); focus ((with_reducible show iL _ _ _ = true); kernel_rfl))
 | ((with_reducible show aZ _ _ _ _ _ _ _ _ _ _); first
 | (refine aG (k := 70) qP (Di (f.N v) (L.getD i bg).ch (hf.nn v (by omega))) ?_ ?_)
 | ((refine bW (k := 46) Tryz.func46 rfl uK (by rw [Tryz.ntmps46]; simp) ?_ ?_ (fun K hK => ?_)); (focus (exact True.intro)); (focus (assumption)); simp only [Tryz.ntmps46, List.map_cons, List.map_nil, List.nil_append, List.cons_append, List.append_nil, LV.tv, au, Nat.zero_add, Nat.reduceAdd]))
 | ((with_reducible show bM _ _ _ _ _ _ _ _ _ _); first
 | (refine aV (k := 92) uV (fun hg => GK (L.getD i bg).q (L.getD i bg).dn (f.N v).nu hS.q) ?_ ?_))
 | ((with_reducible show eP _ _ _ _ _ _ _ _ _ _ _ _ _); first
 | (refine bR (k := 16) FN (aaJ (L.getD i bg) (f.N v) hS (hf.nn v (by omega))) ?_ ?_))
 | ((with_reducible refine hR1 _ (v + 1) ?_); (try clear hR1 KR))
 | ((with_reducible refine Told.mk ?_); simp only [go_sem, reduceIte, reduceCtorEq, xA, xL, xD, xE, xM, xS, xB, dh, cB, cK, cO, cu, cZ, bZ, bY, bX, dw, bJ, bH, bI, bC, hsub, hupd2, c13, eH, gI, hL, f0, d0, f1, d1, f2, d2, Nat.add_eq_left, Nat.left_eq_add] <;> ((((try simp (disch := omega) only [aY, Int.natCast_add, Int.cast_ofNat_Int, and_true, true_and, and_self]); (repeat' (first | omega | (with_reducible refine And.intro ?_ ?_) | ((exact all_succ (by assumption) (alu (by assumption)))) | ((exact all_succ (by assumption) (ak4 (by assumption)))) | ((exact kZ rfl (lQ _))))); done))))
 | ((fail_if_success (with_reducible show AW _ _ _ _)); simp (maxSteps := 2000000) only [go_sem, reduceIte, reduceCtorEq, xA, xL, xD, xE, xM, xS, xB, Tryz.f88, Tryz.f91, Tryz.f46, dh, cB, cK, cO, cu, cZ, bZ, bY, bX, dw, bJ, bH, bI, bC, hsub, hupd2, c13, eH, gI, hL, f0, d0, f1, d1, f2, d2, Nat.add_eq_left, Nat.left_eq_add])
 | ((with_reducible show aZ _ _ _ _ _ _ (.yld _) _ _ _); (refine lG (by simp only [Fg, if_true]; exact rfl) ?_ (by simp) ?_ ?_ (fun K hK => ?_)); (focus (exact True.intro)); (focus (simp [nk])); (focus (exact ⟨Nat.ne_of_lt (Nat.lt_succ_self _), by assumption⟩)); simp only [jm, gf, if_true, Nat.reduceAdd])
 | ((with_reducible refine hK _ ?_); clear hK K)
 | (with_reducible apply_assumption -exfalso only [*]))
  all_goals (exfalso; (have e := Mg (s := (L.getD i bg)) (n := f.n) (N := f.N) (fun j hj => hav j (by omega)); omega))
theorem aiV (f : aj) (hf : f.Ok) (L : List aF) (i : Nat) (hL : L.length = f.k) (hi : i < f.k) (hk : f.k <= 1000) (hS : (L.getD i bg).Ok) (hw : dI (L.getD i bg) f.n f.N = f.n) : iD Tryz.prog 88 [.one (.ptr 0 0), .one (.ptr 3 0)] ([some [.slc 2 0 f.k 13, .iv (.lst 7 f.n (dX f.N))], some [.iv (.g (.slice none 0 0)), .iv (.g (.slice none 0 0))], some (eY (L)), some [.iv (.g (.int .i64 (i : Int)))]]) (.t (.one (.iv (.g (.bool false))))) ([some [.slc 2 0 f.k 13, .iv (.lst 7 f.n (dX f.N))], some [.iv (.g (.slice none 0 0)), .iv (.g (.slice none 0 0))], some (eY (L)), some [.iv (.g (.int .i64 (i : Int)))], some [.iv (.g (.bool false))], some [.iv (.g (.int .i64 (L.getD i bg).ch)), .iv (.g (.int .i64 (L.getD i bg).sc)), .iv (.g (.int .i64 (L.getD i bg).ed)), .iv (.g (.int .i64 (L.getD i bg).m.A)), .iv (.g (.int .i64 (L.getD i bg).m.B)), .iv (.g (.int .i64 (L.getD i bg).m.C)), .iv (.g (.int .i64 (L.getD i bg).m.D)), .iv (.g (.int .i64 (L.getD i bg).m.E)), .iv (.g (.int .i64 (L.getD i bg).m.F)), .iv (.g (.int .i64 (L.getD i bg).m.R)), .iv (.g (.int .i64 (L.getD i bg).cap)), .iv (.lst 1 (L.getD i bg).q (bC (L.getD i bg).dn)), .iv (.lst 9 (L.getD i bg).n (dN (L.getD i bg).f))], some [.iv (.lst 7 f.n (dX f.N))]]) := by
  have hn := hf.n
  have hsub := KE (L := L) (i := i) (by omega)
  have hupd2 := DY (L := L) (i := i) (by omega)
  simp only [c13] at hupd2
  refine CO Tryz.func88 rfl (by rw [Tryz.ntmps88]; simp) fun g ls fr hG hFr => ?_
  obtain ⟨f0, d0⟩ := hFr fr (Nat.le_refl _)
  obtain ⟨f1, d1⟩ := hFr (fr + 1) (by omega)
  obtain ⟨f2, d2⟩ := hFr (fr + 2) (by omega)
  simp only [Tryz.ntmps88, au, Nat.zero_add, Nat.reduceAdd]
  repeat' (first
 | ((refine mJ ?_ ?_) <;> (intro hc; (try rw [hc]); (try simp only [zB, zC, reduceCtorEq] at hc); (try (exfalso; contradiction))))
 | ((with_reducible show AW _ _ _ _); first
 | (with_reducible first | refine aS (fun K hK => ?_) | refine aI ?_ | refine aX ?_ | refine aT ?_ | refine aC ?_ | refine aB ?_)
 | ((refine eT (k := 91) rfl Tryz.func91 rfl Aj (by rw [Tryz.ntmps91]; simp) ?_ ?_ (fun l hlne A B hA hB => ?_)); (focus (simp (maxSteps := 2000000) only [go_sem, reduceIte, reduceCtorEq, xA, xL, xD, xE, xM, xS, xB, Tryz.f88, Tryz.f91, Tryz.f46, dh, cB, cK, cO, cu, cZ, bZ, bY, bX, dw, bJ, bH, bI, bC, hsub, hupd2, c13, eH, gI, hL, f0, d0, f1, d1, f2, d2, Nat.add_eq_left, Nat.left_eq_add]; try exact True.intro)); (focus (simp (maxSteps := 2000000) only [go_sem, reduceIte, reduceCtorEq, xA, xL, xD, xE, xM, xS, xB, Tryz.f88, Tryz.f91, Tryz.f46, dh, cB, cK, cO, cu, cZ, bZ, bY, bX, dw, bJ, bH, bI, bC, hsub, hupd2, c13, eH, gI, hL, f0, d0, f1, d1, f2, d2, Nat.add_eq_left, Nat.left_eq_add]; try exact True.intro)); simp only [Tryz.ntmps91, List.map_cons, List.map_nil, LV.tv, au, yV, Nat.zero_add, Nat.reduceAdd]; clear hlne)
 | (with_reducible refine vN (by assumption) ?_)
 | (first
 | (with_reducible first | refine aP (ops := #[⟨some 2, _, _, _, _, _⟩]) 0 [0,1,14] ?_ | refine aP (ops := #[⟨some 6, _, _, _, _, _⟩, _, _]) 0 [0,1,2] ?_ | refine aP (ops := #[⟨some 2, _, _, _, _, _⟩, _, _]) 0 [0,1] ?_ | refine aP (ops := #[⟨some 9, _, _, _, _, _⟩]) 1 [0,2,6,7,8] ?_ | refine aP (ops := #[⟨some 5, _, _, _, _, _⟩, _]) 1 [2,3] ?_)
 | ((with_reducible refine aR (c := Code.region 1 _ true) [0,1,2,14] ?_); (with_reducible refine l5 7 ?_ ?_ ?_ ?_ ?_); (focus kernel_rfl); (focus kernel_rfl); (focus kernel_rfl); (focus kernel_rfl))
 | (with_reducible first | refine aP (ops := #[⟨some 3, _, _, _, _, _⟩, _]) 2 [0,1,2,14] ?_ | refine aP (ops := #[⟨some 10, _, _, _, _, _⟩, _, _, _]) 2 [0,2,6,7,8] ?_ | refine aP 3 [0,2,5,6,7,8] ?_)
 | ((with_reducible refine aR (c := Code.region 3 _ true) [0,1,2,3,14] ?_); (with_reducible refine aD ?_ ?_ ?_ ?_); (focus kernel_rfl); (focus kernel_rfl); (focus kernel_rfl))
 | (with_reducible first | refine aP (ops := #[⟨some 25, _, _, _, _, _⟩, _]) 4 [0,1,2,4,5,14] ?_ | refine aP (ops := #[⟨some 30, _, _, _, _, _⟩, _]) 4 [0,2,6,7,8] ?_ | refine aP 7 [2] ?_))
 | ((with_reducible show AW _ (Code.loop _) _ _); first
 | ((with_reducible refine rG (c := (Code.seq (Code.region 1 _ _) _)) (ι := Nat) [0,2,6,7] (fun v => [(8, iA .i64 (v : Int))]) (fun v => [some [.slc 2 0 f.k 13, .iv (.lst 7 f.n (dX f.N))], some [.iv (.g (.slice none 0 0)), .iv (.g (.slice none 0 0))], some (eY (L)), some [.iv (.g (.int .i64 (i : Int)))], some [.iv (.g (.bool false))], some [.iv (.g (.int .i64 (L.getD i bg).ch)), .iv (.g (.int .i64 (L.getD i bg).sc)), .iv (.g (.int .i64 (L.getD i bg).ed)), .iv (.g (.int .i64 (L.getD i bg).m.A)), .iv (.g (.int .i64 (L.getD i bg).m.B)), .iv (.g (.int .i64 (L.getD i bg).m.C)), .iv (.g (.int .i64 (L.getD i bg).m.D)), .iv (.g (.int .i64 (L.getD i bg).m.E)), .iv (.g (.int .i64 (L.getD i bg).m.F)), .iv (.g (.int .i64 (L.getD i bg).m.R)), .iv (.g (.int .i64 (L.getD i bg).cap)), .iv (.lst 1 (L.getD i bg).q (bC (L.getD i bg).dn)), .iv (.lst 9 (L.getD i bg).n (dN (L.getD i bg).f))], some [.iv (.lst 7 f.n (dX f.N))]]) (fun v => v <= f.n /\ (∀ t, t < v -> (rU (L.getD i bg) (f.N t) && decide (pQ (L.getD i bg) (f.N t) = 0)) = false)) (fun v => f.n - v) 0 ?lg1 ?l11 ?l21 ?li1 ?lr1); (case' lg1 => rintro v _; exact z8.cons (by simp only [List.mem_cons, forall_eq_or_imp, List.not_mem_nil, false_or, or_false, forall_eq, false_implies, implies_true, and_true, AV.ok, TV.ok, CV.ok, LV.ok, okB, hget, Option.isSome_some]; (repeat' (first | exact True.intro | (with_reducible refine And.intro ?_ ?_) | rfl))) (hG.mono (nZ (by simp only [Rf])))); (case' li1 => try (exact ⟨Nat.zero_le _, fun i hi => absurd hi (Nat.not_lt_zero _)⟩)); (case' lr1 => rintro v ⟨hv, hav⟩ KR hR1; simp only [bG, dL, hset, lk, if_true, if_false, xE, reduceIte, zN, dh, cB, cK, cO, cu, cZ, bZ, bY, bX, dw, bJ, bH, bI, hsub, hupd2, c13, eH, gI, hL, f0, d0, f1, d1, f2, d2, Nat.add_eq_left, Nat.left_eq_add]))))
 | ((first | (with_reducible refine And.intro ?_ ?_) | (with_reducible refine Need.mk ?_)); focus (first | exact True.intro | omega | (intro _; (with_reducible assumption))))
 | (with_reducible refine Zz rfl rfl rfl ?_)
 | ((with_reducible show bL _ _ _ _ _ _); first
 | ((with_reducible refine aN ?_ ?_) <;> (intro hc; (try simp only [zB, zC, reduceCtorEq] at hc); ((try (have e := Yb (s := (L.getD i bg)) (n := f.n) (N := f.N) (i := v) (by omega) (WA (by assumption)) (by assumption) hav; subst e))); (try (exfalso; omega)))))
 | ((with_reducible show ∀ _ : AS -> Prop, _ -> _); intro K hK)
 | ((with_reducible refine And.intro ?_ ?_); focus (((with_reducible show zA _ _ _ _ = true); kernel_rfl)))
 | ((with_reducible refine And.intro ?_ ?_); focus ((with_reducible show iL _ _ _ = true); kernel_rfl))
 | ((with_reducible show aZ _ _ _ _ _ _ _ _ _ _); first
 | (refine aG (k := 70) qP (Di (f.N v) (L.getD i bg).ch (hf.nn v (by omega))) ?_ ?_)
 | ((refine bW (k := 46) Tryz.func46 rfl uK (by rw [Tryz.ntmps46]; simp) ?_ ?_ (fun K hK => ?_)); (focus (exact True.intro)); (focus (assumption)); simp only [Tryz.ntmps46, List.map_cons, List.map_nil, List.nil_append, List.cons_append, List.append_nil, LV.tv, au, Nat.zero_add, Nat.reduceAdd]))
 | ((with_reducible show bM _ _ _ _ _ _ _ _ _ _); first
 | (refine aV (k := 92) uV (fun hg => GK (L.getD i bg).q (L.getD i bg).dn (f.N v).nu hS.q) ?_ ?_))
 | ((with_reducible show eP _ _ _ _ _ _ _ _ _ _ _ _ _); first
 | (refine bR (k := 16) FN (aaJ (L.getD i bg) (f.N v) hS (hf.nn v (by omega))) ?_ ?_))
 | ((with_reducible refine hR1 _ (v + 1) ?_); (try clear hR1 KR))
 | ((with_reducible refine Told.mk ?_); simp only [go_sem, reduceIte, reduceCtorEq, xA, xL, xD, xE, xM, xS, xB, dh, cB, cK, cO, cu, cZ, bZ, bY, bX, dw, bJ, bH, bI, bC, hsub, hupd2, c13, eH, gI, hL, f0, d0, f1, d1, f2, d2, Nat.add_eq_left, Nat.left_eq_add] <;> ((((try simp (disch := omega) only [aY, Int.natCast_add, Int.cast_ofNat_Int, and_true, true_and, and_self]); (repeat' (first | omega | (with_reducible refine And.intro ?_ ?_) | ((exact all_succ (by assumption) (alu (by assumption)))) | ((exact all_succ (by assumption) (ak4 (by assumption)))) | ((exact kZ rfl (lQ _))))); done))))
 | ((fail_if_success (with_reducible show AW _ _ _ _)); simp (maxSteps := 2000000) only [go_sem, reduceIte, reduceCtorEq, xA, xL, xD, xE, xM, xS, xB, Tryz.f88, Tryz.f91, Tryz.f46, dh, cB, cK, cO, cu, cZ, bZ, bY, bX, dw, bJ, bH, bI, bC, hsub, hupd2, c13, eH, gI, hL, f0, d0, f1, d1, f2, d2, Nat.add_eq_left, Nat.left_eq_add])
 | ((with_reducible show aZ _ _ _ _ _ _ (.yld _) _ _ _); (refine lG (by simp only [Fg, if_true]; exact rfl) ?_ (by simp) ?_ ?_ (fun K hK => ?_)); (focus (exact True.intro)); (focus (simp [nk])); (focus (exact ⟨Nat.ne_of_lt (Nat.lt_succ_self _), by assumption⟩)); simp only [jm, gf, if_true, Nat.reduceAdd])
 | ((with_reducible refine hK _ ?_); clear hK K)
 | (with_reducible apply_assumption -exfalso only [*]))
  all_goals (exfalso; (have e := Mg (s := (L.getD i bg)) (n := f.n) (N := f.N) (fun j hj => hav j (by omega)); omega))
end Go.Proofs.YtcfechepbamhkaaGreat
namespace Go.Proofs.YtcfechepbamhkaaGreat
open Go.RowKit Go.Sea Go.Lib
theorem ZQ : Tryz.prog.underlying 22 = some (.slice 39) := by kernel_rfl
theorem akD : (Tryz.prog.info? 39).map (fun i => (i.size, i.bytes, i.zero.map (·.cells.size))) = some (13, 136, some 13) := by kernel_rfl
set_option maxHeartbeats 4000000 in
set_option maxRecDepth 100000 in
set_option maxHeartbeats 2000000 in
theorem Mt (cap : Nat) (w : World) : Calls Tryz.prog 80 #[.slice none 0 cap] w fun e w' => e = .returned (.slice none 0 0) /\ w' = w := by
  have q : (binOp .eql 22 (.slice none 0 cap) (.slice none 0 0)).run Tryz.prog w = .ok (.bool true) w := run_eql_slice_nil w 22 39 none 0 cap ZQ
  go_enter Tryz.func80, Tryz.ntmps80
  go_wp2
  go_ret
  exact ⟨rfl, rfl⟩
set_option maxHeartbeats 4000000 in
set_option maxRecDepth 100000 in
theorem y8 (p : Addr) (n cap : Nat) (w w' : World) (u : Value) (h : ∀ ty, (Builtin.append_ #[22,22] ty #[.slice (some ⟨w.heap.size, 0, none⟩) 0 0, .slice (some p) n cap]).run Tryz.prog (w.alloc (.cells #[] 39)) = .ok u w') : Calls Tryz.prog 80 #[.slice (some p) n cap] w fun e w'' => e = .returned u /\ w'' = w' := by
  have q : (binOp .eql 22 (.slice (some p) n cap) (.slice none 0 0)).run Tryz.prog w = .ok (.bool false) w := run_eql_slice_nil w 22 39 (some p) n cap ZQ
  go_enter Tryz.func80, Tryz.ntmps80
  go_wp2_with (at_builtin; refine Lib.wpList_append_run _ rfl _ _ _ _ rfl _ _ rfl rfl _ _ (h _) ?_)
  all_goals (go_ret; exact ⟨rfl, rfl⟩)
set_option maxHeartbeats 2000000 in
theorem Ir (n : Nat) (f : Nat -> Nat -> IV) (hn : n <= 1000) : l7 Tryz.prog 80 [.one (.iv (.lst 13 n f))] (eO f 13 n 0) (fun i => .t (.one (.slc i 0 n 13))) := by
  intro H i hH w0 Z0 J Z s a w vs R hs hv
  subst hs
  obtain ⟨vs⟩ := vs
  match vs, hv with
  | [v], ⟨hv, _⟩ =>
    have hv : Rd w Z v (.lst 13 n f) := hv
    have hlen : (eO f 13 n 0).length = n * 13 := gK f 13 n 0
    have empty : ∀ (p : Addr) (cap : Nat), n = 0 -> v = .slice (some p) 0 cap -> Calls Tryz.prog 80 #[v] w fun e w' => ∃ v J' Z', e = .returned v /\ Rel w0 Z0 J' Z' { s with heap := hset s.heap i (eO f 13 n 0) } a w' /\ bB w' J' Z' v (.t (.one (.slc i 0 n 13))) := fun p cap h0 ev => by
      subst h0; subst ev
      obtain ⟨ii, h33⟩ : ∃ ii, Tryz.prog.info? 39 = some ii := by
        have := akD
        cases h : Tryz.prog.info? 39 with
        | none => rw [h] at this; cases this
        | some i => exact ⟨i, rfl⟩
      refine (y8 p 0 cap w _ _ fun ty => gX ZQ h33 _ _ 0 0 cap (Nat.le_refl _)).mono fun e w' ⟨he, hw⟩ => ?_
      subst hw
      have R1 := R.new (nid := i) (cs := []) (c := #[]) (e := 39) (H := hset s.heap i []) hH (aH _ _ _) (fun q hq => aJ _ _ _ _ hq) (by simp [aO])
      exact ⟨_, _, _, he, R1, Or.inr ⟨w.heap.size, 0, #[], 39, rfl, by simp [gF], Nat.zero_le _, Nat.zero_le _, heap_alloc_new w _, by simp⟩⟩
    have hv0 := hv
    cases hv with
    | nil p cap =>
      cases p with
      | none =>
        refine (Mt cap w).mono fun e w' ⟨he, hw⟩ => ?_
        subst hw
        exact ⟨_, J, Z, he, R.qz (nid := i) hH (by rw [aH]; rfl) (fun q hq => aJ _ _ _ _ hq), Or.inl ⟨rfl, rfl⟩⟩
      | some p => exact empty p cap rfl rfl
    | lst b off _ cap _ _ X hz hc hm h1 h2 =>
      by_cases h0 : n = 0
      · exact empty ⟨b, off, none⟩ cap h0 (by rw [h0])
      · obtain ⟨hR1, G⟩ := R.call (ni w (.cells #[] 39))
        have hv1 : bQ (w.alloc (.cells #[] 39)) J (fun b => Z b \/ (w.heap.size <= b /\ b < (w.alloc (.cells #[] 39)).heap.size)) (.slice (some ⟨b, off, none⟩) n cap) (.one (.iv (.lst 13 n f))) := bK.grow G (CV.bP (.iv (.lst 13 n f))) hv0
        obtain ⟨ii, z, t1, t2, t3, t4, t5, t6, t7⟩ := gZ (P := Tryz.prog) (t := 22) (e := 39) (n := 13) (b := 136) (by kernel_rfl)
        rcases ku hR1 (size := 13) (m := n) (nd := True) (x := .one (.iv (.lst 13 n f))) (ns := eO f 13 n 0) (by simp [vR]) trivial hv1 with ⟨h, _⟩ | ⟨hpos, b2, off2, cap2, news, e2, n1, n2, n3, n4⟩
        · exact absurd h h0
        · cases e2
          have hrun := fun ty => run_append_grow (P := Tryz.prog) (w.alloc (.cells #[] 39)) 22 ty 39 ii z t1 t2 t3 ⟨w.heap.size, 0, none⟩ 0 0 [] (by simp) (fun j v h => by simp at h) ⟨b, off, none⟩ n cap news (by rw [n1, t5]) n2 (by omega) (by omega) (by
            rw [t6]; exact growslice_fits (by omega) (by omega))
          simp only [Nat.zero_add] at hrun
          have hsz := grownCap_ge (w.alloc (.cells #[] 39)) n 0 39
          have hmx := grownCap_le_maxLen (w.alloc (.cells #[] 39)) n 0 39 (by unfold maxLen; omega)
          generalize grownCap (w.alloc (.cells #[] 39)) n 0 39 = G at hrun hsz hmx
          have hC : G * 13 <= (([] : List Value).toArray ++ news.toArray ++ Builtin.zeroCells z.cells (G - n)).size := by
            simp only [Array.size_append, size_zeroCells, t4, List.size_toArray, n1, List.length_nil]
            omega
          have hD : aO (bK (w.alloc (.cells #[] 39)) J (fun b => Z b \/ (w.heap.size <= b /\ b < (w.alloc (.cells #[] 39)).heap.size))) ((([] : List Value).toArray ++ news.toArray ++ Builtin.zeroCells z.cells (G - n)).toList.take (eO f 13 n 0).length) (eO f 13 n 0) := by
            rw [Array.toList_append, Array.toList_append, List.nil_append, List.take_append_of_le_length (by simp; omega), List.take_of_length_le (by simp; omega)]
            exact n4
          generalize ([] : List Value).toArray ++ news.toArray ++ Builtin.zeroCells z.cells (G - n) = C at hrun hC hD
          have cl := y8 ⟨b, off, none⟩ n cap w _ _ hrun
          have R2 := (hR1.drew).new (nid := i) (cs := eO f 13 n 0) (c := C) (e := 39) (H := hset s.heap i (eO f 13 n 0)) hH (aH _ _ _) (fun q hq => aJ _ _ _ _ hq) (lT hD)
          have hA := heap_alloc_new (w.alloc (.cells #[] 39)).drew (.cells C 39)
          generalize hw1 : w.alloc (.cells #[] 39) = w1 at cl R2 hA
          refine cl.mono fun e w' ⟨he, hw⟩ => ?_
          subst hw
          exact ⟨_, _, _, he, R2, Or.inr ⟨_, _, _, 39, rfl, by simp [gF], hsz, hmx, hA, by rw [Nat.zero_add]; exact hC⟩⟩
end Go.Proofs.YtcfechepbamhkaaGreat
set_option maxRecDepth 100000
set_option maxHeartbeats 4000000
namespace Go.Proofs.YtcfechepbamhkaaGreat
open Go.RowKit Go.Sea
open Nat renaming reduceAdd -> xA, reduceLT -> xL, reduceLeDiff -> xD, reduceEqDiff -> xE, reduceMul -> xM, reduceSub -> xS, reduceBEq -> xB
theorem Xd : aM Tryz.prog 119 = true := by kernel_rfl
theorem GA : aM Tryz.prog 80 = true := by kernel_rfl
theorem Qe : aM Tryz.prog 88 = true := by kernel_rfl
theorem amK : fM Tryz.prog 25 = true := by kernel_rfl
theorem afa : dA Tryz.prog 25 1 = some (1, 1) := by kernel_rfl
theorem ami : fO Tryz.prog 25 = some [.iv (.g (.slice none 0 0)), .iv (.g (.slice none 0 0))] := by kernel_rfl
attribute [go_sem] Xd GA amK afa ami
theorem uR {P : Program} {k : FuncId} {ts : List TV} {cs : List CV} {r : Nat -> AV} (h : l7 P k ts cs r) {H : List (Option (List CV))} {i : Nat} (hi : hget H i = none) : iD P k ts H (r i) (hset H i cs) := h H i hi
def iT (f : aj) (i : Nat) : List aF := (List.range f.k).map fun j => if j < i then rJ (f.S j) f.n f.N else f.S j
theorem fZ (f : aj) (i : Nat) : (iT f i).length = f.k := by simp [iT]
theorem BD {f : aj} {i j : Nat} (h : j < f.k) : (iT f i).getD j bg = if j < i then rJ (f.S j) f.n f.N else f.S j := by
  simp [iT, List.getD, h]
theorem NW {f : aj} {i : Nat} (h : i < f.k) (X : aF) : ((iT f i).set i X).getD i bg = X := by
  rw [List.getD, List.getElem?_set_self (by rw [fZ]; exact h)]; rfl
theorem ahM {f : aj} {i : Nat} (h : i < f.k) : (iT f i).set i (vO (f.S i) f.n f.N 0) = iT f i := by
  have e : (iT f i)[i]'(by rw [fZ]; exact h) = f.S i := by simp [iT]
  show (iT f i).set i (f.S i) = _
  rw [<- e]; exact List.set_getElem_self _
theorem agM {f : aj} {i j : Nat} (h : i < f.k) (hg : goW (f.S i) f.n f.N j) (hw : dI (vO (f.S i) f.n f.N j) f.n f.N = f.n) : (iT f i).set i (vO (f.S i) f.n f.N j) = iT f (i + 1) := by
  rw [<- Vz hg hw]
  refine List.ext_getElem (by rw [List.length_set, fZ, fZ]) fun u h1 h2 => ?_
  rw [List.getElem_set]
  by_cases hu : i = u
  · rw [if_pos hu]; subst hu; simp [iT]
  · rw [if_neg hu]
    simp only [iT, List.getElem_map, List.getElem_range]
    by_cases g : u < i
    · rw [if_pos g, if_pos (by omega)]
    · rw [if_neg g, if_neg (by omega)]
theorem WX {f : aj} {i : Nat} (hi : (f.k : Int) <= i) : ∀ j o, j < f.k -> o < 13 -> (Im ((eY (iT f i)).getD (j * 13 + o) .any)).eqv (iR (uz f).S j o) := fun j o hj ho => by
  have h := KI (iT f i) j o (by rw [fZ]; exact hj) ho
  rw [BD hj, if_pos (by omega)] at h; exact h
theorem WZ (S : Nat -> aF) : ∀ (n : Nat), Go.Sea.eO (iR S) 13 n 0 = eY ((List.range n).map S) := fun n => by
  have hl : (Go.Sea.eO (iR S) 13 n 0).length = (eY ((List.range n).map S)).length := by rw [gK, eH]; simp
  refine List.ext_getElem? fun i => ?_
  by_cases h : i < n * 13
  · have e : i = i / 13 * 13 + i % 13 := by omega
    have h1 := pW (iR S) 13 n 0 (i / 13) (i % 13) (by omega) (Nat.mod_lt _ (by decide))
    rw [Nat.zero_add, <- e] at h1
    rw [h1]
    have h2 := uJ ((List.range n).map S) (i / 13) (i % 13) (by simp; omega) (Nat.mod_lt _ (by decide))
    rw [<- e] at h2
    have hlt : i < (eY ((List.range n).map S)).length := by rw [eH]; simp; omega
    rw [List.getD, List.getElem?_eq_getElem hlt, Option.getD_some] at h2
    rw [List.getElem?_eq_getElem hlt, h2]
    have e3 : ((List.range n).map S).getD (i / 13) bg = S (i / 13) := by
      have : i / 13 < n := by omega
      simp [List.getD, this]
    rw [e3]
    have hm := Nat.mod_lt i (show 0 < 13 by decide)
    generalize i % 13 = o at hm
    generalize i / 13 = q
    rcases (by omega : o = 0 \/ o = 1 \/ o = 2 \/ o = 3 \/ o = 4 \/ o = 5 \/ o = 6 \/ o = 7 \/ o = 8 \/ o = 9 \/ o = 10 \/ o = 11 \/ o = 12) with rfl | rfl | rfl | rfl | rfl | rfl | rfl | rfl | rfl | rfl | rfl | rfl | rfl <;> rfl
  · rw [List.getElem?_eq_none (by rw [gK]; omega), List.getElem?_eq_none (by rw [eH]; simp; omega)]
theorem nQ (f : aj) : Go.Sea.eO (iR f.S) 13 f.k 0 = eY (iT f 0) := by
  rw [WZ]; congr 1
theorem aen (f : aj) (hf : f.Ok) (L : List aF) (i : Nat) (hL : L.length = f.k) (hi : i < f.k) (hk : f.k <= 1000) (X : aF) (hX : L.getD i bg = X) (hS : X.Ok) (hw : dI X f.n f.N < f.n) : iD Tryz.prog 88 [.one (.ptr 0 0), .one (.ptr 3 0)] ([some [.slc 2 0 f.k 13, .iv (.lst 7 f.n (dX f.N))], some [.iv (.g (.slice none 0 0)), .iv (.g (.slice none 0 0))], some (eY (L)), some [.iv (.g (.int .i64 (i : Int)))]]) (.t (.one (.iv (.g (.bool true))))) ([some [.slc 2 0 f.k 13, .iv (.lst 7 f.n (dX f.N))], some [.iv (.g (.slice none 0 0)), .iv (.g (.slice none 0 0))], some (eY (L.set i (mQ X (f.N (dI X f.n f.N))))), some [.iv (.g (.int .i64 (i : Int)))], some [.iv (.g (.bool true))], some [.iv (.g (.int .i64 X.ch)), .iv (.g (.int .i64 X.sc)), .iv (.g (.int .i64 X.ed)), .iv (.g (.int .i64 X.m.A)), .iv (.g (.int .i64 X.m.B)), .iv (.g (.int .i64 X.m.C)), .iv (.g (.int .i64 X.m.D)), .iv (.g (.int .i64 X.m.E)), .iv (.g (.int .i64 X.m.F)), .iv (.g (.int .i64 X.m.R)), .iv (.g (.int .i64 X.cap)), .iv (.lst 1 X.q (bC X.dn)), .iv (.lst 9 X.n (dN X.f))], some [.iv (.lst 7 f.n (dX f.N))], some [.iv (.g (.int .i64 (f.N (dI X f.n f.N)).oc)), .iv (.g (.int .i64 (f.N (dI X f.n f.N)).nu)), .iv (.g (.int .i64 (f.N (dI X f.n f.N)).kd)), .iv (.g (.int .i64 (f.N (dI X f.n f.N)).fr)), .iv (.g (.int .i64 (f.N (dI X f.n f.N)).un)), .iv (.g (.int .i64 (f.N (dI X f.n f.N)).ca)), .iv (.lst 3 (f.N (dI X f.n f.N)).n (dZ (f.N (dI X f.n f.N)).p))], some [.iv (.g (.int .i64 (f.N (dI X f.n f.N)).oc)), .iv (.g (.int .i64 (f.N (dI X f.n f.N)).nu)), .iv (.g (.int .i64 (f.N (dI X f.n f.N)).kd)), .iv (.g (.int .i64 (f.N (dI X f.n f.N)).fr)), .iv (.g (.int .i64 (f.N (dI X f.n f.N)).un)), .iv (.g (.int .i64 (f.N (dI X f.n f.N)).ca)), .iv (.lst 3 (f.N (dI X f.n f.N)).n (dZ (f.N (dI X f.n f.N)).p))], none, none, none, none, none, none, none, none, none, none, some [.iv (.g (.int .i64 (mQ X (f.N (dI X f.n f.N))).ch)), .iv (.g (.int .i64 (mQ X (f.N (dI X f.n f.N))).sc)), .iv (.g (.int .i64 (mQ X (f.N (dI X f.n f.N))).ed)), .iv (.g (.int .i64 (mQ X (f.N (dI X f.n f.N))).m.A)), .iv (.g (.int .i64 (mQ X (f.N (dI X f.n f.N))).m.B)), .iv (.g (.int .i64 (mQ X (f.N (dI X f.n f.N))).m.C)), .iv (.g (.int .i64 (mQ X (f.N (dI X f.n f.N))).m.D)), .iv (.g (.int .i64 (mQ X (f.N (dI X f.n f.N))).m.E)), .iv (.g (.int .i64 (mQ X (f.N (dI X f.n f.N))).m.F)), .iv (.g (.int .i64 (mQ X (f.N (dI X f.n f.N))).m.R)), .iv (.g (.int .i64 (mQ X (f.N (dI X f.n f.N))).cap)), .iv (.lst 1 (mQ X (f.N (dI X f.n f.N))).q (bC (mQ X (f.N (dI X f.n f.N))).dn)), .iv (.lst 9 (mQ X (f.N (dI X f.n f.N))).n (dN (mQ X (f.N (dI X f.n f.N))).f))]]) := by
  subst hX; exact ahP f hf L i hL hi hk hS hw
theorem acY (f : aj) (hf : f.Ok) (L : List aF) (i : Nat) (hL : L.length = f.k) (hi : i < f.k) (hk : f.k <= 1000) (X : aF) (hX : L.getD i bg = X) (hS : X.Ok) (hw : dI X f.n f.N = f.n) : iD Tryz.prog 88 [.one (.ptr 0 0), .one (.ptr 3 0)] ([some [.slc 2 0 f.k 13, .iv (.lst 7 f.n (dX f.N))], some [.iv (.g (.slice none 0 0)), .iv (.g (.slice none 0 0))], some (eY (L)), some [.iv (.g (.int .i64 (i : Int)))]]) (.t (.one (.iv (.g (.bool false))))) ([some [.slc 2 0 f.k 13, .iv (.lst 7 f.n (dX f.N))], some [.iv (.g (.slice none 0 0)), .iv (.g (.slice none 0 0))], some (eY (L)), some [.iv (.g (.int .i64 (i : Int)))], some [.iv (.g (.bool false))], some [.iv (.g (.int .i64 X.ch)), .iv (.g (.int .i64 X.sc)), .iv (.g (.int .i64 X.ed)), .iv (.g (.int .i64 X.m.A)), .iv (.g (.int .i64 X.m.B)), .iv (.g (.int .i64 X.m.C)), .iv (.g (.int .i64 X.m.D)), .iv (.g (.int .i64 X.m.E)), .iv (.g (.int .i64 X.m.F)), .iv (.g (.int .i64 X.m.R)), .iv (.g (.int .i64 X.cap)), .iv (.lst 1 X.q (bC X.dn)), .iv (.lst 9 X.n (dN X.f))], some [.iv (.lst 7 f.n (dX f.N))]]) := by
  subst hX; exact aiV f hf L i hL hi hk hS hw
theorem aii (f : aj) (hf : f.Ok) (hk : f.k <= 1000) : aA Tryz.prog 44 [j6 f] (.t (j6 (uz f))) := by
  have hn := hf.n
  refine ak Tryz.func44 rfl (by rw [Tryz.ntmps44]; simp) ?_
  simp only [Tryz.ntmps44, zM, PT.tv, au, Nat.zero_add, Nat.reduceAdd]
  repeat' (first
 | ((with_reducible show AW _ _ _ _); first
 | (with_reducible first | refine aS (fun K hK => ?_) | refine aI ?_ | refine aX ?_ | refine aT ?_ | refine aC ?_ | refine aB ?_)
 | (first
 | (with_reducible first | refine aP 0 [0] ?_ | refine aP 1 [1,2] ?_ | refine aP 2 [1,2] ?_ | refine aP 3 [1,2,11,12] ?_ | refine aP 4 [1,2,11,12] ?_ | refine aP 5 [1,2,3,11,12] ?_ | refine aP 6 [1,2,4,11,12] ?_ | refine aP 7 [1,2,11,12] ?_ | refine qx (c := Code.region 8 _ false) [2] ?_ (aP 8 [1,2] ?_)))
 | ((with_reducible show AW _ (Code.loop _) _ _); first
 | ((with_reducible refine rG (c := (Code.seq (Code.region 3 _ _) _)) (ι := Nat) [1,2,11] (fun i => [(12, iA .i64 (i : Int))]) (fun i => [some [.slc 2 0 f.k 13, .iv (.lst 7 f.n (dX f.N))], some [.iv (.g (.slice none 0 0)), .iv (.g (.slice none 0 0))], some (eY (iT f i))]) (fun i => i <= f.k) (fun i => f.k - i) 0 ?lg3 ?l13 ?l23 ?li3 ?lr3); (case' lg3 => rintro i _; exact z8.nil _); (case' li3 => try (omega)); (case' lr3 => rintro i hi KR hR3; simp only [bG, dL, hset, lk, if_true, if_false, xE, reduceIte, zN, dh, cB, cK, cO, cu, cZ, bZ, bY, bX, dw, bJ, bH, bI, nQ, gI, qH, eH, fZ, List.set_set, List.length_set]))
 | ((with_reducible refine rG (c := (Code.seq (Code.seq (Code.region 6 _ _) _) _)) (ι := Nat) [1,2,4,11,12] (fun j => []) (fun j => [some [.slc 2 0 f.k 13, .iv (.lst 7 f.n (dX f.N))], some [.iv (.g (.slice none 0 0)), .iv (.g (.slice none 0 0))], some (eY (((iT f i).set i (vO (f.S i) f.n f.N j)))), some [.iv (.g (.int .i64 (i : Int)))]]) (fun j => goW (f.S i) f.n f.N j) (fun j => 201 - j) 0 ?lg6 ?l16 ?l26 ?li6 ?lr6); (case' lg6 => rintro j _; exact z8.nil _); (case' li6 => try (exact fun i hi => absurd hi (Nat.not_lt_zero i))); (case' lr6 => rintro j hg KR hR6; have hgl := Vi hg; rcases Nat.lt_or_ge (dI (vO (f.S i) f.n f.N j) f.n f.N) f.n with hw | hw; all_goals (try (have hw := Nat.le_antisymm (Oa (vO (f.S i) f.n f.N j) f.n f.N) hw)); simp only [bG, dL, hset, lk, if_true, if_false, xE, reduceIte, zN, dh, cB, cK, cO, cu, cZ, bZ, bY, bX, dw, bJ, bH, bI, nQ, gI, qH, eH, fZ, List.set_set, List.length_set]))))
 | ((first | (with_reducible refine And.intro ?_ ?_) | (with_reducible refine Need.mk ?_)); focus (first | exact lQ _ | exact True.intro))
 | (with_reducible refine aK ?_)
 | ((with_reducible show bL _ _ _ _ _ _); first
 | ((with_reducible refine aN ?_ ?_) <;> (intro hc; (try simp only [zB, zC, reduceCtorEq] at hc); ((try (have e0 : f.k = i := (by omega)))); (try (exfalso; contradiction)))))
 | ((with_reducible show aZ _ _ _ _ _ _ _ _ _ _); first
 | (refine lV (k := 80) GA (uR (Ir f.k (iR f.S) hk) (i := 2) rfl) ?_ ?_)
 | (refine Ky (k := 88) Qe (aen f hf ((iT f i).set i (vO (f.S i) f.n f.N j)) i (by rw [List.length_set, fZ]) (by omega) hk (vO (f.S i) f.n f.N j) (NW (by omega) _) (Nw (hf.s i (by omega)) j) (by assumption)) ?_ ?_)
 | (refine Ky (k := 88) Qe (acY f hf ((iT f i).set i (vO (f.S i) f.n f.N j)) i (by rw [List.length_set, fZ]) (by omega) hk (vO (f.S i) f.n f.N j) (NW (by omega) _) (Nw (hf.s i (by omega)) j) (by assumption)) ?_ ?_))
 | ((with_reducible refine hR3 _ (i + 1) ?_); (try clear hR3 KR))
 | ((with_reducible refine hR6 _ (j + 1) ?_); (try clear hR6 KR))
 | ((with_reducible refine Told.mk ?_); simp only [go_sem, reduceIte, reduceCtorEq, xA, xL, xD, xE, xM, xS, xB, dh, cB, cK, cO, cu, cZ, bZ, bY, bX, dw, bJ, bH, bI, bC, nQ, gI, qH, eH, fZ, List.set_set, List.length_set] <;> (first | (((try simp (disch := omega) only [aY, Int.natCast_add, Int.cast_ofNat_Int, and_true, true_and, and_self]); (repeat' (first | omega | (with_reducible refine And.intro ?_ ?_) | (exact all_succ (by assumption) (by assumption)) | ((exact kZ rfl (lQ _))) | ((exact kZ (congrArg eY (agM (by omega) hg (by assumption))) (lQ _))))); done)) | (((try simp (disch := omega) only [aY, Int.natCast_add, Int.cast_ofNat_Int, and_true, true_and, and_self]); (repeat' (((exact kZ (congrArg eY (ahM (by omega)).symm) (lQ _))))); done))))
 | ((fail_if_success (with_reducible show AW _ _ _ _)); simp (maxSteps := 2000000) only [go_sem, reduceIte, reduceCtorEq, xA, xL, xD, xE, xM, xS, xB, Tryz.f44, dh, cB, cK, cO, cu, cZ, bZ, bY, bX, dw, bJ, bH, bI, bC, nQ, gI, qH, eH, fZ, List.set_set, List.length_set])
 | ((with_reducible refine hK _ ?_); clear hK K)
 | (with_reducible apply_assumption -exfalso only [*]))
  all_goals (exact ⟨⟨rfl, WX (by assumption)⟩, rfl, fun i o hi ho => IV.bn _⟩)
end Go.Proofs.YtcfechepbamhkaaGreat
set_option maxRecDepth 100000
set_option maxHeartbeats 4000000
namespace Go.Proofs.YtcfechepbamhkaaGreat
open Go.RowKit Go.Sea
open Nat renaming reduceAdd -> xA, reduceLT -> xL, reduceLeDiff -> xD, reduceEqDiff -> xE, reduceMul -> xM, reduceSub -> xS, reduceBEq -> xB
theorem YJ : aM Tryz.prog 103 = true := by kernel_rfl
theorem Vo : aM Tryz.prog 104 = true := by kernel_rfl
theorem Yv : aM Tryz.prog 141 = true := by kernel_rfl
theorem PD : aM Tryz.prog 54 = true := by kernel_rfl
theorem ad6 : aM Tryz.prog 55 = true := by kernel_rfl
theorem Pw : aM Tryz.prog 57 = true := by kernel_rfl
attribute [go_sem] YJ Vo Yv PD Pw
def Xh (n m : Nat) (f g : Nat -> fG) : Bool := decide (n = m /\ ∀ i, i < n -> zH (f i) (g i) = true)
def Sb (p q : fF) : Bool := decide (p.ch = q.ch) && rH p.q q.q p.a q.a && Xh p.k q.k p.o q.o
def Tw (n m : Nat) (f g : Nat -> fF) : Bool := decide (n = m /\ ∀ i, i < n -> Sb (f i) (g i) = true)
def OE (a b : ah) : Bool := decide (a.oc = b.oc /\ a.nu = b.nu /\ a.kd = b.kd /\ a.fr = b.fr /\ a.un = b.un /\ a.ca = b.ca) && Tw a.n b.n a.p b.p
theorem ajl {n m : Nat} {f g : Nat -> fG} (h : (n : Int) ≠ m) : false = Xh n m f g := (decide_eq_false fun q => h (by rw [q.1])).symm
theorem ajw {n m : Nat} {f g : Nat -> fG} {i : Nat} (hi : (i : Int) < n) (h : zH (f i) (g i) = false) : false = Xh n m f g := (decide_eq_false fun q => by have := q.2 i (by omega); rw [h] at this; cases this).symm
theorem aif {n m : Nat} {f g : Nat -> fG} {i : Nat} (h : (n : Int) = m) (hi : (n : Int) <= i) (a : ∀ j, j < i -> zH (f j) (g j) = true) : true = Xh n m f g := (decide_eq_true ⟨by omega, fun j hj => a j (by omega)⟩).symm
theorem aiQ {n m : Nat} {f g : Nat -> fF} (h : (n : Int) ≠ m) : false = Tw n m f g := (decide_eq_false fun q => h (by rw [q.1])).symm
theorem agQ {n m : Nat} {f g : Nat -> fF} {i : Nat} (hi : (i : Int) < n) (h : Sb (f i) (g i) = false) : false = Tw n m f g := (decide_eq_false fun q => by have := q.2 i (by omega); rw [h] at this; cases this).symm
theorem ajO {n m : Nat} {f g : Nat -> fF} {i : Nat} (h : (n : Int) = m) (hi : (n : Int) <= i) (a : ∀ j, j < i -> Sb (f j) (g j) = true) : true = Tw n m f g := (decide_eq_true ⟨by omega, fun j hj => a j (by omega)⟩).symm
theorem ale {a b : ah} (h : ((((a.oc ≠ b.oc \/ a.nu ≠ b.nu) \/ a.kd ≠ b.kd) \/ a.fr ≠ b.fr) \/ a.un ≠ b.un) \/ a.ca ≠ b.ca) : false = OE a b := by
  unfold OE; rw [decide_eq_false (fun g => by omega)]; rfl
theorem alN {a b : ah} (h : ((((a.oc = b.oc /\ a.nu = b.nu) /\ a.kd = b.kd) /\ a.fr = b.fr) /\ a.un = b.un) /\ a.ca = b.ca) : Tw a.n b.n a.p b.p = OE a b := by
  unfold OE; rw [decide_eq_true (by omega)]; rfl
theorem am0 (n m : Nat) (f g : Nat -> fG) (hn : n <= 9223372036854775807) (hm : m <= 9223372036854775807) (hf : ∀ i, i < n -> (f i).f.Ok) (hg : ∀ i, i < m -> (g i).f.Ok) : aA Tryz.prog 57 [.one (.lst 16 n (jq f)), .one (.lst 16 m (jq g)), .one (.g (.func (.func 58) #[] #[]))] (.t (.one (.g (.bool (Xh n m f g))))) := by
  refine ak Tryz.func57 rfl (by rw [Tryz.ntmps57]; simp) ?_
  simp only [Tryz.ntmps57, zM, PT.tv, au, Nat.zero_add, Nat.reduceAdd]
  repeat' (first
 | ((with_reducible show AW _ _ _ _); first
 | (with_reducible first | refine aS (fun K hK => ?_) | refine aI ?_ | refine aX ?_ | refine aT ?_ | refine aC ?_ | refine aB ?_)
 | (first
 | (with_reducible first | refine aP 0 [0,1,2] ?_ | refine aP 1 [0,1,2] ?_ | refine aP 2 [] ?_ | refine aP 3 [0,1,2] ?_ | refine aP 4 [1,2,15,16,17] ?_ | refine aP 5 [1,2,15,16,17] ?_ | refine aP 6 [1,2,7,8,15,16,17] ?_ | refine aP 7 [1,2,8,9,15,16,17] ?_ | refine aP 8 [] ?_ | refine aP 9 [1,2,15,16,17] ?_ | refine aP 10 [] ?_))
 | ((with_reducible show AW _ (Code.loop _) _ _); first
 | ((with_reducible refine aL (c := (Code.seq (Code.region 4 _ _) _)) (ι := Nat) [1,2,15,16] (fun i => [(17, iA .i64 (i : Int))]) (fun i => []) (fun i => i <= n /\ (∀ i', i' < i -> zH (f i') (g i') = true)) (fun i => n - i) 0 ?lg4 ?l14 ?l24 ?li4 ?lr4); (case' lg4 => rintro i _); (case' li4 => try (exact ⟨Nat.zero_le _, fun i hi => absurd hi (Nat.not_lt_zero _)⟩)); (case' lr4 => rintro i ⟨hi, hai⟩ KR hR4; simp only [bG, dL, hset, lk, if_true, if_false, xE, reduceIte, zN]))))
 | ((first | (with_reducible refine And.intro ?_ ?_) | (with_reducible refine Need.mk ?_)); focus (first | exact True.intro | omega))
 | (with_reducible refine aK ?_)
 | ((with_reducible show bL _ _ _ _ _ _); first
 | ((with_reducible refine aN ?_ ?_) <;> (intro hc; (try simp only [zB, zC, reduceCtorEq] at hc); (try (exfalso; contradiction)))))
 | ((with_reducible show aZ _ _ _ _ _ _ _ _ _ _); first
 | (refine aG (k := 58) HV (agE (f i) (g i) (hf i (by omega)) (hg i (by omega))) ?_ ?_))
 | ((with_reducible refine hR4 _ (i + 1) ?_); (try clear hR4 KR))
 | ((with_reducible refine Told.mk ?_); simp only [go_sem, reduceIte, reduceCtorEq, xA, xL, xD, xE, xM, xS, xB] <;> ((((try simp (disch := omega) only [aY, Int.natCast_add, Int.cast_ofNat_Int, and_true, true_and, and_self]); (repeat' (first | omega | (with_reducible refine And.intro ?_ ?_) | (exact all_succ (by assumption) (by assumption)) )); done))))
 | ((fail_if_success (with_reducible show AW _ _ _ _)); simp (maxSteps := 2000000) only [go_sem, reduceIte, reduceCtorEq, xA, xL, xD, xE, xM, xS, xB, Tryz.f57])
 | ((with_reducible refine hK _ ?_); clear hK K)
 | (with_reducible apply_assumption -exfalso only [*]))
  all_goals first | exact ajl (by assumption) | exact ajw (by assumption) hc | exact aif (by omega) (by assumption) hai | skip
theorem aem (p q : fF) (hp : p.Ok) (hq : q.Ok) : aA Tryz.prog 55 [.agg [.g (.int .i64 p.ch), .lst 1 p.q (bC p.a), .lst 16 p.k (jq p.o)], .agg [.g (.int .i64 q.ch), .lst 1 q.q (bC q.a), .lst 16 q.k (jq q.o)]] (.t (.one (.g (.bool (Sb p q))))) := by
  refine ak Tryz.func55 rfl (by rw [Tryz.ntmps55]; simp) ?_
  simp only [Tryz.ntmps55, zM, PT.tv, au, Nat.zero_add, Nat.reduceAdd]
  repeat' (first
 | ((with_reducible show AW _ _ _ _); first
 | (with_reducible first | refine aS (fun K hK => ?_) | refine aT ?_)
 | (first
 | (with_reducible first | refine aP 0 [0,1] ?_ | refine aP 1 [2,3] ?_)))
 | (((with_reducible refine Need.mk ?_)); focus ((intro _; (with_reducible assumption))))
 | (with_reducible refine aK ?_)
 | ((with_reducible show bM _ _ _ _ _ _ _ _ _ _); first
 | (refine aV (k := 56) NY (fun hg => anG _ _ _ _ hp.q hq.q) ?_ ?_)
 | (refine aV (k := 57) Pw (fun hg => am0 _ _ _ _ hp.k hq.k hp.o hq.o) ?_ ?_))
 | ((fail_if_success (with_reducible show AW _ _ _ _)); simp (maxSteps := 2000000) only [go_sem, reduceIte, reduceCtorEq, xA, xL, xD, xE, xM, xS, xB, Tryz.f55, bC])
 | ((with_reducible refine hK _ ?_); clear hK K))
  all_goals (unfold Sb; rfl)
theorem amO (n m : Nat) (f g : Nat -> fF) (hn : n <= 9223372036854775807) (hm : m <= 9223372036854775807) (hf : ∀ i, i < n -> (f i).Ok) (hg : ∀ i, i < m -> (g i).Ok) : aA Tryz.prog 54 [.one (.lst 3 n (dZ f)), .one (.lst 3 m (dZ g)), .one (.g (.func (.func 55) #[] #[]))] (.t (.one (.g (.bool (Tw n m f g))))) := by
  refine ak Tryz.func54 rfl (by rw [Tryz.ntmps54]; simp) ?_
  simp only [Tryz.ntmps54, zM, PT.tv, au, Nat.zero_add, Nat.reduceAdd]
  repeat' (first
 | ((with_reducible show AW _ _ _ _); first
 | (with_reducible first | refine aS (fun K hK => ?_) | refine aI ?_ | refine aX ?_ | refine aT ?_ | refine aC ?_ | refine aB ?_)
 | (first
 | (with_reducible first | refine aP 0 [0,1,2] ?_ | refine aP 1 [0,1,2] ?_ | refine aP 2 [] ?_ | refine aP 3 [0,1,2] ?_ | refine aP 4 [1,2,15,16,17] ?_ | refine aP 5 [1,2,15,16,17] ?_ | refine aP 6 [1,2,7,8,15,16,17] ?_ | refine aP 7 [1,2,8,9,15,16,17] ?_ | refine aP 8 [] ?_ | refine aP 9 [1,2,15,16,17] ?_ | refine aP 10 [] ?_))
 | ((with_reducible show AW _ (Code.loop _) _ _); first
 | ((with_reducible refine aL (c := (Code.seq (Code.region 4 _ _) _)) (ι := Nat) [1,2,15,16] (fun i => [(17, iA .i64 (i : Int))]) (fun i => []) (fun i => i <= n /\ (∀ i', i' < i -> Sb (f i') (g i') = true)) (fun i => n - i) 0 ?lg4 ?l14 ?l24 ?li4 ?lr4); (case' lg4 => rintro i _); (case' li4 => try (exact ⟨Nat.zero_le _, fun i hi => absurd hi (Nat.not_lt_zero _)⟩)); (case' lr4 => rintro i ⟨hi, hai⟩ KR hR4; simp only [bG, dL, hset, lk, if_true, if_false, xE, reduceIte, zN]))))
 | ((first | (with_reducible refine And.intro ?_ ?_) | (with_reducible refine Need.mk ?_)); focus (first | exact True.intro | omega))
 | (with_reducible refine aK ?_)
 | ((with_reducible show bL _ _ _ _ _ _); first
 | ((with_reducible refine aN ?_ ?_) <;> (intro hc; (try simp only [zB, zC, reduceCtorEq] at hc); (try (exfalso; contradiction)))))
 | ((with_reducible show aZ _ _ _ _ _ _ _ _ _ _); first
 | (refine aG (k := 55) ad6 (aem (f i) (g i) (hf i (by omega)) (hg i (by omega))) ?_ ?_))
 | ((with_reducible refine hR4 _ (i + 1) ?_); (try clear hR4 KR))
 | ((with_reducible refine Told.mk ?_); simp only [go_sem, reduceIte, reduceCtorEq, xA, xL, xD, xE, xM, xS, xB, bC] <;> ((((try simp (disch := omega) only [aY, Int.natCast_add, Int.cast_ofNat_Int, and_true, true_and, and_self]); (repeat' (first | omega | (with_reducible refine And.intro ?_ ?_) | (exact all_succ (by assumption) (by assumption)) )); done))))
 | ((fail_if_success (with_reducible show AW _ _ _ _)); simp (maxSteps := 2000000) only [go_sem, reduceIte, reduceCtorEq, xA, xL, xD, xE, xM, xS, xB, Tryz.f54, bC])
 | ((with_reducible refine hK _ ?_); clear hK K)
 | (with_reducible apply_assumption -exfalso only [*]))
  all_goals first | exact aiQ (by assumption) | exact agQ (by assumption) hc | exact ajO (by omega) (by assumption) hai | skip
theorem aoW (a b : ah) (ha : a.Ok) (hb : b.Ok) : aA Tryz.prog 19 [.agg [.g (.int .i64 a.oc), .g (.int .i64 a.nu), .g (.int .i64 a.kd), .g (.int .i64 a.fr), .g (.int .i64 a.un), .g (.int .i64 a.ca), .lst 3 a.n (dZ a.p)], .agg [.g (.int .i64 b.oc), .g (.int .i64 b.nu), .g (.int .i64 b.kd), .g (.int .i64 b.fr), .g (.int .i64 b.un), .g (.int .i64 b.ca), .lst 3 b.n (dZ b.p)]] (.t (.one (.g (.bool (OE a b))))) := by
  refine ak Tryz.func19 rfl (by rw [Tryz.ntmps19]; simp) ?_
  simp only [Tryz.ntmps19, zM, PT.tv, au, Nat.zero_add, Nat.reduceAdd]
  repeat' (first
 | ((with_reducible show AW _ _ _ _); first
 | (with_reducible first | refine aS (fun K hK => ?_) | refine aI ?_ | refine aT ?_ | refine aC ?_)
 | (first
 | (with_reducible first | refine aP 0 [0,1] ?_ | refine aP 1 [2,3] ?_ | refine aP 2 [] ?_ | refine aP 3 [2,3] ?_)))
 | ((first | (with_reducible refine And.intro ?_ ?_) | (with_reducible refine Need.mk ?_)); focus (first | exact True.intro | (simp; done)))
 | (with_reducible refine aK ?_)
 | ((with_reducible show bL _ _ _ _ _ _); first
 | ((with_reducible refine aN ?_ ?_) <;> (intro hc; (try simp only [zB, zC, reduceCtorEq] at hc); (try (exfalso; contradiction)))))
 | ((with_reducible show aZ _ _ _ _ _ _ _ _ _ _); first
 | (refine aG (k := 54) PD (amO _ _ _ _ ha.n hb.n ha.p hb.p) ?_ ?_))
 | ((fail_if_success (with_reducible show AW _ _ _ _)); simp (maxSteps := 2000000) only [go_sem, reduceIte, reduceCtorEq, xA, xL, xD, xE, xM, xS, xB, Tryz.f19, bC])
 | ((with_reducible refine hK _ ?_); clear hK K))
  all_goals first | exact ale (by assumption) | exact alN (by assumption) | skip
end Go.Proofs.YtcfechepbamhkaaGreat
set_option maxRecDepth 100000
set_option maxHeartbeats 4000000
namespace Go.Proofs.YtcfechepbamhkaaGreat
open Go.RowKit Go.Sea
open Nat renaming reduceAdd -> xA, reduceLT -> xL, reduceLeDiff -> xD, reduceEqDiff -> xE, reduceMul -> xM, reduceSub -> xS, reduceBEq -> xB
theorem jD : aM Tryz.prog 45 = true := by kernel_rfl
theorem aer : aM Tryz.prog 74 = true := by kernel_rfl
attribute [go_sem] jD aer
theorem rX {f : aj} {ch : Int} (h : iO f ch = 0) : asV f ch = (iN f ch : Int) /\ iN f ch < f.k /\ (f.S (iN f ch)).ch = ch /\ gy f = true := by
  unfold iO at h
  split at h
  · rename_i hb
    split at h
    · cases h
    · rename_i hp
      have hlt : iN f ch < f.k := by
        unfold Pq at hp
        split at hp
        · assumption
        · omega
      refine ⟨?_, hlt, of_decide_eq_true ((iU (b := fun i => decide ((f.S i).ch = ch)) (k := f.k)).2 hlt), ?_⟩
      · unfold asV; rw [if_pos hb, if_neg hp]; unfold Pq; rw [if_pos hlt]
      · unfold asB at hb; simp only [Bool.and_eq_true] at hb; exact hb.1
  · cases h
def jK (f : aj) (ch : Int) : aF := if iO f ch = 0 then f.S (iN f ch) else bg
theorem afY {f : aj} {ch : Int} (h : iO f ch ≠ 0) : jK f ch = bg := by unfold jK; rw [if_neg h]
theorem OM {f : aj} {ch : Int} (h : iO f ch = 0) : jK f ch = f.S (iN f ch) := by unfold jK; rw [if_pos h]
def RA (s : aF) (N : Nat -> ah) : Nat -> List Int
  | 0 => []
  | i + 1 => if rU s (N i) = true then RA s N i ++ [(N i).nu] else RA s N i
theorem Jl (s : aF) (N : Nat -> ah) : RA s N 0 = [] := rfl
theorem akr {s : aF} {N : Nat -> ah} {i : Nat} (h : rU s (N i) = true) : RA s N (i + 1) = RA s N i ++ [(N i).nu] := by show (if _ then _ else _) = _; rw [if_pos h]
theorem agm {s : aF} {N : Nat -> ah} {i : Nat} (h : rU s (N i) = false) : RA s N (i + 1) = RA s N i := by show (if _ then _ else _) = _; rw [if_neg (by rw [h]; simp)]
theorem UU (s : aF) (N : Nat -> ah) : ∀ i, (RA s N i).length <= i
  | 0 => Nat.le_refl _
  | i + 1 => by
    have := UU s N i
    show (if _ then _ else _ : List Int).length <= _
    split
    · simp; omega
    · omega
def wL (f : aj) (ch : Int) : List Int := if iO f ch = 0 then RA (f.S (iN f ch)) f.N f.n else []
theorem aoq {f : aj} {ch : Int} (h : iO f ch ≠ 0) : wL f ch = [] := by unfold wL; rw [if_neg h]
theorem alv {f : aj} {ch : Int} (h : iO f ch = 0) : wL f ch = RA (f.S (iN f ch)) f.N f.n := by unfold wL; rw [if_pos h]
theorem aoQ {s : aF} {N : ah} (h : kN N s.ch = true /\ fD s.q s.dn N.nu = false) : rU s N = true := WA h
theorem amX {s : aF} {N : ah} (h : kN N s.ch = false \/ fD s.q s.dn N.nu = true) : rU s N = false := by
  unfold rU; rcases h with h | h <;> rw [h] <;> simp
theorem amn (f : aj) (hf : f.Ok) (ch : Int) (h0 : iO f ch ≠ 0) : aA Tryz.prog 21 [j6 f, .one (.g (.int .i64 ch))] (.tup [.agg [.g (.int .i64 (jK f ch).ch), .g (.int .i64 (jK f ch).sc), .g (.int .i64 (jK f ch).ed), .g (.int .i64 (jK f ch).m.A), .g (.int .i64 (jK f ch).m.B), .g (.int .i64 (jK f ch).m.C), .g (.int .i64 (jK f ch).m.D), .g (.int .i64 (jK f ch).m.E), .g (.int .i64 (jK f ch).m.F), .g (.int .i64 (jK f ch).m.R), .g (.int .i64 (jK f ch).cap), .lst 1 (jK f ch).q (bC (jK f ch).dn), .lst 9 (jK f ch).n (dN (jK f ch).f)], .one (.g (.int .i64 (iO f ch)))]) := by
  refine ak Tryz.func21 rfl (by rw [Tryz.ntmps21]; simp) ?_
  simp only [Tryz.ntmps21, zM, PT.tv, au, Nat.zero_add, Nat.reduceAdd]
  repeat' (first
 | ((with_reducible show AW _ _ _ _); first
 | (with_reducible first | refine aS (fun K hK => ?_) | refine aT ?_ | refine aC ?_)
 | (first
 | (with_reducible first | refine aP 0 [0,1] ?_ | refine aP 1 [1,2,4] ?_ | refine aP 2 [2,4,6,7] ?_ | refine aP 3 [4,7] ?_)))
 | ((first | (with_reducible refine And.intro ?_ ?_) | (with_reducible refine Need.mk ?_)); focus (exact True.intro))
 | (with_reducible refine aK ?_)
 | ((with_reducible show bL _ _ _ _ _ _); first
 | ((with_reducible refine aN ?_ ?_) <;> (intro hc; (try simp only [zB, zC, reduceCtorEq] at hc); (try (exfalso; contradiction)))))
 | ((with_reducible show aZ _ _ _ _ _ _ _ _ _ _); first
 | (refine aG (k := 45) jD (mH f hf ch) ?_ ?_))
 | ((fail_if_success (with_reducible show AW _ _ _ _)); simp (maxSteps := 2000000) only [go_sem, reduceIte, reduceCtorEq, xA, xL, xD, xE, xM, xS, xB, Tryz.f21, dh, cB, cK, cO, cu, cZ, bZ, bY, bX, dw, bJ, bH, bI, bC, h0])
 | ((with_reducible refine hK _ ?_); clear hK K))
  all_goals (rw [afY h0]; (repeat' (first | exact rfl | (with_reducible refine And.intro ?_ ?_))))
theorem akV (f : aj) (hf : f.Ok) (ch : Int) (h0 : iO f ch = 0) : aA Tryz.prog 21 [j6 f, .one (.g (.int .i64 ch))] (.tup [.agg [.g (.int .i64 (jK f ch).ch), .g (.int .i64 (jK f ch).sc), .g (.int .i64 (jK f ch).ed), .g (.int .i64 (jK f ch).m.A), .g (.int .i64 (jK f ch).m.B), .g (.int .i64 (jK f ch).m.C), .g (.int .i64 (jK f ch).m.D), .g (.int .i64 (jK f ch).m.E), .g (.int .i64 (jK f ch).m.F), .g (.int .i64 (jK f ch).m.R), .g (.int .i64 (jK f ch).cap), .lst 1 (jK f ch).q (bC (jK f ch).dn), .lst 9 (jK f ch).n (dN (jK f ch).f)], .one (.g (.int .i64 (iO f ch)))]) := by
  have hn := hf.n
  have hk := hf.k
  have ha := rX h0
  have ha1 := ha.1
  have ha2 := ha.2.1
  have hn2 := (kP (iJ ha.2.2.2).2.2).1
  refine ak Tryz.func21 rfl (by rw [Tryz.ntmps21]; simp) ?_
  simp only [Tryz.ntmps21, zM, PT.tv, au, Nat.zero_add, Nat.reduceAdd]
  repeat' (first
 | ((with_reducible show AW _ _ _ _); first
 | (with_reducible first | refine aS (fun K hK => ?_) | refine aI ?_ | refine aT ?_ | refine aC ?_)
 | (first
 | (with_reducible first | refine aP 0 [0,1] ?_ | refine aP 1 [1,2,4] ?_ | refine aP 2 [2,4,6,7] ?_ | refine aP 4 [2,4,6] ?_)))
 | ((first | (with_reducible refine And.intro ?_ ?_) | (with_reducible refine Need.mk ?_)); focus (first | exact True.intro | omega))
 | (with_reducible refine aK ?_)
 | ((with_reducible show bL _ _ _ _ _ _); first
 | ((with_reducible refine aN ?_ ?_) <;> (intro hc; (try simp only [zB, zC, reduceCtorEq] at hc); (try (exfalso; contradiction)))))
 | ((with_reducible show aZ _ _ _ _ _ _ _ _ _ _); first
 | (refine aG (k := 45) jD (mH f hf ch) ?_ ?_))
 | ((fail_if_success (with_reducible show AW _ _ _ _)); simp (maxSteps := 2000000) only [go_sem, reduceIte, reduceCtorEq, xA, xL, xD, xE, xM, xS, xB, Tryz.f21, dh, cB, cK, cO, cu, cZ, bZ, bY, bX, dw, bJ, bH, bI, bC, h0, ha1])
 | ((with_reducible refine hK _ ?_); clear hK K))
  all_goals (rw [OM h0]; (repeat' (first | exact rfl | (with_reducible refine And.intro ?_ ?_) | (intro i q hi hq; exact IV.bn _) | (intro i q hi hq; exact rfl))))
theorem Uc (f : aj) (hf : f.Ok) (ch : Int) : aA Tryz.prog 21 [j6 f, .one (.g (.int .i64 ch))] (.tup [.agg [.g (.int .i64 (jK f ch).ch), .g (.int .i64 (jK f ch).sc), .g (.int .i64 (jK f ch).ed), .g (.int .i64 (jK f ch).m.A), .g (.int .i64 (jK f ch).m.B), .g (.int .i64 (jK f ch).m.C), .g (.int .i64 (jK f ch).m.D), .g (.int .i64 (jK f ch).m.E), .g (.int .i64 (jK f ch).m.F), .g (.int .i64 (jK f ch).m.R), .g (.int .i64 (jK f ch).cap), .lst 1 (jK f ch).q (bC (jK f ch).dn), .lst 9 (jK f ch).n (dN (jK f ch).f)], .one (.g (.int .i64 (iO f ch)))]) := by
  by_cases h0 : iO f ch = 0
  · exact akV f hf ch h0
  · exact amn f hf ch h0
theorem am8 (f : aj) (hf : f.Ok) (ch : Int) (h0 : iO f ch ≠ 0) : aA Tryz.prog 13 [j6 f, .one (.g (.int .i64 ch))] (.tup [.one (.lst 1 (wL f ch).length (bC (zL (wL f ch)))), .one (.g (.int .i64 (iO f ch)))]) := by
  refine ak Tryz.func13 rfl (by rw [Tryz.ntmps13]; simp) ?_
  simp only [Tryz.ntmps13, zM, PT.tv, au, Nat.zero_add, Nat.reduceAdd]
  repeat' (first
 | ((with_reducible show AW _ _ _ _); first
 | (with_reducible first | refine aS (fun K hK => ?_) | refine aT ?_ | refine aC ?_)
 | ((with_reducible first | refine aP 0 [0,1,27] ?_ | refine aP 1 [1,2,27] ?_ | refine aP 2 [2,6,7,27] ?_ | refine aP 3 [7] ?_)))
 | (((with_reducible refine Need.mk ?_)); focus (exact True.intro))
 | (with_reducible refine aK ?_)
 | ((with_reducible show bL _ _ _ _ _ _); first
 | ((with_reducible refine aN ?_ ?_) <;> (intro hc; (try simp only [zB, zC, reduceCtorEq] at hc); (try (exfalso; contradiction)))))
 | ((with_reducible show aZ _ _ _ _ _ _ _ _ _ _); first
 | (refine aG (k := 45) jD (mH f hf ch) ?_ ?_))
 | ((fail_if_success (with_reducible show AW _ _ _ _)); simp (maxSteps := 2000000) only [go_sem, reduceIte, reduceCtorEq, xA, xL, xD, xE, xM, xS, xB, Tryz.f13, dh, cB, cK, cO, cu, cZ, bZ, bY, bX, dw, bJ, bH, bI, bC, h0])
 | ((with_reducible refine hK _ ?_); clear hK K))
  all_goals (rw [aoq h0]; (repeat' (exact rfl)))
theorem alJ (f : aj) (hf : f.Ok) (ch : Int) (h0 : iO f ch = 0) : aA Tryz.prog 13 [j6 f, .one (.g (.int .i64 ch))] (.tup [.one (.lst 1 (wL f ch).length (bC (zL (wL f ch)))), .one (.g (.int .i64 (iO f ch)))]) := by
  have hn := hf.n
  have hk := hf.k
  have ha := rX h0
  have ha1 := ha.1
  have ha2 := ha.2.1
  have hn2 := (kP (iJ ha.2.2.2).2.2).1
  refine ak Tryz.func13 rfl (by rw [Tryz.ntmps13]; simp) ?_
  simp only [Tryz.ntmps13, zM, PT.tv, au, Nat.zero_add, Nat.reduceAdd]
  repeat' (first
 | ((refine mJ ?_ ?_) <;> (intro hc; (try rw [hc]); (try simp only [zB, zC, reduceCtorEq] at hc); (try (exfalso; contradiction))))
 | ((with_reducible show AW _ _ _ _); first
 | (with_reducible first | refine aS (fun K hK => ?_) | refine aI ?_ | refine aX ?_ | refine aT ?_ | refine aC ?_ | refine aB ?_)
 | ((refine eT (k := 91) rfl Tryz.func91 rfl Aj (by rw [Tryz.ntmps91]; simp) ?_ ?_ (fun l hlne A B hA hB => ?_)); (focus (simp (maxSteps := 2000000) only [go_sem, reduceIte, reduceCtorEq, xA, xL, xD, xE, xM, xS, xB, Tryz.f13, Tryz.f91, Tryz.f46, dh, cB, cK, cO, cu, cZ, bZ, bY, bX, dw, bJ, bH, bI, bC, h0, ha1, Jl, bD, fI, bf, maxLen, List.length_append]; try exact True.intro)); (focus (simp (maxSteps := 2000000) only [go_sem, reduceIte, reduceCtorEq, xA, xL, xD, xE, xM, xS, xB, Tryz.f13, Tryz.f91, Tryz.f46, dh, cB, cK, cO, cu, cZ, bZ, bY, bX, dw, bJ, bH, bI, bC, h0, ha1, Jl, bD, fI, bf, maxLen, List.length_append]; try exact True.intro)); simp only [Tryz.ntmps91, List.map_cons, List.map_nil, LV.tv, au, yV, Nat.zero_add, Nat.reduceAdd]; clear hlne)
 | (with_reducible refine vN (by assumption) ?_)
 | (first
 | (with_reducible first | refine aP 0 [0,1,2,27] ?_ | refine aP (ops := #[⟨some 11, _, _, _, _, _⟩, _, _, _, _, _, _, _]) 1 [1,2,27] ?_ | refine aP (ops := #[⟨some 9, _, _, _, _, _⟩]) 1 [0,2,6,7,8] ?_ | refine aP (ops := #[⟨some 5, _, _, _, _, _⟩, _]) 1 [2,3] ?_ | refine aP (ops := #[⟨some 16, _, _, _, _, _⟩, _]) 2 [2,6,7,27] ?_ | refine aP (ops := #[⟨some 10, _, _, _, _, _⟩, _, _, _]) 2 [0,2,6,7,8] ?_ | refine aP (ops := #[⟨some 12, _, _, _, _, _⟩, _, _, _, _, _, _, _, _, _, _, _, _, _, _, _, _, _]) 3 [0,2,5,6,7,8] ?_ | refine aP (ops := #[⟨some 8, _, _, _, _, _⟩]) 4 [2,6,27] ?_ | refine aP (ops := #[⟨some 30, _, _, _, _, _⟩, _]) 4 [0,2,6,7,8] ?_)
 | ((with_reducible refine aR (c := Code.region 5 _ true) [2,6,8,27] ?_); (with_reducible refine l5 7 ?_ ?_ ?_ ?_ ?_); (focus kernel_rfl); (focus kernel_rfl); (focus kernel_rfl); (focus kernel_rfl))
 | (with_reducible first | refine aP 6 [8,27] ?_ | refine aP 7 [8,9,27] ?_ | refine qx (c := Code.region 8 _ false) [4] ?_ (aP 8 [8] ?_)))
 | ((with_reducible show AW _ (Code.loop _) _ _); first
 | ((with_reducible refine aL (c := (Code.seq (Code.region 1 _ _) _)) (ι := Nat) [0,2,6,7] (fun i => [(8, iA .i64 (i : Int))]) (fun i => [(1, [.slc 4 0 (RA (f.S (iN f ch)) f.N i).length 1]), (4, dY (RA (f.S (iN f ch)) f.N i))]) (fun i => i <= f.n) (fun i => f.n - i) 0 ?lg1 ?l11 ?l21 ?li1 ?lr1); (case' lg1 => rintro i _); (case' li1 => try (omega)); (case' lr1 => rintro i hi KR hR1; have oL := UU (f.S (iN f ch)) f.N i; simp only [bG, dL, hset, lk, if_true, if_false, xE, reduceIte, zN, dh, cB, cK, cO, cu, cZ, bZ, bY, bX, dw, bJ, bH, bI, h0, ha1, Jl, bD, fI, bf, maxLen, List.length_append]))))
 | ((first | (with_reducible refine And.intro ?_ ?_) | (with_reducible refine Need.mk ?_)); focus (first | exact iI _ | first | exact True.intro | omega | (intro _; (with_reducible assumption))))
 | (with_reducible refine aK ?_)
 | ((with_reducible show bL _ _ _ _ _ _); first
 | ((with_reducible refine aN ?_ ?_) <;> (intro hc; (try simp only [zB, zC, reduceCtorEq] at hc); ((try (have e0 : f.n = i := (by omega)))); (try (exfalso; contradiction)))))
 | ((with_reducible show ∀ _ : AS -> Prop, _ -> _); intro K hK)
 | ((with_reducible refine And.intro ?_ ?_); focus (((with_reducible show zA _ _ _ _ = true); kernel_rfl)))
 | ((with_reducible show aZ _ _ _ _ _ _ _ _ _ _); first
 | (refine aG (k := 45) jD (mH f hf ch) ?_ ?_)
 | (refine aG (k := 70) qP (Di (f.N i) (f.S (iN f ch)).ch (hf.nn i (by omega))) ?_ ?_)
 | ((refine bW (k := 46) Tryz.func46 rfl uK (by rw [Tryz.ntmps46]; simp) ?_ ?_ (fun K hK => ?_)); (focus (exact True.intro)); (focus ((simp [iZ]; done))); simp only [Tryz.ntmps46, List.map_cons, List.map_nil, List.nil_append, List.cons_append, List.append_nil, LV.tv, au, Nat.zero_add, Nat.reduceAdd]))
 | ((with_reducible show bM _ _ _ _ _ _ _ _ _ _); first
 | (refine aV (k := 92) uV (fun hg => GK (f.S (iN f ch)).q (f.S (iN f ch)).dn (f.N i).nu (hf.s _ (by omega)).q) ?_ ?_))
 | ((with_reducible refine hR1 _ (i + 1) ?_); (try clear hR1 KR))
 | ((with_reducible refine Told.mk ?_); simp only [go_sem, reduceIte, reduceCtorEq, xA, xL, xD, xE, xM, xS, xB, dh, cB, cK, cO, cu, cZ, bZ, bY, bX, dw, bJ, bH, bI, bC, h0, ha1, Jl, bD, fI, bf, maxLen, List.length_append] <;> ((((try simp (disch := omega) only [aY, Int.natCast_add, Int.cast_ofNat_Int, and_true, true_and, and_self]); (repeat' (first | omega | rfl | (with_reducible refine And.intro ?_ ?_) | ((first | rw [akr (aoQ (by assumption))] | rw [agm (amX (by assumption))])) | ((exact kZ rfl (iI _))) | ((simp only [List.length_append, List.length_cons, List.length_nil, Nat.zero_add]; done)))); done))))
 | ((fail_if_success (with_reducible show AW _ _ _ _)); simp (maxSteps := 2000000) only [go_sem, reduceIte, reduceCtorEq, xA, xL, xD, xE, xM, xS, xB, Tryz.f13, Tryz.f91, Tryz.f46, dh, cB, cK, cO, cu, cZ, bZ, bY, bX, dw, bJ, bH, bI, bC, h0, ha1, Jl, bD, fI, bf, maxLen, List.length_append])
 | ((with_reducible show aZ _ _ _ _ _ _ (.yld _) _ _ _); (refine lG (by simp only [Fg, if_true]; exact rfl) ?_ (by simp) ?_ ?_ (fun K hK => ?_)); (focus (exact True.intro)); (focus (simp [nk])); (focus ((simp [iZ]; done))); simp only [jm, gf, if_true, Nat.reduceAdd])
 | ((with_reducible refine hK _ ?_); clear hK K)
 | (with_reducible apply_assumption -exfalso only [*]))
  all_goals (have e0 : i = f.n := (by omega); subst e0; rw [alv h0]; (repeat' (first | exact rfl | (with_reducible refine And.intro ?_ ?_) | (intro i q hi hq; exact FD _ i q hi hq))))
theorem Zp (f : aj) (hf : f.Ok) (ch : Int) : aA Tryz.prog 13 [j6 f, .one (.g (.int .i64 ch))] (.tup [.one (.lst 1 (wL f ch).length (bC (zL (wL f ch)))), .one (.g (.int .i64 (iO f ch)))]) := by
  by_cases h0 : iO f ch = 0
  · exact alJ f hf ch h0
  · exact am8 f hf ch h0
end Go.Proofs.YtcfechepbamhkaaGreat
namespace Go.Proofs.YtcfechepbamhkaaGreat
open Go.RowKit Go.Sea Go.Lib
theorem aaf : Tryz.prog.underlying 37 = some (.slice 64) := by kernel_rfl
theorem am2 : (Tryz.prog.info? 64).map (fun i => (i.size, i.bytes, i.zero.map (·.cells.size))) = some (9, 104, some 9) := by kernel_rfl
set_option maxHeartbeats 4000000 in
set_option maxRecDepth 100000 in
set_option maxHeartbeats 2000000 in
theorem Ns (cap : Nat) (w : World) : Calls Tryz.prog 59 #[.slice none 0 cap] w fun e w' => e = .returned (.slice none 0 0) /\ w' = w := by
  have q : (binOp .eql 37 (.slice none 0 cap) (.slice none 0 0)).run Tryz.prog w = .ok (.bool true) w := run_eql_slice_nil w 37 64 none 0 cap aaf
  go_enter Tryz.func59, Tryz.ntmps59
  go_wp2
  go_ret
  exact ⟨rfl, rfl⟩
set_option maxHeartbeats 4000000 in
set_option maxRecDepth 100000 in
theorem zo (p : Addr) (n cap : Nat) (w w' : World) (u : Value) (h : ∀ ty, (Builtin.append_ #[37,37] ty #[.slice (some ⟨w.heap.size, 0, none⟩) 0 0, .slice (some p) n cap]).run Tryz.prog (w.alloc (.cells #[] 64)) = .ok u w') : Calls Tryz.prog 59 #[.slice (some p) n cap] w fun e w'' => e = .returned u /\ w'' = w' := by
  have q : (binOp .eql 37 (.slice (some p) n cap) (.slice none 0 0)).run Tryz.prog w = .ok (.bool false) w := run_eql_slice_nil w 37 64 (some p) n cap aaf
  go_enter Tryz.func59, Tryz.ntmps59
  go_wp2_with (at_builtin; refine Lib.wpList_append_run _ rfl _ _ _ _ rfl _ _ rfl rfl _ _ (h _) ?_)
  all_goals (go_ret; exact ⟨rfl, rfl⟩)
set_option maxHeartbeats 2000000 in
theorem aaC (n : Nat) (f : Nat -> Nat -> IV) (hn : n <= 1000) : l7 Tryz.prog 59 [.one (.iv (.lst 9 n f))] (eO f 9 n 0) (fun i => .t (.one (.slc i 0 n 9))) := by
  intro H i hH w0 Z0 J Z s a w vs R hs hv
  subst hs
  obtain ⟨vs⟩ := vs
  match vs, hv with
  | [v], ⟨hv, _⟩ =>
    have hv : Rd w Z v (.lst 9 n f) := hv
    have hlen : (eO f 9 n 0).length = n * 9 := gK f 9 n 0
    have empty : ∀ (p : Addr) (cap : Nat), n = 0 -> v = .slice (some p) 0 cap -> Calls Tryz.prog 59 #[v] w fun e w' => ∃ v J' Z', e = .returned v /\ Rel w0 Z0 J' Z' { s with heap := hset s.heap i (eO f 9 n 0) } a w' /\ bB w' J' Z' v (.t (.one (.slc i 0 n 9))) := fun p cap h0 ev => by
      subst h0; subst ev
      obtain ⟨ii, h33⟩ : ∃ ii, Tryz.prog.info? 64 = some ii := by
        have := am2
        cases h : Tryz.prog.info? 64 with
        | none => rw [h] at this; cases this
        | some i => exact ⟨i, rfl⟩
      refine (zo p 0 cap w _ _ fun ty => gX aaf h33 _ _ 0 0 cap (Nat.le_refl _)).mono fun e w' ⟨he, hw⟩ => ?_
      subst hw
      have R1 := R.new (nid := i) (cs := []) (c := #[]) (e := 64) (H := hset s.heap i []) hH (aH _ _ _) (fun q hq => aJ _ _ _ _ hq) (by simp [aO])
      exact ⟨_, _, _, he, R1, Or.inr ⟨w.heap.size, 0, #[], 64, rfl, by simp [gF], Nat.zero_le _, Nat.zero_le _, heap_alloc_new w _, by simp⟩⟩
    have hv0 := hv
    cases hv with
    | nil p cap =>
      cases p with
      | none =>
        refine (Ns cap w).mono fun e w' ⟨he, hw⟩ => ?_
        subst hw
        exact ⟨_, J, Z, he, R.qz (nid := i) hH (by rw [aH]; rfl) (fun q hq => aJ _ _ _ _ hq), Or.inl ⟨rfl, rfl⟩⟩
      | some p => exact empty p cap rfl rfl
    | lst b off _ cap _ _ X hz hc hm h1 h2 =>
      by_cases h0 : n = 0
      · exact empty ⟨b, off, none⟩ cap h0 (by rw [h0])
      · obtain ⟨hR1, G⟩ := R.call (ni w (.cells #[] 64))
        have hv1 : bQ (w.alloc (.cells #[] 64)) J (fun b => Z b \/ (w.heap.size <= b /\ b < (w.alloc (.cells #[] 64)).heap.size)) (.slice (some ⟨b, off, none⟩) n cap) (.one (.iv (.lst 9 n f))) := bK.grow G (CV.bP (.iv (.lst 9 n f))) hv0
        obtain ⟨ii, z, t1, t2, t3, t4, t5, t6, t7⟩ := gZ (P := Tryz.prog) (t := 37) (e := 64) (n := 9) (b := 104) (by kernel_rfl)
        rcases ku hR1 (size := 9) (m := n) (nd := True) (x := .one (.iv (.lst 9 n f))) (ns := eO f 9 n 0) (by simp [vR]) trivial hv1 with ⟨h, _⟩ | ⟨hpos, b2, off2, cap2, news, e2, n1, n2, n3, n4⟩
        · exact absurd h h0
        · cases e2
          have hrun := fun ty => run_append_grow (P := Tryz.prog) (w.alloc (.cells #[] 64)) 37 ty 64 ii z t1 t2 t3 ⟨w.heap.size, 0, none⟩ 0 0 [] (by simp) (fun j v h => by simp at h) ⟨b, off, none⟩ n cap news (by rw [n1, t5]) n2 (by omega) (by omega) (by
            rw [t6]; exact growslice_fits (by omega) (by omega))
          simp only [Nat.zero_add] at hrun
          have hsz := grownCap_ge (w.alloc (.cells #[] 64)) n 0 64
          have hmx := grownCap_le_maxLen (w.alloc (.cells #[] 64)) n 0 64 (by unfold maxLen; omega)
          generalize grownCap (w.alloc (.cells #[] 64)) n 0 64 = G at hrun hsz hmx
          have hC : G * 9 <= (([] : List Value).toArray ++ news.toArray ++ Builtin.zeroCells z.cells (G - n)).size := by
            simp only [Array.size_append, size_zeroCells, t4, List.size_toArray, n1, List.length_nil]
            omega
          have hD : aO (bK (w.alloc (.cells #[] 64)) J (fun b => Z b \/ (w.heap.size <= b /\ b < (w.alloc (.cells #[] 64)).heap.size))) ((([] : List Value).toArray ++ news.toArray ++ Builtin.zeroCells z.cells (G - n)).toList.take (eO f 9 n 0).length) (eO f 9 n 0) := by
            rw [Array.toList_append, Array.toList_append, List.nil_append, List.take_append_of_le_length (by simp; omega), List.take_of_length_le (by simp; omega)]
            exact n4
          generalize ([] : List Value).toArray ++ news.toArray ++ Builtin.zeroCells z.cells (G - n) = C at hrun hC hD
          have cl := zo ⟨b, off, none⟩ n cap w _ _ hrun
          have R2 := (hR1.drew).new (nid := i) (cs := eO f 9 n 0) (c := C) (e := 64) (H := hset s.heap i (eO f 9 n 0)) hH (aH _ _ _) (fun q hq => aJ _ _ _ _ hq) (lT hD)
          have hA := heap_alloc_new (w.alloc (.cells #[] 64)).drew (.cells C 64)
          generalize hw1 : w.alloc (.cells #[] 64) = w1 at cl R2 hA
          refine cl.mono fun e w' ⟨he, hw⟩ => ?_
          subst hw
          exact ⟨_, _, _, he, R2, Or.inr ⟨_, _, _, 64, rfl, by simp [gF], hsz, hmx, hA, by rw [Nat.zero_add]; exact hC⟩⟩
end Go.Proofs.YtcfechepbamhkaaGreat
set_option maxRecDepth 100000
set_option maxHeartbeats 4000000
namespace Go.Proofs.YtcfechepbamhkaaGreat
open Go.RowKit Go.Sea
open Nat renaming reduceAdd -> xA, reduceLT -> xL, reduceLeDiff -> xD, reduceEqDiff -> xE, reduceMul -> xM, reduceSub -> xS, reduceBEq -> xB
theorem Ot : aM Tryz.prog 22 = true := by kernel_rfl
theorem O9 : aM Tryz.prog 59 = true := by kernel_rfl
theorem adO : aM Tryz.prog 78 = true := by kernel_rfl
attribute [go_sem] Ot O9 adO
theorem XY (f : Nat -> Nat -> IV) (E n : Nat) (i o : Nat) (hi : i < n) (ho : o < E) : (Im ((eO f E n 0).getD (i * E + o) .any)).eqv (f i o) := by
  rw [List.getD, pW _ _ _ _ _ _ hi ho, Nat.zero_add]
  exact IV.bn _
def EB (x : Nat × (Nat -> aW)) (N : ah) (ch : Int) : Nat × (Nat -> aW) := if iK N ch = true /\ yU x.1 x.2 (prt N ch).k (prt N ch).o = 0 then (EA x.1 x.2 (prt N ch).k (prt N ch).o, Zd x.1 x.2 (prt N ch).k (prt N ch).o) else x
def zR (f : aj) (ch : Int) (l : List Int) : Nat -> Nat × (Nat -> aW)
  | 0 => ((f.S (iN f ch)).n, (f.S (iN f ch)).f)
  | i + 1 => EB (zR f ch l i) (f.N (zL l i).toNat) ch
theorem YZ (f : aj) (ch : Int) (l : List Int) : zR f ch l 0 = ((f.S (iN f ch)).n, (f.S (iN f ch)).f) := rfl
theorem agB {f : aj} {ch : Int} {l : List Int} {i : Nat} (h : iK (f.N (zL l i).toNat) ch = true) (h2 : yU (zR f ch l i).1 (zR f ch l i).2 (prt (f.N (zL l i).toNat) ch).k (prt (f.N (zL l i).toNat) ch).o = 0) : (zR f ch l (i + 1)).1 = EA (zR f ch l i).1 (zR f ch l i).2 (prt (f.N (zL l i).toNat) ch).k (prt (f.N (zL l i).toNat) ch).o /\ (zR f ch l (i + 1)).2 = Zd (zR f ch l i).1 (zR f ch l i).2 (prt (f.N (zL l i).toNat) ch).k (prt (f.N (zL l i).toNat) ch).o := by
  show (EB _ _ _).1 = _ /\ (EB _ _ _).2 = _
  unfold EB; rw [if_pos ⟨h, h2⟩]; exact ⟨rfl, rfl⟩
theorem agl {f : aj} {ch : Int} {l : List Int} {i : Nat} (h : iK (f.N (zL l i).toNat) ch = false \/ yU (zR f ch l i).1 (zR f ch l i).2 (prt (f.N (zL l i).toNat) ch).k (prt (f.N (zL l i).toNat) ch).o ≠ 0) : zR f ch l (i + 1) = zR f ch l i := by
  show EB _ _ _ = _
  unfold EB; rw [if_neg]
  rintro ⟨a, b⟩
  rcases h with h | h
  · rw [h] at a; cases a
  · exact h b
theorem aeQ {l : List Int} {i : Nat} (h : i < l.length) : zL l i ∈ l := by
  unfold zL; rw [List.getD, List.getElem?_eq_getElem h]; exact List.getElem_mem h
theorem YK {n : Nat} {f : Nat -> aW} {k : Nat} {o : Nat -> fG} (h : yU n f k o = 0) : Good (jL (LF f n) o k) /\ EA n f k o = (jL (LF f n) o k).length := by
  unfold yU at h
  split at h
  · rename_i hv
    have hv2 := hv
    unfold P7 at hv2
    simp only [Bool.and_eq_true] at hv2
    have hG := kT (FQ hv2.1) (of_decide_eq_true hv2.2).2 k (Nat.le_refl k)
    refine ⟨hG, ?_⟩
    split at h
    · rename_i hj
      exact absurd h (of_decide_eq_true ((iU (b := fun j => decide ((ow (jL (LF f n) o j) (o j)).1 ≠ 0)) (k := k)).2 hj))
    · rename_i hj
      unfold EA; rw [if_pos hv, if_neg hj]
  · cases h
theorem aex {n : Nat} {f : Nat -> aW} {k : Nat} {o : Nat -> fG} (h : yU n f k o = 0) : EA n f k o <= 9223372036854775807 /\ ∀ j, j < EA n f k o -> (Zd n f k o j).Ok := by
  have hg := YK h
  refine ⟨by have := hg.1.n; rw [hg.2]; omega, fun j hj => ?_⟩
  rw [hg.2] at hj
  unfold Zd
  exact F8 (hg.1.f _ (Cm hj))
theorem aa3 {N : ah} {ch : Int} (h : iK N ch = true) : TJ N ch = (jJ N ch : Int) := by unfold TJ; rw [if_pos (of_decide_eq_true h)]
theorem adL {N : ah} {ch : Int} (h : iK N ch = false) : TJ N ch = -1 := by unfold TJ; rw [if_neg (of_decide_eq_false h)]
theorem aeH {N : ah} {ch : Int} (h : iK N ch = false) : fQ N ch = vK := by unfold fQ; rw [if_neg (by rw [h]; simp)]
theorem aeO (n : Nat) (N : Nat -> ah) (t : Int) : (mO n N t).length <= n := by
  unfold mO; split
  · exact Gb n N t n
  · exact Nat.zero_le _
theorem aaD {s : aF} (h : dW s = true) : s.n <= 300 := by
  unfold dW at h; simp only [Bool.and_eq_true] at h
  exact (of_decide_eq_true h.2).1
theorem Mk {f : aj} {ch : Int} {l : List Int} (hs : (f.S (iN f ch)).Ok) : ∀ i, (zR f ch l i).1 <= 9223372036854775807 /\ ∀ j, j < (zR f ch l i).1 -> ((zR f ch l i).2 j).Ok
  | 0 => ⟨hs.n, hs.f⟩
  | i + 1 => by
    have ih := Mk hs (ch := ch) (l := l) i
    show (EB _ _ _).1 <= _ /\ ∀ j, j < (EB _ _ _).1 -> ((EB _ _ _).2 j).Ok
    unfold EB
    split
    · rename_i h; exact aex h.2
    · exact ih
def I4 (f : aj) (ch t : Int) : Int := if iO f ch = 1 \/ ¬ (0 <= t /\ t <= 10000000) then 1 else iO f ch
def Il (f : aj) (ch t : Int) : Nat := if I4 f ch t = 0 then (zR f ch (mO f.n f.N t) (mO f.n f.N t).length).1 else 0
def shF (f : aj) (ch t : Int) : Nat -> aW := (zR f ch (mO f.n f.N t) (mO f.n f.N t).length).2
theorem aaQ {f : aj} {ch : Int} (h : iO f ch ≠ 1) : gy f = true := by
  unfold iO at h
  split at h
  · rename_i hb; unfold asB at hb; simp only [Bool.and_eq_true] at hb; exact hb.1
  · exact absurd rfl h
theorem Lp {f : aj} {t : Int} (h : gy f = true) : acE f.n f.N t = if 0 <= t /\ t <= 10000000 then 0 else 1 := by
  have hn := kP (iJ h).2.2
  unfold acE acB
  by_cases ht : 0 <= t /\ t <= 10000000
  · rw [if_pos ht, if_pos (decide_eq_true ⟨hn.1, ht, fun i hi => (hn.2 i hi).1⟩)]
  · rw [if_neg ht, if_neg]
    intro g; exact ht (of_decide_eq_true g).2.1
theorem ald {f : aj} {ch t : Int} (h : iO f ch = 1 \/ ¬ (0 <= t /\ t <= 10000000)) : I4 f ch t = 1 /\ Il f ch t = 0 := by
  have e : I4 f ch t = 1 := by unfold I4; rw [if_pos h]
  exact ⟨e, by unfold Il; rw [if_neg (by omega)]⟩
theorem akH {f : aj} {ch t : Int} (h : iO f ch ≠ 1) (ht : 0 <= t /\ t <= 10000000) (h0 : iO f ch ≠ 0) : I4 f ch t = iO f ch /\ Il f ch t = 0 := by
  have e : I4 f ch t = iO f ch := by unfold I4; rw [if_neg (by rintro (g | g); exact h g; exact g ht)]
  exact ⟨e, by unfold Il; rw [if_neg (by omega)]⟩
theorem alS {f : aj} {ch t : Int} (ht : 0 <= t /\ t <= 10000000) (h0 : iO f ch = 0) : I4 f ch t = 0 /\ Il f ch t = (zR f ch (mO f.n f.N t) (mO f.n f.N t).length).1 := by
  have e : I4 f ch t = 0 := by unfold I4; rw [if_neg (by rintro (g | g); omega; exact g ht)]; exact h0
  exact ⟨e, by unfold Il; rw [if_pos e]⟩
theorem Fx {n : Nat} {N : Nat -> ah} {t : Int} : ∀ (i : Nat) x, x ∈ sG n N t i -> 0 <= x /\ x < i
  | 0, x, h => by cases h
  | i + 1, x, h => by
    have h' : x ∈ (if yD n N t i = true then sG n N t i ++ [(i : Int)] else sG n N t i) := h
    split at h'
    · rcases List.mem_append.1 h' with g | g
      · have := Fx i x g; omega
      · simp only [List.mem_singleton] at g; omega
    · have := Fx i x h'; omega
theorem ajr {n : Nat} {N : Nat -> ah} {t : Int} {i : Nat} (h : i < (mO n N t).length) : 0 <= zL (mO n N t) i /\ zL (mO n N t) i < n := by
  have hm := aeQ h
  generalize zL (mO n N t) i = x at hm
  unfold mO at hm
  split at hm
  · exact Fx n x hm
  · cases hm
theorem akX (f : aj) (hf : f.Ok) (ch t : Int) (h1 : iO f ch = 1 \/ ¬ (0 <= t /\ t <= 10000000)) : aA Tryz.prog 20 [j6 f, .one (.g (.int .i64 ch)), .one (.g (.int .i64 t))] (.tup [.one (.lst 9 (Il f ch t) (dN (shF f ch t))), .one (.g (.int .i64 (I4 f ch t)))]) := by
  refine ak Tryz.func20 rfl (by rw [Tryz.ntmps20]; simp) ?_
  simp only [Tryz.ntmps20, zM, PT.tv, au, Nat.zero_add, Nat.reduceAdd]
  repeat' (first
 | ((with_reducible show AW _ _ _ _); first
 | (with_reducible first | refine aS (fun K hK => ?_) | refine aT ?_ | refine aC ?_)
 | (first
 | (with_reducible first | refine aP 0 [0,1,2] ?_ | refine aP 1 [1,2,3] ?_ | refine aP 2 [1,2,3,8,9] ?_ | refine aP 3 [] ?_)))
 | ((first | (with_reducible refine And.intro ?_ ?_) | (with_reducible refine Need.mk ?_)); focus (first | exact True.intro | (simp; done)))
 | (with_reducible refine aK ?_)
 | ((with_reducible show bL _ _ _ _ _ _); first
 | ((with_reducible refine aN ?_ ?_) <;> (intro hc; (try simp only [zB, zC, reduceCtorEq] at hc); (try (exfalso; omega)))))
 | ((with_reducible show aZ _ _ _ _ _ _ _ _ _ _); first
 | (refine aG (k := 45) jD (mH f hf ch) ?_ ?_))
 | ((fail_if_success (with_reducible show AW _ _ _ _)); simp (maxSteps := 2000000) only [go_sem, reduceIte, reduceCtorEq, xA, xL, xD, xE, xM, xS, xB, Tryz.f20, dh, cB, cK, cO, cu, cZ, bZ, bY, bX, dw, bJ, bH, bI, bC])
 | ((with_reducible refine hK _ ?_); clear hK K))
  all_goals first
    | (have e := ald (f := f) (ch := ch) (t := t) h1; rw [e.1, e.2]; (repeat' (first | exact rfl | (with_reducible refine And.intro ?_ ?_))); done)
    | (exfalso; refine h1.elim (fun q => hc.1 q) (fun q => ?_); have e := Lp (t := t) (aaQ hc.1); rw [if_neg q] at e; omega)
    | (exfalso; omega)
    | skip
theorem akT (f : aj) (hf : f.Ok) (ch t : Int) (h1 : iO f ch ≠ 1) (ht : 0 <= t /\ t <= 10000000) (h0 : iO f ch ≠ 0) : aA Tryz.prog 20 [j6 f, .one (.g (.int .i64 ch)), .one (.g (.int .i64 t))] (.tup [.one (.lst 9 (Il f ch t) (dN (shF f ch t))), .one (.g (.int .i64 (I4 f ch t)))]) := by
  have e5 : acE f.n f.N t = 0 := by rw [Lp (aaQ h1), if_pos ht]
  refine ak Tryz.func20 rfl (by rw [Tryz.ntmps20]; simp) ?_
  simp only [Tryz.ntmps20, zM, PT.tv, au, Nat.zero_add, Nat.reduceAdd]
  repeat' (first
 | ((with_reducible show AW _ _ _ _); first
 | (with_reducible first | refine aS (fun K hK => ?_) | refine aI ?_ | refine aT ?_ | refine aC ?_)
 | (first
 | (with_reducible first | refine aP 0 [0,1,2] ?_ | refine aP 1 [1,2,3] ?_ | refine aP 2 [1,2,3,8,9] ?_ | refine aP 4 [1,2,3,8,9] ?_ | refine aP 5 [9] ?_)))
 | ((first | (with_reducible refine And.intro ?_ ?_) | (with_reducible refine Need.mk ?_)); focus (first | exact True.intro | (simp; done)))
 | (with_reducible refine aK ?_)
 | ((with_reducible show bL _ _ _ _ _ _); first
 | ((with_reducible refine aN ?_ ?_) <;> (intro hc; (try simp only [zB, zC, reduceCtorEq] at hc); (try (exfalso; first | contradiction | omega)))))
 | ((with_reducible show aZ _ _ _ _ _ _ _ _ _ _); first
 | (refine aG (k := 45) jD (mH f hf ch) ?_ ?_))
 | ((fail_if_success (with_reducible show AW _ _ _ _)); simp (maxSteps := 2000000) only [go_sem, reduceIte, reduceCtorEq, xA, xL, xD, xE, xM, xS, xB, Tryz.f20, dh, cB, cK, cO, cu, cZ, bZ, bY, bX, dw, bJ, bH, bI, bC, h1, h0, e5])
 | ((with_reducible refine hK _ ?_); clear hK K))
  all_goals ((have e := akH (f := f) (ch := ch) (t := t) h1 ht h0; rw [e.1, e.2]; (repeat' (first | exact rfl | (with_reducible refine And.intro ?_ ?_))); done))
theorem amF (f : aj) (hf : f.Ok) (ch t : Int) (ht : 0 <= t /\ t <= 10000000) (h0 : iO f ch = 0) : aA Tryz.prog 20 [j6 f, .one (.g (.int .i64 ch)), .one (.g (.int .i64 t))] (.tup [.one (.lst 9 (Il f ch t) (dN (shF f ch t))), .one (.g (.int .i64 (I4 f ch t)))]) := by
  have ha := rX h0
  have ha1 := ha.1
  have ha2 := ha.2.1
  have hsok := hf.s _ ha2
  have hxo := fun i => Mk (f := f) (ch := ch) (l := (mO f.n f.N t)) hsok i
  have e5 : acE f.n f.N t = 0 := by rw [Lp ha.2.2.2, if_pos ht]
  have mk1 : True := trivial
  have hpv : True := trivial
  have hps : True := trivial
  have hn := hf.n
  have hk := hf.k
  have hn2 := (kP (iJ ha.2.2.2).2.2).1
  have hal : (mO f.n f.N t).length <= f.n := aeO f.n f.N t
  have hs3 : (f.S (iN f ch)).n <= 300 := aaD ((iJ ha.2.2.2).2.1 _ ha2).1
  have hb : True := trivial
  refine ak Tryz.func20 rfl (by rw [Tryz.ntmps20]; simp) ?_
  simp only [Tryz.ntmps20, zM, PT.tv, au, Nat.zero_add, Nat.reduceAdd]
  repeat' (first
 | ((with_reducible show AW _ _ _ _); first
 | (with_reducible first | refine aS (fun K hK => ?_) | refine aI ?_ | refine aX ?_ | refine aT ?_ | refine aC ?_ | refine aB ?_)
 | (first
 | (with_reducible first | refine aP 0 [0,1,2] ?_ | refine aP 1 [1,2,3] ?_ | refine aP 2 [1,2,3,8,9] ?_ | refine aP 4 [1,2,3,8,9] ?_ | refine aP 6 [1,2,3,8] ?_ | refine aP 7 [1,3,8,9,10] ?_ | refine aP 9 [1,3,8,10] ?_ | refine qx (c := Code.region 10 _ false) [1] ?_ (aP 10 [1,3,10,11] ?_) | refine aP 11 [1,3,11,55,56,57] ?_ | refine aP 12 [1,3,11,55,56,57] ?_ | refine aP 13 [1,3,11,13,55,56,57] ?_ | refine aP 14 [1,3,11,14,15,55,56,57] ?_ | refine aP 15 [1,3,11,14,55,56,57] ?_ | refine aP 16 [1,3,11,16,18,55,56,57] ?_ | refine aP 17 [1,3,16,55,56,57] ?_ | refine aP 18 [1,3,11,55,56,57] ?_ | refine aP 19 [11] ?_))
 | ((with_reducible show AW _ (Code.loop _) _ _); first
 | ((with_reducible refine aL (c := (Code.seq (Code.region 11 _ _) _)) (ι := Nat) [1,3,55,56] (fun i => [(11, .t (.one (.iv (.lst 9 (zR f ch (mO f.n f.N t) i).1 (dN (zR f ch (mO f.n f.N t) i).2))))), (57, iA .i64 (i : Int))]) (fun i => []) (fun i => i <= (mO f.n f.N t).length) (fun i => (mO f.n f.N t).length - i) 0 ?lg11 ?l111 ?l211 ?li11 ?lr11); (case' lg11 => rintro i _); (case' li11 => try (omega)); (case' lr11 => rintro i hi KR hR11; simp only [bG, dL, hset, lk, if_true, if_false, xE, reduceIte, zN, dh, cB, cK, cO, cu, cZ, bZ, bY, bX, dw, bJ, bH, bI, h0, e5, ha1, hpv, hps, hb, YZ, Go.Sea.gK]))))
 | ((first | (with_reducible refine And.intro ?_ ?_) | (with_reducible refine Need.mk ?_)); focus (first | exact FK _ _ _ _ | first | exact True.intro | (with_reducible assumption) | omega | (simp; done)))
 | (with_reducible refine aK ?_)
 | ((with_reducible show bL _ _ _ _ _ _); first
 | ((with_reducible refine aN ?_ ?_) <;> (intro hc; (try simp only [zB, zC, reduceCtorEq] at hc); ((try (clear mk1; have hx := ajr (n := f.n) (N := f.N) (t := t) (i := i) (by omega); have hNo := hf.nn (zL (mO f.n f.N t) i).toNat (by omega); have hNn := hNo.n; cases hb : iK (f.N (zL (mO f.n f.N t) i).toNat) ch; all_goals (first | (have hpv : TJ (f.N (zL (mO f.n f.N t) i).toNat) ch = (jJ (f.N (zL (mO f.n f.N t) i).toNat) ch : Int) := aa3 hb; have hpl := of_decide_eq_true hb; have hPo := hNo.p _ hpl; have hps : fQ (f.N (zL (mO f.n f.N t) i).toNat) ch = ((f.N (zL (mO f.n f.N t) i).toNat).p (jJ (f.N (zL (mO f.n f.N t) i).toNat) ch)) := oF hb) | (have hpv : TJ (f.N (zL (mO f.n f.N t) i).toNat) ch = -1 := adL hb; have hps : fQ (f.N (zL (mO f.n f.N t) i).toNat) ch = vK := aeH hb))))); (try (exfalso; first | contradiction | omega)))))
 | ((with_reducible show aZ _ _ _ _ _ _ _ _ _ _); first
 | (refine aG (k := 45) jD (mH f hf ch) ?_ ?_)
 | (refine aG (k := 22) Ot (alY f.n f.N hf.n hf.nn t) ?_ ?_)
 | (refine aG (k := 60) Al (Gh (f.N (zL (mO f.n f.N t) i).toNat) ch hNo) ?_ ?_)
 | (refine aG (k := 61) zS (Ho (zR f ch (mO f.n f.N t) i).1 (zR f ch (mO f.n f.N t) i).2 ((f.N (zL (mO f.n f.N t) i).toNat).p (jJ (f.N (zL (mO f.n f.N t) i).toNat) ch)).k ((f.N (zL (mO f.n f.N t) i).toNat).p (jJ (f.N (zL (mO f.n f.N t) i).toNat) ch)).o (hxo i).1 (hxo i).2 hPo.k hPo.o) ?_ ?_)
 | (refine lV (k := 59) O9 (uR (aaC (f.S (iN f ch)).n (dN (f.S (iN f ch)).f) (Nat.le_trans hs3 (by decide))) (i := 1) rfl) ?_ ?_))
 | ((with_reducible refine hR11 _ (i + 1) ?_); (try clear hR11 KR))
 | ((with_reducible refine Told.mk ?_); simp only [go_sem, reduceIte, reduceCtorEq, xA, xL, xD, xE, xM, xS, xB, dh, cB, cK, cO, cu, cZ, bZ, bY, bX, dw, bJ, bH, bI, bC, h0, e5, ha1, hpv, hps, hb, YZ, Go.Sea.gK] <;> ((((try simp (disch := omega) only [aY, Int.natCast_add, Int.cast_ofNat_Int, and_true, true_and, and_self]); (repeat' (first | omega | (with_reducible refine And.intro ?_ ?_) | ((exact Or.inr ⟨(agB hb (by assumption)).1.symm, fun i o hi ho => by rw [(agB hb (by assumption)).2]; exact IV.bn _⟩)) | ((rw [agl (Or.inl hb)]; exact Or.inl rfl)) | ((rw [agl (Or.inr (by assumption))]; exact Or.inl rfl)) | ((exact Or.inr (fun i o hi ho => XY _ _ _ i o hi ho))))); done))))
 | ((fail_if_success (with_reducible show AW _ _ _ _)); simp (maxSteps := 2000000) only [go_sem, reduceIte, reduceCtorEq, xA, xL, xD, xE, xM, xS, xB, Tryz.f20, dh, cB, cK, cO, cu, cZ, bZ, bY, bX, dw, bJ, bH, bI, bC, h0, e5, ha1, hpv, hps, hb, YZ, Go.Sea.gK])
 | ((with_reducible refine hK _ ?_); clear hK K)
 | (with_reducible apply_assumption -exfalso only [*]))
  all_goals (have e := alS ht h0; have e0 : i = (mO f.n f.N t).length := (by omega); subst e0; rw [e.1, e.2]; unfold shF; (repeat' (first | exact rfl | (with_reducible refine And.intro ?_ ?_) | (intro i q hi hq; exact IV.bn _))))
theorem af6 (f : aj) (hf : f.Ok) (ch t : Int) : aA Tryz.prog 20 [j6 f, .one (.g (.int .i64 ch)), .one (.g (.int .i64 t))] (.tup [.one (.lst 9 (Il f ch t) (dN (shF f ch t))), .one (.g (.int .i64 (I4 f ch t)))]) := by
  by_cases h1 : iO f ch = 1 \/ ¬ (0 <= t /\ t <= 10000000)
  · exact akX f hf ch t h1
  · have h2 := not_or.1 h1
    have ht : 0 <= t /\ t <= 10000000 := Classical.byContradiction h2.2
    by_cases h0 : iO f ch = 0
    · exact amF f hf ch t ht h0
    · exact akT f hf ch t h2.1 ht h0
end Go.Proofs.YtcfechepbamhkaaGreat
namespace Go.Proofs.YtcfechepbamhkaaGreat
open Go.RowKit Go.Sea
open Nat renaming reduceAdd -> xA, reduceLT -> xL, reduceLeDiff -> xD, reduceEqDiff -> xE, reduceMul -> xM, reduceSub -> xS, reduceBEq -> xB
theorem FT : aM Tryz.prog 24 = true := by kernel_rfl
theorem abb : aM Tryz.prog 50 = true := by kernel_rfl
attribute [go_sem] FT abb
end Go.Proofs.YtcfechepbamhkaaGreat
