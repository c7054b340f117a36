/- Part 11 of 17: contracts of functions and plain laws for the root text. No condition. -/
import Derived.Test.YtcfechepbamhkaaGreatX01
import Derived.Test.YtcfechepbamhkaaGreatX02
import Derived.Test.YtcfechepbamhkaaGreatX03
import Derived.Test.YtcfechepbamhkaaGreatX04
import Derived.Test.YtcfechepbamhkaaGreatX05
import Derived.Test.YtcfechepbamhkaaGreatX06
import Derived.Test.YtcfechepbamhkaaGreatX07
import Derived.Test.YtcfechepbamhkaaGreatX08
import Derived.Test.YtcfechepbamhkaaGreatX09
import Derived.Test.YtcfechepbamhkaaGreatX10
set_option linter.unusedVariables false
set_option linter.unusedSimpArgs false
set_option maxRecDepth 100000
set_option maxHeartbeats 4000000
namespace Go.Proofs.YtcfechepbamhkaaGreat
open Go.RowKit Go.Sea
open Nat renaming reduceAdd -> xA, reduceLT -> xL, reduceLeDiff -> xD, reduceEqDiff -> xE, reduceMul -> xM, reduceSub -> xS, reduceBEq -> xB
theorem zS : aM Tryz.prog 61 = true := by kernel_rfl
theorem iq : aM Tryz.prog 48 = true := by kernel_rfl
theorem uh : aM Tryz.prog 49 = true := by kernel_rfl
theorem Va : aM Tryz.prog 102 = true := by kernel_rfl
theorem FJ : aM Tryz.prog 99 = true := by kernel_rfl
theorem qN : aM Tryz.prog 98 = true := by kernel_rfl
theorem qM : aM Tryz.prog 96 = true := by kernel_rfl
theorem Pj : aM Tryz.prog 97 = true := by kernel_rfl
theorem VL : aM Tryz.prog 101 = true := by kernel_rfl
theorem Bz : aM Tryz.prog 136 = true := by kernel_rfl
theorem alj : fM Tryz.prog 94 = true := by kernel_rfl
theorem afN : dA Tryz.prog 94 0 = some (0, 13) := by kernel_rfl
theorem ajF : lD Tryz.prog 131 = some (false, 1) := by kernel_rfl
theorem akB : lD Tryz.prog 94 = some (true, 13) := by kernel_rfl
theorem alf : fO Tryz.prog 94 = some [.iv (.g (.int .i64 0)), .iv (.g (.int .i64 0)), .iv (.g (.int .i64 0)), .iv (.g (.int .i64 0)), .iv (.g (.int .i64 0)), .iv (.g (.int .i64 0)), .iv (.g (.int .i64 0)), .iv (.g (.int .i64 0)), .iv (.g (.int .i64 0)), .iv (.g (.int .i64 0)), .iv (.g (.int .i64 0)), .iv (.g (.slice none 0 0)), .iv (.g (.slice none 0 0))] := by kernel_rfl
attribute [go_sem] zS iq uh Va FJ qN qM VL Bz alj afN ajF akB alf
theorem PE (q : Nat) (a : Nat -> Int) : Go.Sea.eO (bC a) 1 q 0 = dY (jZ q a) := by
  have hl : (Go.Sea.eO (bC a) 1 q 0).length = (dY (jZ q a)).length := by rw [gK, bf, iF, Nat.mul_one]
  refine List.ext_getElem? fun i => ?_
  by_cases h : i < q
  · have h1 := pW (bC a) 1 q 0 i 0 h (by omega)
    rw [Nat.mul_one, Nat.add_zero, Nat.zero_add] at h1
    rw [h1]
    simp [dY, jZ, h]; rfl
  · rw [List.getElem?_eq_none (by rw [gK]; omega), List.getElem?_eq_none (by rw [bf, iF]; omega)]
theorem wm (q : Nat) (a : Nat -> Int) (x : Int) : jB (jZ q a) x <= q := by have := kE (jZ q a) x; rwa [iF] at this
theorem aiO (s : aF) (N : ah) (hs : s.Ok) (ho : N.Ok) (hv : dW s = true) (hw : iy N = true) (hk : N.kd = 1) (hb : iK N s.ch = true) : aA Tryz.prog 16 [(lY s), (Er N)] (.tup [(lY (mQ s N)), .one (.g (.int .i64 (pQ s N)))]) := by
  have hil : (dY (lK (jZ s.q s.dn) (jB (jZ s.q s.dn) N.nu) N.nu)).length = s.q + 1 := by rw [bf, iQ (kE _ _), iF]
  have hk1 : (N.kd = 1) = True := by simp [hk]
  have hpS : fQ N s.ch = prt N s.ch := by unfold fQ; rw [if_pos hb]
  have hP : (fQ N s.ch).Ok := by rw [hpS]; exact ho.p _ (of_decide_eq_true hb)
  have hPk := hP.k
  have hPq := hP.q
  have hPo := hP.o
  have hsq := Jd hv
  have hnn := ho.n
  refine ak Tryz.func16 rfl (by rw [Tryz.ntmps16]; simp) ?_
  simp only [Er, lY, Tryz.ntmps16, zM, PT.tv, au, Nat.zero_add, Nat.reduceAdd]
  repeat' (first
 | ((with_reducible show AW _ _ _ _); first
 | (with_reducible first | refine aS (fun K hK => ?_) | refine aI ?_ | refine aX ?_ | refine aT ?_ | refine aC ?_ | refine aB ?_)
 | (first
 | ((with_reducible show AW _ (Code.region 17 _ true) _ _); refine Wh (c := 3) (b := 4) (r := 5) (m := s.q) (p := jB (jZ s.q s.dn) N.nu) (zs := jZ s.q s.dn) (x := N.nu) 6 7 rfl rfl rfl rfl rfl rfl rfl rfl rfl rfl rfl ⟨rfl, by simp, by decide⟩ rfl rfl (by decide) (by omega) (PE _ _) (iF _ _) (wm _ _ _) rfl rfl rfl rfl (by decide) (by kernel_rfl) (by kernel_rfl) (by kernel_rfl) (by kernel_rfl) (by kernel_rfl) ?_)
 | (with_reducible first | refine aP 0 [0,1] ?_ | refine aP (ops := #[⟨some 8, _, _, _, _, _⟩, _, _, _, _, _, _, _]) 1 [2,3,4] ?_ | refine aP (ops := #[⟨some 5, _, _, _, _, _⟩, _, _, _, _]) 1 [0,1] ?_ | refine aP (ops := #[⟨some 6, _, _, _, _, _⟩, _, _]) 1 [0,1] ?_ | refine aP (ops := #[⟨some 4, _, _, _, _, _⟩, _, _, _, _, _, _]) 1 [0,1] ?_)
 | ((with_reducible refine aR (c := Code.region 1 _ true) [2,3] ?_); (with_reducible refine aD ?_ ?_ ?_ ?_); (focus kernel_rfl); (focus kernel_rfl); (focus kernel_rfl))
 | (with_reducible first | refine aP (ops := #[⟨some 23, _, _, _, _, _⟩, _]) 2 [2,3,5,6] ?_ | refine aP (ops := #[⟨some 9, _, _, _, _, _⟩]) 2 [0,1,7,8] ?_ | refine aP (ops := #[⟨some 17, _, _, _, _, _⟩, _, _, _]) 3 [2,3,4] ?_ | refine aP (ops := #[⟨some 25, _, _, _, _, _⟩, _, _, _]) 3 [2,3,5,6,7] ?_ | refine aP (ops := #[⟨some 10, _, _, _, _, _⟩, _]) 3 [0,1,7,8] ?_ | refine aP (ops := #[⟨some 19, _, _, _, _, _⟩, _, _]) 4 [3,4,6] ?_ | refine aP (ops := #[⟨some 11, _, _, _, _, _⟩, _, _, _, _, _]) 4 [0,1,5,7,8] ?_ | refine aP (ops := #[⟨some 21, _, _, _, _, _⟩, _]) 5 [4,6,7] ?_ | refine aP (ops := #[⟨some 29, _, _, _, _, _⟩, _, _]) 5 [2,3,5,6,7] ?_ | refine aP (ops := #[⟨some 17, _, _, _, _, _⟩, _]) 5 [5] ?_ | refine aP (ops := #[⟨some 23, _, _, _, _, _⟩, _, _, _]) 6 [4,7] ?_ | refine aP (ops := #[⟨some 18, _, _, _, _, _⟩, _]) 6 [0,1,7,8] ?_ | refine aP (ops := #[⟨some 25, _, _, _, _, _⟩, _, _, _]) 7 [4,6] ?_ | refine aP (ops := #[⟨some 4, _, _, _, _, _⟩]) 7 [] ?_)
 | ((with_reducible refine aR (c := Code.region 7 _ true) [2,3,5,7] ?_); (with_reducible refine aD ?_ ?_ ?_ ?_); (focus kernel_rfl); (focus kernel_rfl); (focus kernel_rfl))
 | (with_reducible first | refine aP 8 [] ?_ | refine aP 9 [2,3,5,7] ?_ | refine aP 10 [] ?_ | refine aP 11 [2,3,5] ?_ | refine aP 12 [] ?_)
 | ((with_reducible refine aR (c := Code.region 13 _ true) [2,3,5] ?_); (with_reducible refine aD ?_ ?_ ?_ ?_); (focus kernel_rfl); (focus kernel_rfl); (focus kernel_rfl))
 | (with_reducible first | refine aP 14 [2,3,8,10] ?_ | refine aP 15 [] ?_)
 | ((with_reducible refine aR (c := Code.region 16 _ true) [2,3,8] ?_); (with_reducible refine aD ?_ ?_ ?_ ?_); (focus kernel_rfl); (focus kernel_rfl); (focus kernel_rfl))
 | (with_reducible refine qx (c := Code.region 18 _ false) [6] ?_ (aP 18 [] ?_)))
 | ((with_reducible show AW _ (Code.loop _) _ _); first
 | ((with_reducible refine aL (c := (Code.seq (Code.region 2 _ _) _)) (ι := Nat) [0,1,7] (fun j => [(8, iA .i64 (j : Int))]) (fun j => []) (fun j => j <= (fQ N s.ch).q /\ (∀ k, k < j -> fD s.q s.dn ((fQ N s.ch).a k) = true)) (fun j => (fQ N s.ch).q - j) 0 ?lg2 ?l12 ?l22 ?li2 ?lr2); (case' lg2 => rintro j _); (case' li2 => try (exact ⟨Nat.zero_le _, fun i hi => absurd hi (Nat.not_lt_zero _)⟩)); (case' lr2 => rintro j ⟨hj, haj⟩ KR hR2; simp only [bG, dL, hset, lk, if_true, if_false, xE, reduceIte, zN, hv, hw, hb, hk1, gY, mW, hil, Nat.le_refl]))))
 | ((first | (with_reducible refine And.intro ?_ ?_) | (with_reducible refine Need.mk ?_)); focus (first | exact iI _ | first | exact True.intro | omega | (intro _; exact True.intro)))
 | (with_reducible refine aK ?_)
 | ((with_reducible show bL _ _ _ _ _ _); first
 | ((with_reducible refine aN ?_ ?_) <;> (intro hc; (try simp only [zB, zC, reduceCtorEq] at hc); (try (exfalso; contradiction)))))
 | ((with_reducible refine And.intro ?_ ?_); focus ((with_reducible show iL _ _ _ = true); kernel_rfl))
 | ((with_reducible show aZ _ _ _ _ _ _ _ _ _ _); first
 | (refine aG (k := 48) iq (iE s hs) ?_ ?_)
 | (refine aG (k := 98) qN (KM s _ hs hv) ?_ ?_)
 | ((refine bW (k := 49) Tryz.func49 rfl uh (by rw [Tryz.ntmps49]; simp) ?_ ?_ (fun K hK => ?_)); (focus (exact True.intro)); (focus ((simp [iZ]; done))); simp only [Tryz.ntmps49, List.map_cons, List.map_nil, List.nil_append, List.cons_append, List.append_nil, LV.tv, au, Nat.zero_add, Nat.reduceAdd])
 | ((refine bW (k := 99) Tryz.func99 rfl FJ (by rw [Tryz.ntmps99]; simp) ?_ ?_ (fun K hK => ?_)); (focus (exact True.intro)); (focus ((simp [iZ]; done))); simp only [Tryz.ntmps99, List.map_cons, List.map_nil, List.nil_append, List.cons_append, List.append_nil, LV.tv, au, Nat.zero_add, Nat.reduceAdd])
 | ((refine bW (k := 136) Tryz.func136 rfl Bz (by rw [Tryz.ntmps136]; simp) ?_ ?_ (fun K hK => ?_)); (focus (exact True.intro)); (focus ((simp [iZ]; done))); simp only [Tryz.ntmps136, List.map_cons, List.map_nil, List.nil_append, List.cons_append, List.append_nil, LV.tv, au, Nat.zero_add, Nat.reduceAdd])
 | ((refine kJ (k := 97) Tryz.func97 rfl Pj (by rw [Tryz.ntmps97]; simp) ?_ ?_ (fun K hK => ?_)); (focus (exact True.intro)); (focus ((simp [iZ]; done))); simp only [Tryz.ntmps97, List.map_cons, List.map_nil, List.nil_append, List.cons_append, List.append_nil, LV.tv, au, Nat.zero_add, Nat.reduceAdd]))
 | ((with_reducible show bM _ _ _ _ _ _ _ _ _ _); first
 | (refine aV (k := 18) jE (fun hg => pU N ho) ?_ ?_))
 | ((with_reducible show eP _ _ _ _ _ _ _ _ _ _ _ _ _); first
 | (refine bR (k := 96) qM (Cy N s.ch ho) ?_ ?_)
 | (refine bR (k := 98) qN (KM s _ hs hv) ?_ ?_)
 | (refine bR (k := 61) zS (Ho s.n s.f (fQ N s.ch).k (fQ N s.ch).o hs.n hs.f hPk hPo) ?_ ?_)
 | (refine bR (k := 100) vw (ai4 s.q s.dn _ (by omega) (fun i j h1 h2 => pR hsq.2.2 j h1 h2)) ?_ ?_))
 | ((with_reducible refine hR2 _ (j + 1) ?_); (try clear hR2 KR))
 | ((with_reducible refine Told.mk ?_); simp only [go_sem, reduceIte, reduceCtorEq, xA, xL, xD, xE, xM, xS, xB, hv, hw, hb, hk1, bC, gY, mW, hil, Nat.le_refl] <;> ((((try simp (disch := omega) only [aY, Int.natCast_add, Int.cast_ofNat_Int, and_true, true_and, and_self]); (repeat' (first | omega | (with_reducible refine And.intro ?_ ?_) | (exact all_succ (by assumption) (by assumption)))); done))))
 | ((fail_if_success (with_reducible show AW _ _ _ _)); simp (maxSteps := 2000000) only [go_sem, reduceIte, reduceCtorEq, xA, xL, xD, xE, xM, xS, xB, Tryz.f16, Tryz.f49, Tryz.f99, Tryz.f136, Tryz.f97, hv, hw, hb, hk1, bC, gY, mW, hil, Nat.le_refl])
 | ((with_reducible refine hK _ ?_); clear hK K)
 | (with_reducible apply_assumption -exfalso only [*]))
  all_goals (try rw [hpS] at *)
  all_goals (first | (have e := yX (N := N) (s := s) ((jR hv hw).trans ((rT hk hb).trans (amW (by assumption)))) (by decide); rw [e.1, e.2]; (repeat' (first | exact rfl | (with_reducible refine And.intro ?_ ?_))); done) | (have e := yX (N := N) (s := s) ((jR hv hw).trans ((rT hk hb).trans (agz (by assumption) (by assumption) (by assumption)))) (by decide); rw [e.1, e.2]; (repeat' (first | exact rfl | (with_reducible refine And.intro ?_ ?_))); done) | (have e := yX (N := N) (s := s) ((jR hv hw).trans ((rT hk hb).trans (alH (by assumption) (NZ (by assumption) haj) (by assumption)))) (by decide); rw [e.1, e.2]; (repeat' (first | exact rfl | (with_reducible refine And.intro ?_ ?_))); done) | (have e := yX (N := N) (s := s) ((jR hv hw).trans ((rT hk hb).trans (agF (by assumption) (NZ (by assumption) haj) (by assumption) (by assumption)))) (by decide); rw [e.1, e.2]; (repeat' (first | exact rfl | (with_reducible refine And.intro ?_ ?_))); done) | (have e := agt (N := N) (s := s) ((jR hv hw).trans ((rT hk hb).trans (akZ (by assumption) (NZ (by assumption) haj) (by assumption) (by assumption)))); rw [e.1, e.2]; (repeat' (first | exact rfl | (with_reducible refine And.intro ?_ ?_) | (intro i q hi hq; exact IV.bn _) | (intro i q hi hq; exact Kc (by omega) hq))); done))
theorem aj3 (s : aF) (N : ah) (hs : s.Ok) (ho : N.Ok) (hv : dW s = false) : aA Tryz.prog 16 [(lY s), (Er N)] (.tup [(lY (mQ s N)), .one (.g (.int .i64 (pQ s N)))]) := by
  refine ak Tryz.func16 rfl (by rw [Tryz.ntmps16]; simp) ?_
  simp only [Er, lY, Tryz.ntmps16, zM, PT.tv, au, Nat.zero_add, Nat.reduceAdd]
  repeat' (first
 | ((with_reducible show AW _ _ _ _); first
 | (with_reducible first | refine aS (fun K hK => ?_) | refine aT ?_ | refine aC ?_)
 | (first
 | (with_reducible first | refine aP 0 [0,1] ?_ | refine aP 1 [2,3,4] ?_ | refine aP 2 [4] ?_)))
 | ((first | (with_reducible refine And.intro ?_ ?_) | (with_reducible refine Need.mk ?_)); focus (first | exact True.intro | (simp; done)))
 | (with_reducible refine aK ?_)
 | ((with_reducible show bL _ _ _ _ _ _); first
 | ((with_reducible refine aN ?_ ?_) <;> (intro hc; (try simp only [zB, zC, reduceCtorEq] at hc); (try (exfalso; contradiction)))))
 | ((with_reducible show aZ _ _ _ _ _ _ _ _ _ _); (refine aG (k := 48) iq (iE s hs) ?_ ?_))
 | ((with_reducible show bM _ _ _ _ _ _ _ _ _ _); (refine aV (k := 18) jE (fun hg => pU N ho) ?_ ?_))
 | ((fail_if_success (with_reducible show AW _ _ _ _)); simp (maxSteps := 2000000) only [go_sem, reduceIte, reduceCtorEq, xA, xL, xD, xE, xM, xS, xB, Tryz.f16, hv, bC])
 | ((with_reducible refine hK _ ?_); clear hK K))
  all_goals ((have e := yX (N := N) (s := s) (Vb (Or.inl hv)) (by decide); rw [e.1, e.2]; (repeat' (first | exact rfl | (with_reducible refine And.intro ?_ ?_))); done))
theorem ahY (s : aF) (N : ah) (hs : s.Ok) (ho : N.Ok) (hv : dW s = true) (hw : iy N = false) : aA Tryz.prog 16 [(lY s), (Er N)] (.tup [(lY (mQ s N)), .one (.g (.int .i64 (pQ s N)))]) := by
  refine ak Tryz.func16 rfl (by rw [Tryz.ntmps16]; simp) ?_
  simp only [Er, lY, Tryz.ntmps16, zM, PT.tv, au, Nat.zero_add, Nat.reduceAdd]
  repeat' (first
 | ((with_reducible show AW _ _ _ _); first
 | (with_reducible first | refine aS (fun K hK => ?_) | refine aT ?_ | refine aC ?_)
 | (first
 | (with_reducible first | refine aP 0 [0,1] ?_ | refine aP 1 [2,3,4] ?_ | refine aP 2 [4] ?_)))
 | ((first | (with_reducible refine And.intro ?_ ?_) | (with_reducible refine Need.mk ?_)); focus (first | exact True.intro | (intro _; exact True.intro)))
 | (with_reducible refine aK ?_)
 | ((with_reducible show bL _ _ _ _ _ _); first
 | ((with_reducible refine aN ?_ ?_) <;> (intro hc; (try simp only [zB, zC, reduceCtorEq] at hc); (try (exfalso; contradiction)))))
 | ((with_reducible show aZ _ _ _ _ _ _ _ _ _ _); (refine aG (k := 48) iq (iE s hs) ?_ ?_))
 | ((with_reducible show bM _ _ _ _ _ _ _ _ _ _); (refine aV (k := 18) jE (fun hg => pU N ho) ?_ ?_))
 | ((fail_if_success (with_reducible show AW _ _ _ _)); simp (maxSteps := 2000000) only [go_sem, reduceIte, reduceCtorEq, xA, xL, xD, xE, xM, xS, xB, Tryz.f16, hv, hw, bC])
 | ((with_reducible refine hK _ ?_); clear hK K))
  all_goals ((have e := yX (N := N) (s := s) (Vb (Or.inr hw)) (by decide); rw [e.1, e.2]; (repeat' (first | exact rfl | (with_reducible refine And.intro ?_ ?_))); done))
theorem aia (s : aF) (N : ah) (hs : s.Ok) (ho : N.Ok) (hv : dW s = true) (hw : iy N = true) (hk : N.kd ≠ 1) : aA Tryz.prog 16 [(lY s), (Er N)] (.tup [(lY (mQ s N)), .one (.g (.int .i64 (pQ s N)))]) := by
  refine ak Tryz.func16 rfl (by rw [Tryz.ntmps16]; simp) ?_
  simp only [Er, lY, Tryz.ntmps16, zM, PT.tv, au, Nat.zero_add, Nat.reduceAdd]
  repeat' (first
 | ((with_reducible show AW _ _ _ _); first
 | (with_reducible first | refine aS (fun K hK => ?_) | refine aI ?_ | refine aT ?_ | refine aC ?_ | refine aB ?_)
 | (first
 | (with_reducible first | refine aP (ops := #[⟨some 2, _, _, _, _, _⟩, _, _, _]) 0 [0,1] ?_ | refine aP (ops := #[⟨some 2, _, _, _, _, _⟩, _, _]) 0 [0,1] ?_ | refine aP 1 [2,3,4] ?_)
 | ((with_reducible refine aR (c := Code.region 1 _ true) [2,3] ?_); (with_reducible refine aD ?_ ?_ ?_ ?_); (focus kernel_rfl); (focus kernel_rfl); (focus kernel_rfl))
 | (with_reducible first | refine aP (ops := #[⟨some 23, _, _, _, _, _⟩, _]) 2 [2,3,5,6] ?_ | refine aP (ops := #[⟨some 17, _, _, _, _, _⟩, _, _, _]) 3 [2,3,4] ?_ | refine aP (ops := #[⟨some 25, _, _, _, _, _⟩, _, _, _]) 3 [2,3,5,6,7] ?_ | refine aP (ops := #[⟨some 19, _, _, _, _, _⟩, _, _]) 4 [3,4,6] ?_ | refine aP (ops := #[⟨some 4, _, _, _, _, _⟩]) 4 [] ?_ | refine aP (ops := #[⟨some 21, _, _, _, _, _⟩, _]) 5 [4,6,7] ?_ | refine aP (ops := #[⟨some 23, _, _, _, _, _⟩, _, _, _]) 6 [4,7] ?_)))
 | ((first | (with_reducible refine And.intro ?_ ?_) | (with_reducible refine Need.mk ?_)); focus (first | exact True.intro | (intro _; exact True.intro)))
 | (with_reducible refine aK ?_)
 | ((with_reducible show bL _ _ _ _ _ _); first
 | ((with_reducible refine aN ?_ ?_) <;> (intro hc; (try simp only [zB, zC, reduceCtorEq] at hc); (try (exfalso; contradiction)))))
 | ((with_reducible refine And.intro ?_ ?_); focus ((with_reducible show iL _ _ _ = true); kernel_rfl))
 | ((with_reducible show aZ _ _ _ _ _ _ _ _ _ _); first
 | (refine aG (k := 48) iq (iE s hs) ?_ ?_)
 | ((refine bW (k := 49) Tryz.func49 rfl uh (by rw [Tryz.ntmps49]; simp) ?_ ?_ (fun K hK => ?_)); (focus (exact True.intro)); (focus ((simp [iZ]; done))); simp only [Tryz.ntmps49, List.map_cons, List.map_nil, List.nil_append, List.cons_append, List.append_nil, LV.tv, au, Nat.zero_add, Nat.reduceAdd]))
 | ((with_reducible show bM _ _ _ _ _ _ _ _ _ _); first
 | (refine aV (k := 18) jE (fun hg => pU N ho) ?_ ?_))
 | ((with_reducible show eP _ _ _ _ _ _ _ _ _ _ _ _ _); first
 | (refine bR (k := 96) qM (Cy N s.ch ho) ?_ ?_))
 | ((fail_if_success (with_reducible show AW _ _ _ _)); simp (maxSteps := 2000000) only [go_sem, reduceIte, reduceCtorEq, xA, xL, xD, xE, xM, xS, xB, Tryz.f16, Tryz.f49, hv, hw, hk, bC])
 | ((with_reducible refine hK _ ?_); clear hK K)
 | (with_reducible apply_assumption -exfalso only [*]))
  all_goals ((have e := yX (N := N) (s := s) ((jR hv hw).trans (af8 hk)) (by decide); rw [e.1, e.2]; (repeat' (first | exact rfl | (with_reducible refine And.intro ?_ ?_))); done))
theorem ajH (s : aF) (N : ah) (hs : s.Ok) (ho : N.Ok) (hv : dW s = true) (hw : iy N = true) (hk : N.kd = 1) (hb : iK N s.ch = false) : aA Tryz.prog 16 [(lY s), (Er N)] (.tup [(lY (mQ s N)), .one (.g (.int .i64 (pQ s N)))]) := by
  have hk1 : (N.kd = 1) = True := by simp [hk]
  refine ak Tryz.func16 rfl (by rw [Tryz.ntmps16]; simp) ?_
  simp only [Er, lY, Tryz.ntmps16, zM, PT.tv, au, Nat.zero_add, Nat.reduceAdd]
  repeat' (first
 | ((with_reducible show AW _ _ _ _); first
 | (with_reducible first | refine aS (fun K hK => ?_) | refine aI ?_ | refine aT ?_ | refine aC ?_ | refine aB ?_)
 | (first
 | (with_reducible first | refine aP (ops := #[⟨some 2, _, _, _, _, _⟩, _, _, _]) 0 [0,1] ?_ | refine aP (ops := #[⟨some 2, _, _, _, _, _⟩, _, _]) 0 [0,1] ?_ | refine aP 1 [2,3,4] ?_)
 | ((with_reducible refine aR (c := Code.region 1 _ true) [2,3] ?_); (with_reducible refine aD ?_ ?_ ?_ ?_); (focus kernel_rfl); (focus kernel_rfl); (focus kernel_rfl))
 | (with_reducible first | refine aP (ops := #[⟨some 23, _, _, _, _, _⟩, _]) 2 [2,3,5,6] ?_ | refine aP (ops := #[⟨some 17, _, _, _, _, _⟩, _, _, _]) 3 [2,3,4] ?_ | refine aP (ops := #[⟨some 25, _, _, _, _, _⟩, _, _, _]) 3 [2,3,5,6,7] ?_ | refine aP (ops := #[⟨some 19, _, _, _, _, _⟩, _, _]) 4 [3,4,6] ?_ | refine aP (ops := #[⟨some 21, _, _, _, _, _⟩, _]) 5 [4,6,7] ?_ | refine aP (ops := #[⟨some 29, _, _, _, _, _⟩, _, _]) 5 [2,3,5,6,7] ?_ | refine aP (ops := #[⟨some 23, _, _, _, _, _⟩, _, _, _]) 6 [4,7] ?_ | refine aP (ops := #[⟨some 4, _, _, _, _, _⟩]) 6 [] ?_)))
 | ((first | (with_reducible refine And.intro ?_ ?_) | (with_reducible refine Need.mk ?_)); focus (first | exact True.intro | (intro _; exact True.intro)))
 | (with_reducible refine aK ?_)
 | ((with_reducible show bL _ _ _ _ _ _); first
 | ((with_reducible refine aN ?_ ?_) <;> (intro hc; (try simp only [zB, zC, reduceCtorEq] at hc); (try (exfalso; contradiction)))))
 | ((with_reducible refine And.intro ?_ ?_); focus ((with_reducible show iL _ _ _ = true); kernel_rfl))
 | ((with_reducible show aZ _ _ _ _ _ _ _ _ _ _); first
 | (refine aG (k := 48) iq (iE s hs) ?_ ?_)
 | ((refine bW (k := 49) Tryz.func49 rfl uh (by rw [Tryz.ntmps49]; simp) ?_ ?_ (fun K hK => ?_)); (focus (exact True.intro)); (focus ((simp [iZ]; done))); simp only [Tryz.ntmps49, List.map_cons, List.map_nil, List.nil_append, List.cons_append, List.append_nil, LV.tv, au, Nat.zero_add, Nat.reduceAdd]))
 | ((with_reducible show bM _ _ _ _ _ _ _ _ _ _); first
 | (refine aV (k := 18) jE (fun hg => pU N ho) ?_ ?_))
 | ((with_reducible show eP _ _ _ _ _ _ _ _ _ _ _ _ _); first
 | (refine bR (k := 96) qM (Cy N s.ch ho) ?_ ?_))
 | ((fail_if_success (with_reducible show AW _ _ _ _)); simp (maxSteps := 2000000) only [go_sem, reduceIte, reduceCtorEq, xA, xL, xD, xE, xM, xS, xB, Tryz.f16, Tryz.f49, hv, hw, hk1, hb, bC])
 | ((with_reducible refine hK _ ?_); clear hK K)
 | (with_reducible apply_assumption -exfalso only [*]))
  all_goals ((have e := yX (N := N) (s := s) ((jR hv hw).trans (akE hk hb)) (by decide); rw [e.1, e.2]; (repeat' (first | exact rfl | (with_reducible refine And.intro ?_ ?_))); done))
theorem aaJ (s : aF) (N : ah) (hs : s.Ok) (ho : N.Ok) : aA Tryz.prog 16 [(lY s), (Er N)] (.tup [(lY (mQ s N)), .one (.g (.int .i64 (pQ s N)))]) := by
  cases hv : dW s with
  | false => exact aj3 s N hs ho hv
  | true => cases hw : iy N with
    | false => exact ahY s N hs ho hv hw
    | true =>
      by_cases hk : N.kd = 1
      · cases hb : iK N s.ch with
        | false => exact ajH s N hs ho hv hw hk hb
        | true => exact aiO s N hs ho hv hw hk hb
      · exact aia s N hs ho hv hw hk
end Go.Proofs.YtcfechepbamhkaaGreat
set_option maxRecDepth 100000
set_option maxHeartbeats 4000000
namespace Go.Proofs.YtcfechepbamhkaaGreat
open Go.RowKit Go.Sea
open Nat renaming reduceAdd -> xA, reduceLT -> xL, reduceLeDiff -> xD, reduceEqDiff -> xE, reduceMul -> xM, reduceSub -> xS, reduceBEq -> xB
theorem Zx : aM Tryz.prog 156 = true := by kernel_rfl
theorem abv : aM Tryz.prog 66 = true := by kernel_rfl
attribute [go_sem] Zx abv
theorem Gi {q : Nat} {a : Nat -> Int} {x : Int} {i : Nat} (h : i < jB (jZ q a) x) : LU q a x i = a i /\ a i < x := by
  have hq := wm q a x
  have h1 := NS h
  unfold LU
  rw [uP (kE _ _) h, o7 (by omega)]
  rw [o7 (by omega)] at h1
  exact ⟨rfl, h1⟩
theorem LJ {q : Nat} {a : Nat -> Int} {x : Int} : LU q a x (jB (jZ q a) x) = x := vD (kE _ _)
theorem LY {q : Nat} {a : Nat -> Int} {x : Int} {i : Nat} (h : jB (jZ q a) x < i) (hi : i < q + 1) : LU q a x i = a (i - 1) := by
  unfold LU
  rw [GI (kE _ _) h, o7 (by omega)]
theorem abx {q : Nat} {a : Nat -> Int} {x : Int} (hs : ∀ i j, i < j -> j < q -> a i < a j) {i : Nat} (h : jB (jZ q a) x <= i) (hi : i < q) : x <= a i := by
  have h1 := NQ (zs := jZ q a) (x := x) (by rw [iF]; omega)
  rw [o7 (by omega)] at h1
  by_cases e : jB (jZ q a) x = i
  · rw [e] at h1; omega
  · have := hs (jB (jZ q a) x) i (by omega) hi
    omega
theorem akb {q : Nat} {a : Nat -> Int} {x : Int} (h : fD q a x = false) {i : Nat} (hi : i < q) : a i ≠ x := fun e => of_decide_eq_false h ⟨i, hi, e⟩
theorem akl {q : Nat} {a : Nat -> Int} {x : Int} (h : ∀ i, i < q -> nG a 10001 i) (hn : fD q a x = false) (h1 : 1 <= x) (h2 : x < 10001) : ∀ i, i < q + 1 -> nG (LU q a x) 10001 i := by
  have hs : ∀ i j, i < j -> j < q -> a i < a j := fun i j => pR h j
  have val : ∀ i, i < q + 1 -> (i < jB (jZ q a) x /\ LU q a x i = a i /\ a i < x) \/ (i = jB (jZ q a) x /\ LU q a x i = x) \/ (jB (jZ q a) x < i /\ LU q a x i = a (i - 1) /\ x < a (i - 1)) := fun i hi => by
    rcases Nat.lt_trichotomy i (jB (jZ q a) x) with hl | hl | hl
    · exact Or.inl ⟨hl, (Gi hl).1, (Gi hl).2⟩
    · exact Or.inr (Or.inl ⟨hl, by rw [hl]; exact LJ⟩)
    · refine Or.inr (Or.inr ⟨hl, LY hl hi, ?_⟩)
      have g1 := abx (x := x) hs (i := i - 1) (by omega) (by omega)
      have g2 := akb hn (i := i - 1) (by omega)
      omega
  intro i hi
  refine ⟨?_, ?_, fun h0 => ?_⟩
  · rcases val i hi with ⟨g, e, _⟩ | ⟨g, e⟩ | ⟨g, e, _⟩
    · rw [e]; exact (h i (by have := wm q a x; omega)).1
    · rw [e]; exact h1
    · rw [e]; exact (h (i - 1) (by omega)).1
  · rcases val i hi with ⟨g, e, _⟩ | ⟨g, e⟩ | ⟨g, e, _⟩
    · rw [e]; exact (h i (by have := wm q a x; omega)).2.1
    · rw [e]; exact h2
    · rw [e]; exact (h (i - 1) (by omega)).2.1
  · have hq := wm q a x
    rcases val i hi with ⟨g, e, e2⟩ | ⟨g, e⟩ | ⟨g, e, e2⟩ <;> rcases val (i - 1) (by omega) with ⟨g', e', e2'⟩ | ⟨g', e'⟩ | ⟨g', e', e2'⟩
    · rw [e, e']; exact hs _ _ (by omega) (by omega)
    · omega
    · omega
    · rw [e, e']; exact e2'
    · omega
    · omega
    · omega
    · rw [e, e']; exact e2
    · rw [e, e']; exact hs _ _ (by omega) (by omega)
theorem XR {l : List aW} (h : Good l) : oz l.length (fun i => l.getD i eG) = true := by
  refine decide_eq_true ⟨h.n, fun i hi => ⟨h.f _ (Cm hi), fun h0 => ?_⟩⟩
  have hp := List.pairwise_iff_getElem.1 h.a (i - 1) i (by omega) hi (by omega)
  simp only [List.getD, List.getElem?_eq_getElem hi, List.getElem?_eq_getElem (show i - 1 < l.length by omega), Option.getD_some]
  exact hp
theorem ajL {n : Nat} {f : Nat -> aW} {k : Nat} {o : Nat -> fG} (he : yU n f k o = 0) : oz (EA n f k o) (Zd n f k o) = true := by
  unfold yU at he
  by_cases hV : P7 n f k o = true
  · rw [if_pos hV] at he
    have hv : oz n f = true := by unfold P7 at hV; simp at hV; exact hV.1
    have hw : Ew k o = true := by unfold P7 at hV; simp at hV; exact hV.2
    have hops := (of_decide_eq_true hw).2
    by_cases hj : apJ n f k o < k
    · rw [if_pos hj] at he
      exfalso
      have := (iU (b := fun j => decide ((ow (jL (LF f n) o j) (o j)).1 ≠ 0)) (k := k)).2 hj
      exact of_decide_eq_true this he
    · have e1 : EA n f k o = (jL (LF f n) o k).length := by unfold EA; rw [if_pos hV, if_neg hj]
      rw [e1]
      exact XR (kT (FQ hv) hops k (Nat.le_refl k))
  · rw [if_neg hV] at he; exact absurd he (by decide)
theorem Xu {N : ah} (h : iy N = true) : 1 <= N.nu /\ N.nu <= 10000 := (of_decide_eq_true h).1.1.2.1
theorem OP {s : aF} {N : ah} (h : pQ s N = 0) : dW (Mq s N) = true /\ dW s = true /\ iy N = true /\ N.kd = 1 /\ iK N s.ch = true /\ fD s.q s.dn N.nu = false /\ AU s (prt N s.ch) = false /\ s.q < 200 /\ yU s.n s.f (prt N s.ch).k (prt N s.ch).o = 0 := by
  unfold pQ at h
  by_cases h0 : (dW s && iy N) = true
  · rw [if_pos h0] at h
    simp only [Bool.and_eq_true] at h0
    unfold edE at h
    by_cases h1 : N.kd ≠ 1
    · rw [if_pos h1] at h; cases h
    rw [if_neg h1] at h
    by_cases h2 : iK N s.ch = false
    · rw [if_pos h2] at h; cases h
    rw [if_neg h2] at h
    unfold rM at h
    by_cases h3 : fD s.q s.dn N.nu = true
    · rw [if_pos h3] at h; cases h
    rw [if_neg h3] at h
    by_cases h4 : AU s (prt N s.ch) = true
    · rw [if_pos h4] at h; cases h
    rw [if_neg h4] at h
    by_cases h5 : 200 <= s.q
    · rw [if_pos h5] at h; cases h
    rw [if_neg h5] at h
    by_cases h6 : yU s.n s.f (prt N s.ch).k (prt N s.ch).o ≠ 0
    · rw [if_pos h6] at h; cases h
    have h6 : yU s.n s.f (prt N s.ch).k (prt N s.ch).o = 0 := by omega
    have hn : fD s.q s.dn N.nu = false := by simpa using h3
    refine ⟨?_, h0.1, h0.2, by omega, by simpa using h2, hn, by simpa using h4, by omega, h6⟩
    have hv := h0.1
    have hnu := Xu h0.2
    have hq := Jd hv
    unfold dW at hv ⊢
    simp only [Bool.and_eq_true] at hv ⊢
    refine ⟨⟨⟨?_, hv.1.1.2⟩, hv.1.2⟩, ajL h6⟩
    exact decide_eq_true ⟨by show s.q + 1 <= 200; omega, akl hq.2.2 hn hnu.1 (by omega)⟩
  · rw [if_neg h0] at h; cases h
theorem ai7 {n : Nat} {f : Nat -> aW} (h : oz n f = true) : ∀ i, i < n -> (f i).Ok := fun i hi => F8 ((of_decide_eq_true h).2 i hi).1
theorem wW {s : aF} (h : dW s = true) : s.Ok := by
  have hq := Jd h
  unfold dW at h
  simp only [Bool.and_eq_true] at h
  exact ⟨by omega, by omega, ai7 h.2⟩
def nI (s : aF) (n : Nat) (N : Nat -> ah) (x : Int) : Int := if nV n N x < n then pQ s (N (nV n N x)) else 11
def dO (s : aF) (n : Nat) (N : Nat -> ah) (od : Nat -> Int) : Nat -> aF
  | 0 => s
  | i + 1 => Mq (dO s n N od i) (N (nV n N (od i)))
def Gv (s : aF) (n : Nat) (N : Nat -> ah) (k : Nat) (od : Nat -> Int) : Nat := jM (fun i => decide (nI (dO s n N od i) n N (od i) ≠ 0)) k
def zI (s : aF) (n : Nat) (N : Nat -> ah) (k : Nat) : Bool := dW s && pq n N && decide (k <= 200)
def qB (s : aF) (n : Nat) (N : Nat -> ah) (k : Nat) (od : Nat -> Int) : Int := if zI s n N k = true then (if Gv s n N k od < k then nI (dO s n N od (Gv s n N k od)) n N (od (Gv s n N k od)) else 0) else 1
def acv (s : aF) (n : Nat) (N : Nat -> ah) (k : Nat) (od : Nat -> Int) : Int := if zI s n N k = true then (if Gv s n N k od < k then (Gv s n N k od : Int) else -1) else -1
def sj (s : aF) (n : Nat) (N : Nat -> ah) (k : Nat) (od : Nat -> Int) : aF := if zI s n N k = true then (if Gv s n N k od < k then bg else dO s n N od k) else bg
theorem oN {s : aF} {n : Nat} {N : Nat -> ah} {k : Nat} {od : Nat -> Int} (h : zI s n N k = true) {i : Nat} (hi : (i : Int) < k) (g : ∀ j, j < i -> nI (dO s n N od j) n N (od j) = 0) {e : Int} (he : nI (dO s n N od i) n N (od i) = e) (h0 : e ≠ 0) : sj s n N k od = bg /\ acv s n N k od = i /\ qB s n N k od = e := by
  have ej : Gv s n N k od = i := jY (b := fun i => decide (nI (dO s n N od i) n N (od i) ≠ 0)) (decide_eq_true (by rw [he]; exact h0)) (fun j hj => decide_eq_false (by rw [g j hj]; simp)) k (by omega)
  unfold sj acv qB; rw [if_pos h, if_pos h, if_pos h, ej, if_pos (by omega), if_pos (by omega), if_pos (by omega)]
  exact ⟨rfl, rfl, he⟩
theorem X4 {s : aF} {n : Nat} {N : Nat -> ah} {k : Nat} {od : Nat -> Int} (h : zI s n N k = true) {i : Nat} (hi : (k : Int) <= i) (g : ∀ j, j < i -> nI (dO s n N od j) n N (od j) = 0) : sj s n N k od = dO s n N od k /\ acv s n N k od = -1 /\ qB s n N k od = 0 := by
  have ej : Gv s n N k od = k := o8 k fun j hj => decide_eq_false (by rw [g j (by omega)]; simp)
  unfold sj acv qB; rw [if_pos h, if_pos h, if_pos h, ej, if_neg (Nat.lt_irrefl _), if_neg (Nat.lt_irrefl _), if_neg (Nat.lt_irrefl _)]
  exact ⟨rfl, rfl, rfl⟩
theorem afX {s : aF} {n : Nat} {N : Nat -> ah} {od : Nat -> Int} (hv : dW s = true) : ∀ i, (∀ j, j < i -> nI (dO s n N od j) n N (od j) = 0) -> dW (dO s n N od i) = true
  | 0, _ => hv
  | i + 1, g => by
    have h := g i (by omega)
    unfold nI at h
    split at h
    · exact (OP h).1
    · cases h
theorem alQ {s : aF} {n : Nat} {N : Nat -> ah} {x : Int} (h : nV n N x < n) : nI s n N x = pQ s (N (nV n N x)) := by unfold nI; rw [if_pos h]
theorem kP {n : Nat} {N : Nat -> ah} (h : pq n N = true) : n <= 200 /\ ∀ i, i < n -> uU N i := of_decide_eq_true h
end Go.Proofs.YtcfechepbamhkaaGreat
set_option maxRecDepth 100000
set_option maxHeartbeats 4000000
namespace Go.Proofs.YtcfechepbamhkaaGreat
open Go.RowKit Go.Sea
open Nat renaming reduceAdd -> xA, reduceLT -> xL, reduceLeDiff -> xD, reduceEqDiff -> xE, reduceMul -> xM, reduceSub -> xS, reduceBEq -> xB
theorem KG : aM Tryz.prog 164 = true := by kernel_rfl
theorem KY : aM Tryz.prog 165 = true := by kernel_rfl
theorem akK : fM Tryz.prog 28 = true := by kernel_rfl
theorem agO : inD Tryz.prog 167 = some .u64 := by kernel_rfl
theorem aon : inD Tryz.prog 3 = some .i64 := by kernel_rfl
theorem ai8 : lD Tryz.prog 167 = some (false, 1) := by kernel_rfl
attribute [go_sem] KG akK agO aon ai8
def Ri (a b : Int) : Int := if a < b then -1 else if b < a then 1 else 0
theorem uH (a b : Int) : (Ri a b < 0) = (a < b) := by unfold Ri; refine propext ?_; split <;> (try split) <;> omega
theorem pF (a b : Int) : (Ri a b = 0) = (a = b) := by unfold Ri; refine propext ?_; split <;> (try split) <;> omega
theorem aiy (i j : Nat) (h1 : i <= 1000000) (h2 : j <= 1000000) : IntKind.i64.wrap ((IntKind.u64.wrap ((i : Int) + (j : Int))).fdiv (2 ^ min (Int.toNat 1) 64)) = (((i + j) / 2 : Nat) : Int) := by
  have e1 : IntKind.u64.wrap ((i : Int) + (j : Int)) = (i : Int) + (j : Int) := by
    unfold IntKind.wrap IntKind.signed IntKind.bits
    simp only
    split <;> simp_all <;> omega
  have e2 : ((2 : Int) ^ min (Int.toNat 1) 64) = 2 := by decide
  rw [e1, e2, Int.fdiv_eq_ediv_of_nonneg _ (by omega), aY (by omega) (by omega)]
  omega
theorem mJ {P : Program} {gs : List (Option Nat)} {b : Bool} {o : Oper} {os : List Oper} {s : AS} {K : AS -> Prop} (h1 : b = true -> kM P gs o os s K) (h2 : b = false -> fT P gs os (s.put o.dst .any) K) : xC P gs b o os s K := Or.inr ⟨h1, h2⟩
def Em : ah := ⟨0, 0, 0, 0, 0, 0, 0, fun _ => vK⟩
def zP (n : Nat) (N : Nat -> ah) (x : Int) : Bool := decide (nV n N x < n)
def mP (n : Nat) (N : Nat -> ah) (x : Int) : ah := if zP n N x = true then N (nV n N x) else Em
theorem mo {n : Nat} {N : Nat -> ah} (h : ∀ i, i < n -> uU N i) {i : Nat} : ∀ j, i < j -> j < n -> (N i).nu < (N j).nu
  | 0, hij, _ => absurd hij (Nat.not_lt_zero _)
  | j + 1, hij, hj => by
    have h1 := (h (j + 1) hj).2.2 (by omega)
    rw [Nat.add_sub_cancel] at h1
    by_cases e : i = j
    · subst e; exact h1
    · have := mo (i := i) h j (by omega) (by omega)
      omega
theorem adp {n : Nat} {N : Nat -> ah} {x : Int} {i : Nat} (hi : i < n) (h : (N i).nu = x) (g : ∀ k, k < i -> (N k).nu < x) : mP n N x = N i /\ zP n N x = true := by
  have e : nV n N x = i := jY (b := fun i => decide ((N i).nu = x)) (decide_eq_true h) (fun j hj => decide_eq_false (by have := g j hj; omega)) _ hi
  have e2 : zP n N x = true := decide_eq_true (by rw [e]; exact hi)
  refine ⟨?_, e2⟩
  unfold mP; rw [if_pos e2, e]
theorem Pg {n : Nat} {N : Nat -> ah} {x : Int} (g : ∀ k, k < n -> (N k).nu ≠ x) : mP n N x = Em /\ zP n N x = false := by
  have e : nV n N x = n := o8 _ fun j hj => decide_eq_false (g j hj)
  have e2 : zP n N x = false := decide_eq_false (by rw [e]; omega)
  refine ⟨?_, e2⟩
  unfold mP; rw [if_neg (by rw [e2]; simp)]
theorem ajh {n : Nat} {N : Nat -> ah} {x : Int} (h : ∀ i, i < n -> uU N i) {m : Nat} (hm : m < n) (hc : (N m).nu < x) : ∀ k, k < m + 1 -> (N k).nu < x := fun k hk => by
  by_cases e : k = m
  · subst e; exact hc
  · have := mo (i := k) h m (by omega) hm
    omega
theorem Uy {n : Nat} {N : Nat -> ah} {x : Int} (h : ∀ i, i < n -> uU N i) {m : Nat} (hc : x <= (N m).nu) : ∀ k, m <= k -> k < n -> x <= (N k).nu := fun k hk hn => by
  by_cases e : k = m
  · subst e; exact hc
  · have := mo (i := m) h k (by omega) hn
    omega
theorem am3 {n : Nat} {N : Nat -> ah} {x : Int} (h : ∀ i, i < n -> uU N i) {i j : Nat} (hlo : ∀ k, k < i -> (N k).nu < x) (hhi : ∀ k, j <= k -> k < n -> x <= (N k).nu) (hji : (j : Int) <= i) (hi : (i : Int) < n) (hc : Ri (N i).nu x ≠ 0) : mP n N x = Em /\ zP n N x = false := by
  have h0 : (N i).nu ≠ x := fun e => hc (by rw [pF]; exact e)
  have h1 := hhi i (by omega) (by omega)
  refine Pg fun k hk => ?_
  rcases Nat.lt_trichotomy k i with g | g | g
  · have := hlo k g; omega
  · subst g; exact h0
  · have := mo (i := i) h k g hk; omega
theorem N7 (N : ah) (x : Int) (ho : N.Ok) : aA Tryz.prog 165 [(Er N), .one (.g (.int .i64 x))] (.t (.one (.g (.int .i64 (Ri N.nu x))))) := by
  refine ak Tryz.func165 rfl (by rw [Tryz.ntmps165]; simp) ?_
  simp only [Er, Tryz.ntmps165, zM, PT.tv, au, Nat.zero_add, Nat.reduceAdd]
  repeat' (first
 | ((with_reducible show AW _ _ _ _); first
 | (with_reducible first | refine aS (fun K hK => ?_) | refine aT ?_)
 | (first
 | (with_reducible first | refine aP 0 [0,1] ?_ | refine aP 1 [1,2] ?_)))
 | (((with_reducible refine Need.mk ?_)); focus (exact True.intro))
 | (with_reducible refine aK ?_)
 | ((with_reducible show aZ _ _ _ _ _ _ _ _ _ _); first
 | (refine aG (k := 166) qg (G5 _ _) ?_ ?_))
 | ((fail_if_success (with_reducible show AW _ _ _ _)); simp (maxSteps := 2000000) only [go_sem, reduceIte, reduceCtorEq, xA, xL, xD, xE, xM, xS, xB, Tryz.f165])
 | ((with_reducible refine hK _ ?_); clear hK K))
  all_goals (rfl)
theorem amx (n : Nat) (N : Nat -> ah) (hn : n <= 9223372036854775807) (hN : ∀ i, i < n -> (N i).Ok) (x : Int) (hw : pq n N = true) : aA Tryz.prog 128 [.one (.lst 7 n (dX N)), .one (.g (.int .i64 x))] (.tup [(Er (mP n N x)), .one (.g (.bool (zP n N x)))]) := by
  have hmid : True := trivial
  have hnt := kP hw
  have hn2 := hnt.1
  refine ak Tryz.func128 rfl (by rw [Tryz.ntmps128]; simp) ?_
  simp only [Er, Tryz.ntmps128, zM, PT.tv, au, Nat.zero_add, Nat.reduceAdd]
  repeat' (first
 | ((refine mJ ?_ ?_) <;> (intro hc; (try rw [hc]); (try simp only [zB, zC, reduceCtorEq] at hc); (try (exfalso; contradiction))))
 | ((with_reducible show AW _ _ _ _); first
 | (with_reducible first | refine aS (fun K hK => ?_) | refine aI ?_ | refine aX ?_ | refine aT ?_ | refine aC ?_ | refine aB ?_)
 | (first
 | (with_reducible first | refine aP (ops := #[⟨some 4, _, _, _, _, _⟩, _]) 0 [0,1] ?_ | refine aP (ops := #[⟨some 6, _, _, _, _, _⟩, _]) 0 [0,1,2] ?_ | refine aP (ops := #[⟨some 9, _, _, _, _, _⟩, _, _, _, _, _, _, _]) 1 [0,1,4] ?_ | refine aP (ops := #[⟨some 12, _, _, _, _, _⟩, _, _]) 1 [0,1,2] ?_ | refine aP (ops := #[⟨some 14, _, _, _, _, _⟩, _]) 2 [0,4,6,7] ?_ | refine aP (ops := #[⟨some 14, _, _, _, _, _⟩, _, _]) 2 [0,1,2,8] ?_ | refine aP (ops := #[⟨some 16, _, _, _, _, _⟩, _, _]) 3 [4] ?_ | refine aP (ops := #[⟨some 15, _, _, _, _, _⟩, _, _]) 3 [0,1,2,8,9,10] ?_ | refine aP (ops := #[⟨some 17, _, _, _, _, _⟩, _, _, _, _, _]) 4 [0,4,6] ?_ | refine aP (ops := #[⟨some 18, _, _, _, _, _⟩, _, _, _, _, _, _]) 4 [0,1,2,8,9,10] ?_ | refine aP 5 [0,1,2,8,9,10,11] ?_ | refine aP 6 [0,1,2,8,10,11] ?_ | refine aP 7 [0,1,2,8,9,11] ?_ | refine aP 8 [0,1,2,8,9] ?_))
 | ((with_reducible show AW _ (Code.loop _) _ _); first
 | ((with_reducible refine aL (c := (Code.seq (Code.seq (Code.region 3 _ _) _) _)) (ι := (Nat × Nat)) [0,1,2,8] (fun ⟨i, j⟩ => [(9, iA .i64 (i : Int)), (10, iA .i64 (j : Int))]) (fun ⟨i, j⟩ => []) (fun ⟨i, j⟩ => (i <= j /\ j <= n) /\ (∀ k, k < i -> (N k).nu < x) /\ (∀ k, j <= k -> k < n -> x <= (N k).nu)) (fun ⟨i, j⟩ => j - i) ⟨0, n⟩ ?lg3 ?l13 ?l23 ?li3 ?lr3); (case' lg3 => rintro ⟨i, j⟩ _); (case' li3 => try (exact ⟨⟨Nat.zero_le _, Nat.le_refl _⟩, fun k h => absurd h (Nat.not_lt_zero _), fun k h1 h2 => absurd h2 (by omega)⟩)); (case' lr3 => rintro ⟨i, j⟩ ⟨hij, hlo, hhi⟩ KR hR3; clear hmid; have hmid := aiy i j (by omega) (by omega); simp only [bG, dL, hset, lk, if_true, if_false, xE, reduceIte, zN, uH, pF, hmid, Int.toNat_natCast]))))
 | ((first | (with_reducible refine And.intro ?_ ?_) | (with_reducible refine Need.mk ?_)); focus (first | exact True.intro | omega | (simp (disch := omega) only [Bool.and_eq_true, Bool.or_eq_true, decide_eq_true_eq, bne_iff_ne, ne_eq] at *; omega)))
 | (with_reducible refine aK ?_)
 | ((with_reducible show bL _ _ _ _ _ _); first
 | ((with_reducible refine aN ?_ ?_) <;> (intro hc; (try simp only [zB, zC, reduceCtorEq] at hc); (try (exfalso; contradiction)))))
 | ((with_reducible show aZ _ _ _ _ _ _ _ _ _ _); first
 | (refine aG (k := 165) KY (N7 (N ((i + j) / 2)) x (hN _ (by omega))) ?_ ?_)
 | (refine aG (k := 165) KY (N7 (N i) x (hN _ (by omega))) ?_ ?_)
 | ((refine bW (k := 164) Tryz.func164 rfl KG (by rw [Tryz.ntmps164]; simp) ?_ ?_ (fun K hK => ?_)); (focus (exact True.intro)); (focus ((simp [iZ]; done))); simp only [Tryz.ntmps164, List.map_cons, List.map_nil, List.nil_append, List.cons_append, List.append_nil, LV.tv, au, Nat.zero_add, Nat.reduceAdd]))
 | ((with_reducible refine hR3 _ ⟨(i + j) / 2 + 1, j⟩ ?_); (try clear hR3 KR); (with_reducible refine Told.mk ?_); simp only [go_sem, reduceIte, reduceCtorEq, xA, xL, xD, xE, xM, xS, xB, uH, pF, hmid, Int.toNat_natCast]; ((try simp (disch := omega) only [aY, Int.natCast_add, Int.cast_ofNat_Int, and_true, true_and, and_self]); (repeat' (first | omega | (with_reducible refine And.intro ?_ ?_) | ((exact ajh hnt.2 (by omega) hc)))); done))
 | ((with_reducible refine hR3 _ ⟨i, (i + j) / 2⟩ ?_); (try clear hR3 KR); (with_reducible refine Told.mk ?_); simp only [go_sem, reduceIte, reduceCtorEq, xA, xL, xD, xE, xM, xS, xB, uH, pF, hmid, Int.toNat_natCast]; (((try simp (disch := omega) only [aY, Int.natCast_add, Int.cast_ofNat_Int, and_true, true_and, and_self]); (repeat' (first | omega | (with_reducible refine And.intro ?_ ?_) | ((exact Uy hnt.2 hc)))); done)))
 | ((with_reducible refine Told.mk ?_); simp only [go_sem, reduceIte, reduceCtorEq, xA, xL, xD, xE, xM, xS, xB, uH, pF, hmid, Int.toNat_natCast] <;> ((((try simp (disch := omega) only [aY, Int.natCast_add, Int.cast_ofNat_Int, and_true, true_and, and_self]); (repeat' (exact True.intro)); done))))
 | ((fail_if_success (with_reducible show AW _ _ _ _)); simp (maxSteps := 2000000) only [go_sem, reduceIte, reduceCtorEq, xA, xL, xD, xE, xM, xS, xB, Tryz.f128, Tryz.f164, uH, pF, hmid, Int.toNat_natCast])
 | ((fail_if_success (with_reducible show AW _ _ _ _)); simp (disch := omega) only [aY, iP, iX])
 | ((with_reducible refine hK _ ?_); clear hK K)
 | (with_reducible apply_assumption -exfalso only [*]))
  all_goals (first | (have e := am3 hnt.2 hlo hhi (by omega) (by omega) hc; rw [e.1, e.2]; (repeat' (first | exact rfl | (with_reducible refine And.intro ?_ ?_))); done) | (have e := adp (n := n) (N := N) (x := x) (i := i) (by omega) (Eq.mp (pF _ _) hc) hlo; rw [e.1, e.2]; (repeat' (first | exact rfl | (with_reducible refine And.intro ?_ ?_) | (intro i q hi hq; exact IV.bn _))); done) | (have e := Pg (n := n) (N := N) (x := x) (fun k hk => by have := hlo k (by omega); omega); rw [e.1, e.2]; (repeat' (first | exact rfl | (with_reducible refine And.intro ?_ ?_))); done))
end Go.Proofs.YtcfechepbamhkaaGreat
set_option maxRecDepth 100000
set_option maxHeartbeats 4000000
namespace Go.Proofs.YtcfechepbamhkaaGreat
open Go.RowKit Go.Sea
open Nat renaming reduceAdd -> xA, reduceLT -> xL, reduceLeDiff -> xD, reduceEqDiff -> xE, reduceMul -> xM, reduceSub -> xS, reduceBEq -> xB
theorem oD : aM Tryz.prog 82 = true := by kernel_rfl
theorem P8 : aM Tryz.prog 83 = true := by kernel_rfl
theorem Jz : aM Tryz.prog 128 = true := by kernel_rfl
attribute [go_sem] oD P8 Jz
theorem aaz : vK.Ok := ⟨by simp [vK], by simp [vK], fun i h => absurd h (Nat.not_lt_zero _)⟩
theorem adX {N : ah} (h : N.Ok) (ch : Int) : (fQ N ch).Ok := by
  unfold fQ; split
  · rename_i g; exact h.p _ (of_decide_eq_true g)
  · exact aaz
theorem aeE : Em.Ok := ⟨by simp [Em], fun i h => absurd h (Nat.not_lt_zero _)⟩
theorem ad9 {n : Nat} {N : Nat -> ah} (h : ∀ i, i < n -> (N i).Ok) (x : Int) : (mP n N x).Ok := by
  unfold mP; split
  · rename_i g; exact h _ (of_decide_eq_true g)
  · exact aeE
theorem Cb {n : Nat} {N : Nat -> ah} {x : Int} (h : zP n N x = true) : mP n N x = N (nV n N x) /\ nV n N x < n := ⟨by unfold mP; rw [if_pos h], of_decide_eq_true h⟩
theorem sP {n : Nat} {N : Nat -> ah} {x : Int} (hw : pq n N = true) (h : zP n N x = true) : iy (mP n N x) = true := by
  rw [(Cb h).1]; exact ((kP hw).2 _ (Cb h).2).1
theorem Ca {s : aF} {n : Nat} {N : Nat -> ah} {x : Int} (h : zP n N x = true) : nI s n N x = pQ s (mP n N x) := by
  rw [(Cb h).1]; exact alQ (Cb h).2
theorem al5 {s : aF} {n : Nat} {N : Nat -> ah} {x : Int} (h : zP n N x = false) : nI s n N x = 11 := by
  unfold nI; rw [if_neg (of_decide_eq_false h)]
theorem oF {N : ah} {ch : Int} (h : iK N ch = true) : fQ N ch = prt N ch := by unfold fQ; rw [if_pos h]
theorem ah0 {s : aF} {N : ah} (hb : iK N s.ch = true) (h : fD s.q s.dn N.nu = false) {j : Nat} (hj : (j : Int) < (fQ N s.ch).q) (h2 : fD s.q s.dn ((fQ N s.ch).a j) = false) : rM s N = 16 := by
  rw [oF hb] at hj h2; exact agz h hj h2
theorem MS {s : aF} {N : ah} (hb : iK N s.ch = true) {j : Nat} (hj : ((fQ N s.ch).q : Int) <= j) (g : ∀ k, k < j -> fD s.q s.dn ((fQ N s.ch).a k) = true) : AU s (prt N s.ch) = false := by
  rw [oF hb] at hj g; exact NZ hj g
theorem aiS {s : aF} {N : ah} (hb : iK N s.ch = true) (h : fD s.q s.dn N.nu = false) (hm : AU s (prt N s.ch) = false) (hq : (s.q : Int) < 200) (he : yU s.n s.f (fQ N s.ch).k (fQ N s.ch).o ≠ 0) : rM s N = 15 := by
  rw [oF hb] at he; exact agF h hm hq he
theorem anU {s : aF} {N : ah} (hb : iK N s.ch = true) (h : fD s.q s.dn N.nu = false) (hm : AU s (prt N s.ch) = false) (hq : (s.q : Int) < 200) (he : yU s.n s.f (fQ N s.ch).k (fQ N s.ch).o = 0) : rM s N = 0 := by
  rw [oF hb] at he; exact akZ h hm hq he
theorem aaB {s : aF} {n : Nat} {N : Nat -> ah} {od : Nat -> Int} {i : Nat} {F : ah} (hF : F = mP n N (od i)) (h : zP n N (od i) = true) (hb : iK F (dO s n N od i).ch = true) : dO s n N od (i + 1) = { dO s n N od i with q := (dO s n N od i).q + 1, dn := LU (dO s n N od i).q (dO s n N od i).dn F.nu, n := EA (dO s n N od i).n (dO s n N od i).f (fQ F (dO s n N od i).ch).k (fQ F (dO s n N od i).ch).o, f := Zd (dO s n N od i).n (dO s n N od i).f (fQ F (dO s n N od i).ch).k (fQ F (dO s n N od i).ch).o } := by
  rw [oF hb, hF, (Cb h).1]; rfl
theorem amM (s : aF) (x : Int) : (dY (lK (jZ s.q s.dn) (jB (jZ s.q s.dn) x) x)).length = s.q + 1 := by rw [bf, iQ (kE _ _), iF]
end Go.Proofs.YtcfechepbamhkaaGreat
set_option maxRecDepth 100000
set_option maxHeartbeats 4000000
namespace Go.Proofs.YtcfechepbamhkaaGreat
open Go.RowKit Go.Sea
open Nat renaming reduceAdd -> xA, reduceLT -> xL, reduceLeDiff -> xD, reduceEqDiff -> xE, reduceMul -> xM, reduceSub -> xS, reduceBEq -> xB
theorem akL : Ii Tryz.prog 22 = none := by kernel_rfl
theorem Qc : aM Tryz.prog 15 = true := by kernel_rfl
theorem rA : aM Tryz.prog 26 = true := by kernel_rfl
theorem abe : aM Tryz.prog 27 = true := by kernel_rfl
theorem Qd : aM Tryz.prog 40 = true := by kernel_rfl
theorem Al : aM Tryz.prog 60 = true := by kernel_rfl
theorem ad2 : aM Tryz.prog 81 = true := by kernel_rfl
theorem Ol : aM Tryz.prog 89 = true := by kernel_rfl
theorem ach : aM Tryz.prog 90 = true := by kernel_rfl
theorem anu : yu Tryz.prog 22 = some true := by kernel_rfl
theorem adE : dF Tryz.prog 25 0 = some 0 := by kernel_rfl
theorem adg : dF Tryz.prog 25 1 = some 1 := by kernel_rfl
theorem anT : rP Tryz.prog 22 = some (13, 136, 39) := by kernel_rfl
theorem al6 : lD Tryz.prog 22 = some (false, 1) := by kernel_rfl
theorem agw : lD Tryz.prog 23 = some (false, 1) := by kernel_rfl
theorem alU : lD Tryz.prog 25 = some (true, 2) := by kernel_rfl
attribute [go_sem] akL Qc rA abe Qd Al ad2 Ol anu adE adg anT al6 agw alU
def abZ : aF -> Nat -> IV
  | s, 0 => .g (.int .i64 s.ch)
  | s, 1 => .g (.int .i64 s.sc)
  | s, 2 => .g (.int .i64 s.ed)
  | s, 3 => .g (.int .i64 s.m.A)
  | s, 4 => .g (.int .i64 s.m.B)
  | s, 5 => .g (.int .i64 s.m.C)
  | s, 6 => .g (.int .i64 s.m.D)
  | s, 7 => .g (.int .i64 s.m.E)
  | s, 8 => .g (.int .i64 s.m.F)
  | s, 9 => .g (.int .i64 s.m.R)
  | s, 10 => .g (.int .i64 s.cap)
  | s, 11 => .lst 1 s.q (bC s.dn)
  | s, _ + 12 => .lst 9 s.n (dN s.f)
def iR (s : Nat -> aF) (i c : Nat) : IV := abZ (s i) c
theorem dh (s : Nat -> aF) (i : Nat) : iR s i 0 = .g (.int .i64 (s i).ch) := rfl
theorem cB (s : Nat -> aF) (i : Nat) : iR s i 1 = .g (.int .i64 (s i).sc) := rfl
theorem cK (s : Nat -> aF) (i : Nat) : iR s i 2 = .g (.int .i64 (s i).ed) := rfl
theorem cO (s : Nat -> aF) (i : Nat) : iR s i 3 = .g (.int .i64 (s i).m.A) := rfl
theorem cu (s : Nat -> aF) (i : Nat) : iR s i 4 = .g (.int .i64 (s i).m.B) := rfl
theorem cZ (s : Nat -> aF) (i : Nat) : iR s i 5 = .g (.int .i64 (s i).m.C) := rfl
theorem bZ (s : Nat -> aF) (i : Nat) : iR s i 6 = .g (.int .i64 (s i).m.D) := rfl
theorem bY (s : Nat -> aF) (i : Nat) : iR s i 7 = .g (.int .i64 (s i).m.E) := rfl
theorem bX (s : Nat -> aF) (i : Nat) : iR s i 8 = .g (.int .i64 (s i).m.F) := rfl
theorem dw (s : Nat -> aF) (i : Nat) : iR s i 9 = .g (.int .i64 (s i).m.R) := rfl
theorem bJ (s : Nat -> aF) (i : Nat) : iR s i 10 = .g (.int .i64 (s i).cap) := rfl
theorem bH (s : Nat -> aF) (i : Nat) : iR s i 11 = .lst 1 (s i).q (bC (s i).dn) := rfl
theorem bI (s : Nat -> aF) (i : Nat) : iR s i 12 = .lst 9 (s i).n (dN (s i).f) := rfl
structure aj where
  k : Nat
  S : Nat -> aF
  n : Nat
  N : Nat -> ah
structure aj.Ok (f : aj) : Prop where
  k : f.k <= 9223372036854775807
  s : ∀ i, i < f.k -> (f.S i).Ok
  n : f.n <= 9223372036854775807
  nn : ∀ i, i < f.n -> (f.N i).Ok
def j6 (f : aj) : PT := .agg [.lst 13 f.k (iR f.S), .lst 7 f.n (dX f.N)]
attribute [go_sem] j6
def qA : aj := ⟨0, fun _ => bg, 0, fun _ => Em⟩
theorem Po : qA.Ok := ⟨by simp [qA], fun i h => absurd h (Nat.not_lt_zero _), by simp [qA], fun i h => absurd h (Nat.not_lt_zero _)⟩
def Ga (S : Nat -> aF) (i : Nat) : Prop := dW (S i) = true /\ (0 < i -> (S (i - 1)).ch < (S i).ch)
instance (S : Nat -> aF) (i : Nat) : Decidable (Ga S i) := by unfold Ga; infer_instance
def gy (f : aj) : Bool := decide (f.k <= 20 /\ ∀ i, i < f.k -> Ga f.S i) && pq f.n f.N
def aeT (N : Nat -> ah) : Nat -> Int
  | 0 => 0
  | i + 1 => w64 (aeT N i + W9 (N i) (N i).n)
def oJ (f : aj) : Bool := decide (f.k <= 4 /\ f.n <= 12 /\ (∀ i, i < f.k -> (f.S i).n <= 12) /\ aeT f.N f.n <= 100)
theorem ahf {f : aj} (h : (f.k : Int) > 4 \/ (f.n : Int) > 12) : false = oJ f := (decide_eq_false fun g => by omega).symm
theorem aic {f : aj} {i : Nat} (hi : (i : Int) < f.k) (h : ((f.S i).n : Int) > 12) : false = oJ f := (decide_eq_false fun g => by have := g.2.2.1 i (by omega); omega).symm
theorem ai1 {f : aj} {i j : Nat} (h : (f.k : Int) <= 4 /\ (f.n : Int) <= 12) (hi : (f.k : Int) <= i) (g : ∀ j, j < i -> (f.S j).n <= 12) (hj : (f.n : Int) <= j) (hj2 : j <= f.n) : decide (aeT f.N j <= 100) = oJ f := by
  obtain rfl : j = f.n := by omega
  unfold oJ
  rw [Bool.eq_iff_iff, decide_eq_true_eq, decide_eq_true_eq]
  exact ⟨fun q => ⟨by omega, by omega, fun i hi => g i (by omega), q⟩, fun q => q.2.2.2⟩
theorem ZL {f : aj} (h : (f.k : Int) > 20 \/ pq f.n f.N = false) : false = gy f := by
  unfold gy
  rcases h with h | h
  · rw [decide_eq_false (fun g => by omega)]; rfl
  · rw [h, Bool.and_false]
theorem agc {f : aj} {i : Nat} (hi : (i : Int) < f.k) (h : dW (f.S i) = false \/ (i : Int) > 0 /\ (f.S i).ch <= (f.S (i - 1)).ch) : false = gy f := by
  unfold gy
  rw [decide_eq_false (fun g => ?_)]; rfl
  have g1 := g.2 i (by omega)
  rcases h with h | h
  · rw [g1.1] at h; cases h
  · have := g1.2 (by omega); omega
theorem aly {f : aj} {i : Nat} (h : (f.k : Int) <= 20) (hn : pq f.n f.N = true) (hi : (f.k : Int) <= i) (g : ∀ j, j < i -> Ga f.S j) : true = gy f := by
  unfold gy; rw [hn, decide_eq_true ⟨by omega, fun j hj => g j (by omega)⟩]; rfl
theorem iJ {f : aj} (h : gy f = true) : f.k <= 20 /\ (∀ i, i < f.k -> Ga f.S i) /\ pq f.n f.N = true := by
  unfold gy at h; simp only [Bool.and_eq_true, decide_eq_true_eq] at h; exact ⟨h.1.1, h.1.2, h.2⟩
theorem ah9 {s : aF} (h : dW s = true) : 1 <= s.ch /\ s.ch <= 1000 := by
  unfold dW at h; simp only [Bool.and_eq_true, decide_eq_true_eq] at h; omega
theorem akm {f : aj} {i : Nat} (hi : (i : Int) < f.k) (g : ∀ j, j < i -> Ga f.S j) (h : dW (f.S i) = false \/ (f.S i).ch <= oH (fun j => (f.S j).ch) i) : false = gy f := by
  by_cases hv : dW (f.S i) = true
  · rcases h with h | h
    · rw [hv] at h; cases h
    · refine agc hi (Or.inr ?_)
      unfold oH at h
      split at h
      · have := ah9 hv; omega
      · exact ⟨by omega, h⟩
  · exact agc hi (Or.inl (by simpa using hv))
theorem Yi {S : Nat -> aF} {i : Nat} (h : dW (S i) = true /\ oH (fun j => (S j).ch) i < (S i).ch) : Ga S i := ⟨h.1, fun h0 => by
  have := h.2; unfold oH at this; rw [if_neg (by omega)] at this; exact this⟩
theorem ahW {f : aj} {i : Nat} (hi : (i : Int) < f.n) (h : (iy (f.N i) = false \/ (f.N i).nu <= oH (fun j => (f.N j).nu) i) \/ (f.N i).oc ≠ (f.N 0).oc) : false = gy f := by
  refine ZL (Or.inr ?_)
  by_cases hv : iy (f.N i) = true
  · refine (Lv hi ?_).symm
    rcases h with (h | h) | h
    · exact Or.inl (Or.inl h)
    · right
      unfold oH at h
      split at h
      · have := Xu hv; omega
      · exact ⟨by omega, h⟩
    · exact Or.inl (Or.inr h)
  · exact (Lv hi (Or.inl (Or.inl (by simpa using hv)))).symm
theorem aao {N : Nat -> ah} {i : Nat} (h : (iy (N i) = true /\ oH (fun j => (N j).nu) i < (N i).nu) /\ (N i).oc = (N 0).oc) : uU N i := ⟨h.1.1, h.2, fun h0 => by
  have := h.1.2; unfold oH at this; rw [if_neg (by omega)] at this; exact this⟩
theorem ahD {f : aj} {i j : Nat} (h : (f.k : Int) <= 20 /\ (f.n : Int) <= 200) (hi : (f.k : Int) <= i) (g : ∀ j, j < i -> Ga f.S j) (hj : (f.n : Int) <= j) (g2 : ∀ i, i < j -> uU f.N i) : true = gy f :=
  aly h.1 (decide_eq_true ⟨by omega, fun i hi => g2 i (by omega)⟩) hi g
theorem agT {f : aj} (h : (f.k : Int) > 20 \/ (f.n : Int) > 200) : false = gy f := by
  rcases h with h | h
  · exact ZL (Or.inl h)
  · exact ZL (Or.inr (decide_eq_false fun g => by omega))
def iN (f : aj) (ch : Int) : Nat := jM (fun i => decide ((f.S i).ch = ch)) f.k
def Pq (f : aj) (ch : Int) : Int := if iN f ch < f.k then (iN f ch : Int) else -1
theorem an6 {f : aj} {ch : Int} {i : Nat} (hi : (i : Int) < f.k) (h : (f.S i).ch = ch) (g : ∀ j, j < i -> (f.S j).ch ≠ ch) : (i : Int) = Pq f ch := by
  have e : iN f ch = i := jY (b := fun i => decide ((f.S i).ch = ch)) (decide_eq_true h) (fun j hj => decide_eq_false (g j hj)) _ (by omega)
  unfold Pq; rw [e, if_pos (by omega)]
theorem aoI {f : aj} {ch : Int} {i : Nat} (hi : (f.k : Int) <= i) (g : ∀ j, j < i -> (f.S j).ch ≠ ch) : -1 = Pq f ch := by
  have e : iN f ch = f.k := o8 _ fun j hj => decide_eq_false (g j (by omega))
  unfold Pq; rw [e, if_neg (by omega)]
def asB (f : aj) (ch : Int) : Bool := gy f && decide (1 <= ch /\ ch <= 1000)
def iO (f : aj) (ch : Int) : Int := if asB f ch = true then (if Pq f ch < 0 then 4 else 0) else 1
def asV (f : aj) (ch : Int) : Int := if asB f ch = true then (if Pq f ch < 0 then 0 else Pq f ch) else 0
theorem akg {f : aj} {ch : Int} (h : (gy f = false \/ ch < 1) \/ ch > 1000) : asV f ch = 0 /\ iO f ch = 1 := by
  have e : asB f ch = false := by
    unfold asB
    rcases h with (h | h) | h
    · rw [h]; rfl
    · rw [decide_eq_false (fun g => by omega), Bool.and_false]
    · rw [decide_eq_false (fun g => by omega), Bool.and_false]
  unfold asV iO; rw [e]; exact ⟨rfl, rfl⟩
theorem acn {f : aj} {ch : Int} (h : (gy f = true /\ 1 <= ch) /\ ch <= 1000) : asB f ch = true := by unfold asB; rw [h.1.1, decide_eq_true ⟨h.1.2, h.2⟩]; rfl
theorem aoD {f : aj} {ch : Int} (h : (gy f = true /\ 1 <= ch) /\ ch <= 1000) (h2 : Pq f ch < 0) : asV f ch = 0 /\ iO f ch = 4 := by unfold asV iO; rw [if_pos (acn h), if_pos (acn h), if_pos h2, if_pos h2]; exact ⟨rfl, rfl⟩
theorem anI {f : aj} {ch : Int} (h : (gy f = true /\ 1 <= ch) /\ ch <= 1000) (h2 : 0 <= Pq f ch) : asV f ch = Pq f ch /\ iO f ch = 0 := by unfold asV iO; rw [if_pos (acn h), if_pos (acn h), if_neg (by omega), if_neg (by omega)]; exact ⟨rfl, rfl⟩
def rU (s : aF) (N : ah) : Bool := kN N s.ch && !fD s.q s.dn N.nu
theorem ake (N : ah) (ho : N.Ok) : aA Tryz.prog 40 [.agg [.g (.int .i64 N.oc), .g (.int .i64 N.nu), .g (.int .i64 N.kd), .g (.int .i64 N.fr), .g (.int .i64 N.un), .g (.int .i64 N.ca), .lst 3 N.n (dZ N.p)]] (.t (.one (.g (.int .i64 (W9 N N.n))))) := by
  have hnn := ho.n
  refine ak Tryz.func40 rfl (by rw [Tryz.ntmps40]; simp) ?_
  simp only [Tryz.ntmps40, zM, PT.tv, au, Nat.zero_add, Nat.reduceAdd]
  repeat' (first
 | ((with_reducible show AW _ _ _ _); first
 | (with_reducible first | refine aS (fun K hK => ?_) | refine aI ?_ | refine aX ?_ | refine aT ?_ | refine aC ?_ | refine aB ?_)
 | (first
 | (with_reducible first | refine aP 0 [0] ?_ | refine aP 1 [1] ?_ | refine aP 2 [1,3] ?_ | refine aP 3 [1,3,4] ?_ | refine aP 4 [1,3,4] ?_ | refine aP 5 [1,3,4] ?_ | refine aP 6 [1,3,4,5] ?_ | refine aP 7 [1,3,4,5] ?_ | refine aP 8 [1,3,4,5,6] ?_ | refine aP 9 [1,3,4,5,6] ?_)
 | ((with_reducible refine aR (c := Code.region 10 _ true) [1,3,4,5,6] ?_); (with_reducible refine aD ?_ ?_ ?_ ?_); (focus kernel_rfl); (focus kernel_rfl); (focus kernel_rfl))
 | (with_reducible refine aP 11 [3] ?_))
 | ((with_reducible show AW _ (Code.loop _) _ _); first
 | ((with_reducible refine aL (c := (Code.seq (Code.seq (Code.region 3 _ _) _) _)) (ι := Nat) [1] (fun i => [(3, iA .i64 (W9 N i)), (4, iA .i64 (i : Int))]) (fun i => []) (fun i => i <= N.n) (fun i => N.n - i) 0 ?lg3 ?l13 ?l23 ?li3 ?lr3); (case' lg3 => rintro i _); (case' li3 => try (omega)); (case' lr3 => rintro i hi KR hR3; simp only [bG, dL, hset, lk, if_true, if_false, xE, reduceIte, zN]))
 | ((with_reducible refine aL (c := (Code.seq (Code.seq (Code.region 8 _ _) _) _)) (ι := Nat) [1,4,5] (fun j => [(3, iA .i64 (ahx (N.p i) (w64 (w64 (W9 N i + ((N.p i).q : Int)) + ((N.p i).k : Int))) j)), (6, iA .i64 (j : Int))]) (fun j => []) (fun j => j <= (N.p i).k) (fun j => (N.p i).k - j) 0 ?lg8 ?l18 ?l28 ?li8 ?lr8); (case' lg8 => rintro j _); (case' li8 => try (omega)); (case' lr8 => rintro j hj KR hR8; simp only [bG, dL, hset, lk, if_true, if_false, xE, reduceIte, zN]))))
 | (((with_reducible refine And.intro ?_ ?_)); focus (omega))
 | (with_reducible refine aK ?_)
 | ((with_reducible show bL _ _ _ _ _ _); first
 | ((with_reducible refine aN ?_ ?_) <;> (intro hc; (try simp only [zB, zC, reduceCtorEq] at hc); ((try (have hoi := ho.p i (by omega); have hq1 := hoi.q; have hk1 := hoi.k; have hf1 := fun q h => (hoi.o q h).n; have hf2 := fun q h => (hoi.o q h).m)); (try (have e0 : i = N.n := (by omega); subst e0)); (try (have e0 : j = (N.p i).k := (by omega); subst e0))); (try (exfalso; contradiction)))))
 | ((with_reducible refine And.intro ?_ ?_); focus ((with_reducible show iL _ _ _ = true); kernel_rfl))
 | ((with_reducible refine hR3 _ (i + 1) ?_); (try clear hR3 KR))
 | ((with_reducible refine hR8 _ (j + 1) ?_); (try clear hR8 KR))
 | ((with_reducible refine Told.mk ?_); simp only [go_sem, reduceIte, reduceCtorEq, xA, xL, xD, xE, xM, xS, xB, bC] <;> ((((try simp (disch := omega) only [aY, Int.natCast_add, Int.cast_ofNat_Int, and_true, true_and, and_self]); (repeat' (first | omega | rfl | (with_reducible refine And.intro ?_ ?_))); done))))
 | ((fail_if_success (with_reducible show AW _ _ _ _)); simp (maxSteps := 2000000) only [go_sem, reduceIte, reduceCtorEq, xA, xL, xD, xE, xM, xS, xB, Tryz.f40, bC])
 | ((with_reducible refine hK _ ?_); clear hK K)
 | (with_reducible apply_assumption -exfalso only [*]))
theorem sJ (f : aj) (hf : f.Ok) : aA Tryz.prog 11 [j6 f] (.t (.one (.g (.bool (oJ f))))) := by
  have hk := hf.k
  have hn := hf.n
  refine ak Tryz.func11 rfl (by rw [Tryz.ntmps11]; simp) ?_
  simp only [Tryz.ntmps11, zM, PT.tv, au, Nat.zero_add, Nat.reduceAdd]
  repeat' (first
 | ((with_reducible show AW _ _ _ _); first
 | (with_reducible first | refine aS (fun K hK => ?_) | refine aI ?_ | refine aX ?_ | refine aT ?_ | refine aC ?_ | refine aB ?_)
 | (first
 | (with_reducible first | refine aP 0 [0] ?_ | refine aP 1 [1] ?_ | refine aP 2 [] ?_ | refine aP 3 [1] ?_ | refine aP 4 [1,3] ?_ | refine aP 5 [1,3,4] ?_ | refine aP 6 [1,3,4] ?_ | refine aP 7 [1,3,4] ?_ | refine aP 8 [] ?_ | refine aP 9 [1,3] ?_ | refine aP 10 [1,3,5] ?_ | refine aP 11 [1,3,5] ?_ | refine aP 12 [1,3,5] ?_ | refine aP 13 [3] ?_))
 | ((with_reducible show AW _ (Code.loop _) _ _); first
 | ((with_reducible refine aL (c := (Code.seq (Code.seq (Code.region 5 _ _) _) _)) (ι := Nat) [1,3] (fun i => [(4, iA .i64 (i : Int))]) (fun i => []) (fun i => i <= f.k /\ (∀ j, j < i -> (f.S j).n <= 12)) (fun i => f.k - i) 0 ?lg5 ?l15 ?l25 ?li5 ?lr5); (case' lg5 => rintro i _); (case' li5 => try (exact ⟨Nat.zero_le _, fun i hi => absurd hi (Nat.not_lt_zero _)⟩)); (case' lr5 => rintro i ⟨hi, hai⟩ KR hR5; simp only [bG, dL, hset, lk, if_true, if_false, xE, reduceIte, zN, dh, cB, cK, cO, cu, cZ, bZ, bY, bX, dw, bJ, bH, bI]))
 | ((with_reducible refine aL (c := (Code.seq (Code.seq (Code.region 10 _ _) _) _)) (ι := Nat) [1] (fun j => [(3, iA .i64 (aeT f.N j)), (5, iA .i64 (j : Int))]) (fun j => []) (fun j => j <= f.n) (fun j => f.n - j) 0 ?lg10 ?l110 ?l210 ?li10 ?lr10); (case' lg10 => rintro j _); (case' li10 => try (omega)); (case' lr10 => rintro j hj KR hR10; simp only [bG, dL, hset, lk, if_true, if_false, xE, reduceIte, zN, dh, cB, cK, cO, cu, cZ, bZ, bY, bX, dw, bJ, bH, bI]))))
 | ((first | (with_reducible refine And.intro ?_ ?_) | (with_reducible refine Need.mk ?_)); focus (first | exact True.intro | omega | (simp; done)))
 | (with_reducible refine aK ?_)
 | ((with_reducible show bL _ _ _ _ _ _); first
 | ((with_reducible refine aN ?_ ?_) <;> (intro hc; (try simp only [zB, zC, reduceCtorEq] at hc); ((try (have hsn := (hf.s i (by omega)).n))); (try (exfalso; contradiction)))))
 | ((with_reducible show aZ _ _ _ _ _ _ _ _ _ _); first
 | (refine aG (k := 40) Qd (ake (f.N j) (hf.nn j (by omega))) ?_ ?_))
 | ((with_reducible refine hR5 _ (i + 1) ?_); (try clear hR5 KR))
 | ((with_reducible refine hR10 _ (j + 1) ?_); (try clear hR10 KR))
 | ((with_reducible refine Told.mk ?_); simp only [go_sem, reduceIte, reduceCtorEq, xA, xL, xD, xE, xM, xS, xB, dh, cB, cK, cO, cu, cZ, bZ, bY, bX, dw, bJ, bH, bI, bC] <;> ((((try simp (disch := omega) only [aY, Int.natCast_add, Int.cast_ofNat_Int, and_true, true_and, and_self]); (repeat' (first | omega | rfl | (with_reducible refine And.intro ?_ ?_) | ((exact all_succ (by assumption) (by omega))))); done))))
 | ((fail_if_success (with_reducible show AW _ _ _ _)); simp (maxSteps := 2000000) only [go_sem, reduceIte, reduceCtorEq, xA, xL, xD, xE, xM, xS, xB, Tryz.f11, dh, cB, cK, cO, cu, cZ, bZ, bY, bX, dw, bJ, bH, bI, bC])
 | ((with_reducible refine hK _ ?_); clear hK K)
 | (with_reducible apply_assumption -exfalso only [*]))
  all_goals (first | exact ahf (by assumption) | exact aic (by assumption) (by assumption) | exact ai1 (by assumption) (by assumption) hai (by assumption) hj)
theorem KF (f : aj) (hf : f.Ok) : aA Tryz.prog 26 [j6 f] (.t (.one (.g (.bool (gy f))))) := by
  have hk := hf.k
  have hn := hf.n
  refine ak Tryz.func26 rfl (by rw [Tryz.ntmps26]; simp) ?_
  simp only [Tryz.ntmps26, zM, PT.tv, au, Nat.zero_add, Nat.reduceAdd]
  repeat' (first
 | ((with_reducible show AW _ _ _ _); first
 | (with_reducible first | refine aS (fun K hK => ?_) | refine aI ?_ | refine aX ?_ | refine aT ?_ | refine aC ?_ | refine aB ?_)
 | (first
 | (with_reducible first | refine aP 0 [0] ?_ | refine aP 1 [1] ?_ | refine aP 2 [] ?_ | refine aP 3 [1] ?_ | refine aP 4 [1,3] ?_ | refine aP 5 [1,3,19,20,21] ?_ | refine aP 6 [1,3,19,20,21] ?_ | refine aP 7 [1,3,5,19,20,21] ?_ | refine aP 8 [] ?_ | refine aP 9 [1,5,19,20,21] ?_ | refine aP 10 [1,3,19,20,21] ?_ | refine aP 11 [1] ?_ | refine aP 12 [1,3] ?_ | refine aP 13 [1,3,38,39,40] ?_ | refine aP 14 [1,3,38,39,40] ?_)
 | ((with_reducible refine aR (c := Code.region 15 _ true) [1,3,7,38,39,40] ?_); (with_reducible refine aD ?_ ?_ ?_ ?_); (focus kernel_rfl); (focus kernel_rfl); (focus kernel_rfl))
 | (with_reducible first | refine aP 16 [] ?_ | refine aP 17 [1,7,38,39,40] ?_ | refine aP 18 [1,3,38,39,40] ?_ | refine aP 19 [] ?_))
 | ((with_reducible show AW _ (Code.loop _) _ _); first
 | ((with_reducible refine aL (c := (Code.seq (Code.region 5 _ _) _)) (ι := Nat) [1,19,20] (fun i => [(3, iA .i64 (oH (fun j => (f.S j).ch) i)), (21, iA .i64 (i : Int))]) (fun i => []) (fun i => i <= f.k /\ (∀ j, j < i -> Ga f.S j)) (fun i => f.k - i) 0 ?lg5 ?l15 ?l25 ?li5 ?lr5); (case' lg5 => rintro i _); (case' li5 => try (exact ⟨Nat.zero_le _, fun i hi => absurd hi (Nat.not_lt_zero _)⟩)); (case' lr5 => rintro i ⟨hi, hai⟩ KR hR5; simp only [bG, dL, hset, lk, if_true, if_false, xE, reduceIte, zN, dh, cB, cK, cO, cu, cZ, bZ, bY, bX, dw, bJ, bH, bI, qF]))
 | ((with_reducible refine aL (c := (Code.seq (Code.region 13 _ _) _)) (ι := Nat) [1,38,39] (fun j => [(3, iA .i64 (oH (fun i => (f.N i).nu) j)), (40, iA .i64 (j : Int))]) (fun j => []) (fun j => j <= f.n /\ (∀ i, i < j -> uU f.N i)) (fun j => f.n - j) 0 ?lg13 ?l113 ?l213 ?li13 ?lr13); (case' lg13 => rintro j _); (case' li13 => try (exact ⟨Nat.zero_le _, fun i hi => absurd hi (Nat.not_lt_zero _)⟩)); (case' lr13 => rintro j ⟨hj, haj⟩ KR hR13; simp only [bG, dL, hset, lk, if_true, if_false, xE, reduceIte, zN, dh, cB, cK, cO, cu, cZ, bZ, bY, bX, dw, bJ, bH, bI, qF]))))
 | ((first | (with_reducible refine And.intro ?_ ?_) | (with_reducible refine Need.mk ?_)); focus (first | exact True.intro | omega | (intros; (repeat' (first | omega | (with_reducible refine And.intro ?_ ?_))); done) | (simp; done)))
 | (with_reducible refine aK ?_)
 | ((with_reducible show bL _ _ _ _ _ _); first
 | ((with_reducible refine aN ?_ ?_) <;> (intro hc; (try simp only [zB, zC, reduceCtorEq] at hc); (try (exfalso; contradiction)))))
 | ((with_reducible refine And.intro ?_ ?_); focus ((with_reducible show iL _ _ _ = true); kernel_rfl))
 | ((with_reducible show aZ _ _ _ _ _ _ _ _ _ _); first
 | (refine aG (k := 48) iq (iE (f.S i) (hf.s i (by omega))) ?_ ?_))
 | ((with_reducible show eP _ _ _ _ _ _ _ _ _ _ _ _ _); first
 | (refine bR (k := 18) jE (pU (f.N j) (hf.nn j (by omega))) ?_ ?_))
 | ((with_reducible refine hR5 _ (i + 1) ?_); (try clear hR5 KR))
 | ((with_reducible refine hR13 _ (j + 1) ?_); (try clear hR13 KR))
 | ((with_reducible refine Told.mk ?_); simp only [go_sem, reduceIte, reduceCtorEq, xA, xL, xD, xE, xM, xS, xB, dh, cB, cK, cO, cu, cZ, bZ, bY, bX, dw, bJ, bH, bI, bC, qF] <;> (first | (((try simp (disch := omega) only [aY, Int.natCast_add, Int.cast_ofNat_Int, and_true, true_and, and_self]); (repeat' (first | omega | rfl | (with_reducible refine And.intro ?_ ?_) | ((exact all_succ (by assumption) (Yi (by assumption)))))); done)) | (((try simp (disch := omega) only [aY, Int.natCast_add, Int.cast_ofNat_Int, and_true, true_and, and_self]); (repeat' (first | omega | (with_reducible refine And.intro ?_ ?_) | ((exact all_succ (by assumption) (aao (by assumption)))))); done))))
 | ((fail_if_success (with_reducible show AW _ _ _ _)); simp (maxSteps := 2000000) only [go_sem, reduceIte, reduceCtorEq, xA, xL, xD, xE, xM, xS, xB, Tryz.f26, dh, cB, cK, cO, cu, cZ, bZ, bY, bX, dw, bJ, bH, bI, bC, qF])
 | ((with_reducible refine hK _ ?_); clear hK K)
 | (with_reducible apply_assumption -exfalso only [*]))
  all_goals (first | exact agT (by assumption) | exact akm (by assumption) hai hc | exact ahW (by assumption) hc | exact ahD (by assumption) (by assumption) hai (by assumption) haj)
theorem mH (f : aj) (hf : f.Ok) (ch : Int) : aA Tryz.prog 45 [j6 f, .one (.g (.int .i64 ch))] (.tup [.one (.g (.int .i64 (asV f ch))), .one (.g (.int .i64 (iO f ch)))]) := by
  have hk := hf.k
  have hn := hf.n
  refine ak Tryz.func45 rfl (by rw [Tryz.ntmps45]; simp) ?_
  simp only [Tryz.ntmps45, zM, PT.tv, au, Nat.zero_add, Nat.reduceAdd]
  repeat' (first
 | ((with_reducible show AW _ _ _ _); first
 | (with_reducible first | refine aS (fun K hK => ?_) | refine aI ?_ | refine aX ?_ | refine aT ?_ | refine aC ?_ | refine aB ?_)
 | (first
 | (with_reducible first | refine aP (ops := #[⟨some 2, _, _, _, _, _⟩, _, _, _]) 0 [0,1] ?_ | refine aP (ops := #[⟨some 4, _, _, _, _, _⟩]) 0 [0,1] ?_ | refine aP (ops := #[⟨some 2, _, _, _, _, _⟩, _]) 0 [0,1] ?_ | refine aP (ops := #[⟨some 7, _, _, _, _, _⟩, _, _, _, _, _, _, _, _, _, _]) 1 [2,3] ?_ | refine aP (ops := #[⟨some 6, _, _, _, _, _⟩, _, _]) 1 [0,1] ?_ | refine aP (ops := #[⟨some 4, _, _, _, _, _⟩, _, _, _, _]) 1 [1,2] ?_ | refine aP (ops := #[⟨some 4, _, _, _, _, _⟩, _]) 2 [] ?_ | refine aP (ops := #[⟨some 9, _, _, _, _, _⟩]) 2 [0,1,7,8] ?_ | refine aP (ops := #[⟨some 18, _, _, _, _, _⟩, _, _, _, _]) 3 [2,3] ?_ | refine aP (ops := #[⟨some 10, _, _, _, _, _⟩, _]) 3 [0,1,7,8] ?_ | refine aP (ops := #[⟨some 22, _, _, _, _, _⟩, _]) 4 [6] ?_ | refine aP (ops := #[⟨some 11, _, _, _, _, _⟩, _, _, _, _, _]) 4 [0,1,5,7,8] ?_ | refine aP (ops := #[⟨some 4, _, _, _, _, _⟩, _]) 5 [] ?_ | refine aP (ops := #[⟨some 17, _, _, _, _, _⟩, _]) 5 [5] ?_ | refine aP (ops := #[⟨some 24, _, _, _, _, _⟩, _, _]) 6 [6] ?_ | refine aP (ops := #[⟨some 18, _, _, _, _, _⟩, _]) 6 [0,1,7,8] ?_ | refine aP 7 [] ?_))
 | ((with_reducible show AW _ (Code.loop _) _ _); first
 | ((with_reducible refine aL (c := (Code.seq (Code.region 2 _ _) _)) (ι := Nat) [0,1,7] (fun i => [(8, iA .i64 (i : Int))]) (fun i => []) (fun i => i <= f.k /\ (∀ j, j < i -> (f.S j).ch ≠ ch)) (fun i => f.k - i) 0 ?lg2 ?l12 ?l22 ?li2 ?lr2); (case' lg2 => rintro i _); (case' li2 => try (exact ⟨Nat.zero_le _, fun i hi => absurd hi (Nat.not_lt_zero _)⟩)); (case' lr2 => rintro i ⟨hi, hai⟩ KR hR2; simp only [bG, dL, hset, lk, if_true, if_false, xE, reduceIte, zN, dh, cB, cK, cO, cu, cZ, bZ, bY, bX, dw, bJ, bH, bI]))))
 | ((first | (with_reducible refine And.intro ?_ ?_) | (with_reducible refine Need.mk ?_)); focus (first | exact True.intro | omega | (simp; done)))
 | (with_reducible refine aK ?_)
 | ((with_reducible show bL _ _ _ _ _ _); first
 | ((with_reducible refine aN ?_ ?_) <;> (intro hc; (try simp only [zB, zC, reduceCtorEq] at hc); (try (exfalso; contradiction)))))
 | ((with_reducible show aZ _ _ _ _ _ _ _ _ _ _); first
 | (refine aG (k := 26) rA (KF f hf) ?_ ?_)
 | ((refine bW (k := 89) Tryz.func89 rfl Ol (by rw [Tryz.ntmps89]; simp) ?_ ?_ (fun K hK => ?_)); (focus (exact True.intro)); (focus ((simp [iZ]; done))); simp only [Tryz.ntmps89, List.map_cons, List.map_nil, List.nil_append, List.cons_append, List.append_nil, LV.tv, au, Nat.zero_add, Nat.reduceAdd])
 | ((refine kJ (k := 90) Tryz.func90 rfl ach (by rw [Tryz.ntmps90]; simp) ?_ ?_ (fun K hK => ?_)); (focus (exact True.intro)); (focus ((simp [iZ]; done))); simp only [Tryz.ntmps90, List.map_cons, List.map_nil, List.nil_append, List.cons_append, List.append_nil, LV.tv, au, Nat.zero_add, Nat.reduceAdd]))
 | ((with_reducible refine hR2 _ (i + 1) ?_); (try clear hR2 KR))
 | ((with_reducible refine Told.mk ?_); simp only [go_sem, reduceIte, reduceCtorEq, xA, xL, xD, xE, xM, xS, xB, dh, cB, cK, cO, cu, cZ, bZ, bY, bX, dw, bJ, bH, bI, bC] <;> ((((try simp (disch := omega) only [aY, Int.natCast_add, Int.cast_ofNat_Int, and_true, true_and, and_self]); (repeat' (first | omega | (with_reducible refine And.intro ?_ ?_) | (exact all_succ (by assumption) (by assumption)))); done))))
 | ((fail_if_success (with_reducible show AW _ _ _ _)); simp (maxSteps := 2000000) only [go_sem, reduceIte, reduceCtorEq, xA, xL, xD, xE, xM, xS, xB, Tryz.f45, Tryz.f89, Tryz.f90, dh, cB, cK, cO, cu, cZ, bZ, bY, bX, dw, bJ, bH, bI, bC])
 | ((with_reducible refine hK _ ?_); clear hK K)
 | (with_reducible apply_assumption -exfalso only [*]))
  all_goals (try rw [an6 (by assumption) (by assumption) hai] at *)
  all_goals (first | (have e1 := aoI (f := f) (by assumption) hai; have e := aoD (by assumption) (show Pq f ch < 0 by rw [<- e1]; decide); rw [e.1, e.2]; (repeat' (first | exact rfl | (with_reducible refine And.intro ?_ ?_))); done) | (have e := akg (by assumption); rw [e.1, e.2]; (repeat' (first | exact rfl | (with_reducible refine And.intro ?_ ?_))); done) | (have e := anI (by assumption) (by assumption); rw [e.1, e.2]; (repeat' (first | exact rfl | (with_reducible refine And.intro ?_ ?_))); done))
theorem Gh (N : ah) (ch : Int) (ho : N.Ok) : aA Tryz.prog 60 [.agg [.g (.int .i64 N.oc), .g (.int .i64 N.nu), .g (.int .i64 N.kd), .g (.int .i64 N.fr), .g (.int .i64 N.un), .g (.int .i64 N.ca), .lst 3 N.n (dZ N.p)], .one (.g (.int .i64 ch))] (.tup [.agg [.g (.int .i64 (fQ N ch).ch), .lst 1 (fQ N ch).q (bC (fQ N ch).a), .lst 16 (fQ N ch).k (jq (fQ N ch).o)], .one (.g (.bool (iK N ch)))]) := by
  have hnn := ho.n
  refine ak Tryz.func60 rfl (by rw [Tryz.ntmps60]; simp) ?_
  simp only [Tryz.ntmps60, zM, PT.tv, au, Nat.zero_add, Nat.reduceAdd]
  repeat' (first
 | ((with_reducible show AW _ _ _ _); first
 | (with_reducible first | refine aS (fun K hK => ?_) | refine aI ?_ | refine aX ?_ | refine aT ?_ | refine aC ?_ | refine aB ?_)
 | (first
 | (with_reducible first | refine aP 0 [0,1] ?_ | refine aP 1 [1,2,4] ?_ | refine aP 2 [1,4,9,10,11] ?_ | refine aP 3 [1,4,9,10,11] ?_ | refine aP 4 [1,4,7,9,10,11] ?_ | refine aP 5 [4,7] ?_ | refine aP 6 [1,4,9,10,11] ?_ | refine aP 7 [4] ?_))
 | ((with_reducible show AW _ (Code.loop _) _ _); first
 | ((with_reducible refine aL (c := (Code.seq (Code.region 2 _ _) _)) (ι := Nat) [1,4,9,10] (fun i => [(11, iA .i64 (i : Int))]) (fun i => []) (fun i => i <= N.n /\ (∀ j, j < i -> (N.p j).ch ≠ ch)) (fun i => N.n - i) 0 ?lg2 ?l12 ?l22 ?li2 ?lr2); (case' lg2 => rintro i _); (case' li2 => try (exact ⟨Nat.zero_le _, fun i hi => absurd hi (Nat.not_lt_zero _)⟩)); (case' lr2 => rintro i ⟨hi, hai⟩ KR hR2; simp only [bG, dL, hset, lk, if_true, if_false, xE, reduceIte, zN]))))
 | (((with_reducible refine And.intro ?_ ?_)); focus (omega))
 | (with_reducible refine aK ?_)
 | ((with_reducible show bL _ _ _ _ _ _); first
 | ((with_reducible refine aN ?_ ?_) <;> (intro hc; (try simp only [zB, zC, reduceCtorEq] at hc); (try (exfalso; contradiction)))))
 | ((with_reducible refine hR2 _ (i + 1) ?_); (try clear hR2 KR))
 | ((with_reducible refine Told.mk ?_); simp only [go_sem, reduceIte, reduceCtorEq, xA, xL, xD, xE, xM, xS, xB, bC] <;> ((((try simp (disch := omega) only [aY, Int.natCast_add, Int.cast_ofNat_Int, and_true, true_and, and_self]); (repeat' (first | omega | (with_reducible refine And.intro ?_ ?_) | (exact all_succ (by assumption) (by assumption)))); done))))
 | ((fail_if_success (with_reducible show AW _ _ _ _)); simp (maxSteps := 2000000) only [go_sem, reduceIte, reduceCtorEq, xA, xL, xD, xE, xM, xS, xB, Tryz.f60, bC])
 | ((with_reducible refine hK _ ?_); clear hK K)
 | (with_reducible apply_assumption -exfalso only [*]))
  all_goals (first | (have e := af4 (N := N) (by assumption) (by assumption) hai; have e2 : iK N ch = true := decide_eq_true (by rw [e]; omega); have e3 : fQ N ch = N.p i := (oF e2).trans (by unfold prt; rw [e]); rw [e2, e3]; (repeat' (first | exact rfl | (with_reducible refine And.intro ?_ ?_) | (intro i q hi hq; exact IV.bn _) | (intro i q hi hq; exact rfl))); done) | (have e := agb (N := N) (by assumption) hai; have e2 : iK N ch = false := decide_eq_false (by rw [e]; omega); have e3 : fQ N ch = vK := (by unfold fQ; rw [e2]; rfl); rw [e2, e3]; (repeat' (first | exact rfl | (with_reducible refine And.intro ?_ ?_))); done))
theorem Di (N : ah) (ch : Int) (ho : N.Ok) : aA Tryz.prog 70 [.agg [.g (.int .i64 N.oc), .g (.int .i64 N.nu), .g (.int .i64 N.kd), .g (.int .i64 N.fr), .g (.int .i64 N.un), .g (.int .i64 N.ca), .lst 3 N.n (dZ N.p)], .one (.g (.int .i64 ch))] (.t (.one (.g (.bool (kN N ch))))) := by
  refine ak Tryz.func70 rfl (by rw [Tryz.ntmps70]; simp) ?_
  simp only [Tryz.ntmps70, zM, PT.tv, au, Nat.zero_add, Nat.reduceAdd]
  repeat' (first
 | ((with_reducible show AW _ _ _ _); first
 | (with_reducible first | refine aS (fun K hK => ?_) | refine aT ?_)
 | (first
 | (with_reducible first | refine aP 0 [0,1] ?_ | refine aP 1 [1,2] ?_ | refine aP 2 [2,6] ?_)))
 | (((with_reducible refine Need.mk ?_)); focus (exact True.intro))
 | (with_reducible refine aK ?_)
 | ((with_reducible show aZ _ _ _ _ _ _ _ _ _ _); first
 | (refine aG (k := 60) Al (Gh N ch ho) ?_ ?_))
 | ((fail_if_success (with_reducible show AW _ _ _ _)); simp (maxSteps := 2000000) only [go_sem, reduceIte, reduceCtorEq, xA, xL, xD, xE, xM, xS, xB, Tryz.f70, bC])
 | ((with_reducible refine hK _ ?_); clear hK K))
  all_goals (unfold kN; cases iK N ch <;> simp <;> rw [Bool.eq_iff_iff] <;> simp)
end Go.Proofs.YtcfechepbamhkaaGreat
