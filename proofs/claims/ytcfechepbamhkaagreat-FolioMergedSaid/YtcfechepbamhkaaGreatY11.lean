/- Part 11 of 16: contracts of functions and plain laws for the root text. No condition. -/
import Derived.Test.YtcfechepbamhkaaGreatY01
import Derived.Test.YtcfechepbamhkaaGreatY02
import Derived.Test.YtcfechepbamhkaaGreatY03
import Derived.Test.YtcfechepbamhkaaGreatY04
import Derived.Test.YtcfechepbamhkaaGreatY05
import Derived.Test.YtcfechepbamhkaaGreatY06
import Derived.Test.YtcfechepbamhkaaGreatY07
import Derived.Test.YtcfechepbamhkaaGreatY08
import Derived.Test.YtcfechepbamhkaaGreatY09
import Derived.Test.YtcfechepbamhkaaGreatY10
import Derived.Test.YtcfechepbamhkaaGreatRows
import Derived.WalkKit
import Derived.ProofKit
import Derived.Lib.SmallJoins
import Derived.Deep.Strs
import Derived.Deep.SlicePairs
set_option linter.unusedVariables false
set_option linter.unusedSimpArgs false
set_option maxRecDepth 100000
set_option maxHeartbeats 4000000
namespace Go.Proofs.YtcfechepbamhkaaGreat
open Go.RowKit Go.Sea
open Nat renaming reduceAdd -> xA, reduceLT -> xL, reduceLeDiff -> xD, reduceEqDiff -> xE, reduceMul -> xM, reduceSub -> xS, reduceBEq -> xB
theorem FC : aK Tryz.prog 61 = true := by kernel_rfl
theorem jY : aK Tryz.prog 48 = true := by kernel_rfl
theorem zO : aK Tryz.prog 49 = true := by kernel_rfl
theorem U1 : aK Tryz.prog 102 = true := by kernel_rfl
theorem MW : aK Tryz.prog 99 = true := by kernel_rfl
theorem zG : aK Tryz.prog 98 = true := by kernel_rfl
theorem tC : aK Tryz.prog 96 = true := by kernel_rfl
theorem ZC : aK Tryz.prog 97 = true := by kernel_rfl
theorem XV : aK Tryz.prog 101 = true := by kernel_rfl
theorem Ib : aK Tryz.prog 136 = true := by kernel_rfl
theorem ak8 : fE Tryz.prog 94 = true := by kernel_rfl
theorem Z6 : dz Tryz.prog 94 0 = some (0, 13) := by kernel_rfl
theorem ahE : lG Tryz.prog 131 = some (false, 1) := by kernel_rfl
theorem ajn : lG Tryz.prog 94 = some (true, 13) := by kernel_rfl
theorem aip : fJ Tryz.prog 94 = some [.iv (.g (.int .i64 0)), .iv (.g (.int .i64 0)), .iv (.g (.int .i64 0)), .iv (.g (.int .i64 0)), .iv (.g (.int .i64 0)), .iv (.g (.int .i64 0)), .iv (.g (.int .i64 0)), .iv (.g (.int .i64 0)), .iv (.g (.int .i64 0)), .iv (.g (.int .i64 0)), .iv (.g (.int .i64 0)), .iv (.g (.slice none 0 0)), .iv (.g (.slice none 0 0))] := by kernel_rfl
attribute [go_sem] FC jY zO U1 MW zG tC XV Ib ak8 Z6 ahE ajn aip
theorem aa6 (q : Nat) (a : Nat -> Int) : Go.Sea.dZ (bC a) 1 q 0 = dU (lq q a) := by
  have hl : (Go.Sea.dZ (bC a) 1 q 0).length = (dU (lq q a)).length := by rw [fT, aZ, iM, Nat.mul_one]
  refine List.ext_getElem? fun i => ?_
  by_cases h : i < q
  · have h1 := oQ (bC a) 1 q 0 i 0 h (by omega)
    rw [Nat.mul_one, Nat.add_zero, Nat.zero_add] at h1
    rw [h1]
    simp [dU, lq, h]; rfl
  · rw [List.getElem?_eq_none (by rw [fT]; omega), List.getElem?_eq_none (by rw [aZ, iM]; omega)]
theorem Cy (q : Nat) (a : Nat -> Int) (x : Int) : ko (lq q a) x <= q := by have := mO (lq q a) x; rwa [iM] at this
theorem aeD (s : bE) (N : ah) (hs : s.Ok) (ho : N.Ok) (hv : gK s = true) (hw : gM N = true) (hk : N.kd = 1) (hb : iU N s.ch = true) : aA Tryz.prog 16 [(qQ s), (Gj N)] (.tup [(qQ (mh s N)), .one (.g (.int .i64 (uZ s N)))]) := by
  have hil : (dU (lS (lq s.q s.dn) (ko (lq s.q s.dn) N.nu) N.nu)).length = s.q + 1 := by rw [aZ, je (mO _ _), iM]
  have hk1 : (N.kd = 1) = True := by simp [hk]
  have hpS : iY N s.ch = prt N s.ch := by unfold iY; rw [if_pos hb]
  have hP : (iY N s.ch).Ok := by rw [hpS]; exact ho.p _ (of_decide_eq_true hb)
  have hPk := hP.k
  have hPq := hP.q
  have hPo := hP.o
  have hsq := NR hv
  have hnn := ho.n
  refine ak Tryz.func16 rfl (by rw [Tryz.ntmps16]; simp) ?_
  simp only [Gj, qQ, Tryz.ntmps16, zM, PT.tv, au, Nat.zero_add, Nat.reduceAdd]
  repeat' (first
 | ((with_reducible show AW _ _ _ _); first
 | (with_reducible first | refine aS (fun K hK => ?_) | refine aI ?_ | refine aX ?_ | refine aT ?_ | refine aC ?_ | refine aB ?_)
 | (first
 | ((with_reducible show AW _ (Code.region 17 _ true) _ _); refine ae2 (c := 3) (b := 4) (r := 5) (m := s.q) (p := ko (lq s.q s.dn) N.nu) (zs := lq s.q s.dn) (x := N.nu) 6 7 rfl rfl rfl rfl rfl rfl rfl rfl rfl rfl rfl ⟨rfl, by simp, by decide⟩ rfl rfl (by decide) (by omega) (aa6 _ _) (iM _ _) (Cy _ _ _) rfl rfl rfl rfl (by decide) (by kernel_rfl) (by kernel_rfl) (by kernel_rfl) (by kernel_rfl) (by kernel_rfl) ?_)
 | (with_reducible first | refine aP 0 [0,1] ?_ | refine aP (ops := #[⟨some 8, _, _, _, _, _⟩, _, _, _, _, _, _, _]) 1 [2,3,4] ?_ | refine aP (ops := #[⟨some 5, _, _, _, _, _⟩, _, _, _, _]) 1 [0,1] ?_ | refine aP (ops := #[⟨some 6, _, _, _, _, _⟩, _, _]) 1 [0,1] ?_ | refine aP (ops := #[⟨some 4, _, _, _, _, _⟩, _, _, _, _, _, _]) 1 [0,1] ?_)
 | ((with_reducible refine aR (c := Code.region 1 _ true) [2,3] ?_); (with_reducible refine aD ?_ ?_ ?_ ?_); (focus kernel_rfl); (focus kernel_rfl); (focus kernel_rfl))
 | (with_reducible first | refine aP (ops := #[⟨some 23, _, _, _, _, _⟩, _]) 2 [2,3,5,6] ?_ | refine aP (ops := #[⟨some 9, _, _, _, _, _⟩]) 2 [0,1,7,8] ?_ | refine aP (ops := #[⟨some 17, _, _, _, _, _⟩, _, _, _]) 3 [2,3,4] ?_ | refine aP (ops := #[⟨some 25, _, _, _, _, _⟩, _, _, _]) 3 [2,3,5,6,7] ?_ | refine aP (ops := #[⟨some 10, _, _, _, _, _⟩, _]) 3 [0,1,7,8] ?_ | refine aP (ops := #[⟨some 19, _, _, _, _, _⟩, _, _]) 4 [3,4,6] ?_ | refine aP (ops := #[⟨some 11, _, _, _, _, _⟩, _, _, _, _, _]) 4 [0,1,5,7,8] ?_ | refine aP (ops := #[⟨some 21, _, _, _, _, _⟩, _]) 5 [4,6,7] ?_ | refine aP (ops := #[⟨some 29, _, _, _, _, _⟩, _, _]) 5 [2,3,5,6,7] ?_ | refine aP (ops := #[⟨some 17, _, _, _, _, _⟩, _]) 5 [5] ?_ | refine aP (ops := #[⟨some 23, _, _, _, _, _⟩, _, _, _]) 6 [4,7] ?_ | refine aP (ops := #[⟨some 18, _, _, _, _, _⟩, _]) 6 [0,1,7,8] ?_ | refine aP (ops := #[⟨some 25, _, _, _, _, _⟩, _, _, _]) 7 [4,6] ?_ | refine aP (ops := #[⟨some 4, _, _, _, _, _⟩]) 7 [] ?_)
 | ((with_reducible refine aR (c := Code.region 7 _ true) [2,3,5,7] ?_); (with_reducible refine aD ?_ ?_ ?_ ?_); (focus kernel_rfl); (focus kernel_rfl); (focus kernel_rfl))
 | (with_reducible first | refine aP 8 [] ?_ | refine aP 9 [2,3,5,7] ?_ | refine aP 10 [] ?_ | refine aP 11 [2,3,5] ?_ | refine aP 12 [] ?_)
 | ((with_reducible refine aR (c := Code.region 13 _ true) [2,3,5] ?_); (with_reducible refine aD ?_ ?_ ?_ ?_); (focus kernel_rfl); (focus kernel_rfl); (focus kernel_rfl))
 | (with_reducible first | refine aP 14 [2,3,8,10] ?_ | refine aP 15 [] ?_)
 | ((with_reducible refine aR (c := Code.region 16 _ true) [2,3,8] ?_); (with_reducible refine aD ?_ ?_ ?_ ?_); (focus kernel_rfl); (focus kernel_rfl); (focus kernel_rfl))
 | (with_reducible refine wO (c := Code.region 18 _ false) [6] ?_ (aP 18 [] ?_)))
 | ((with_reducible show AW _ (Code.loop _) _ _); first
 | ((with_reducible refine aL (c := (Code.seq (Code.region 2 _ _) _)) (ι := Nat) [0,1,7] (fun j => [(8, iA .i64 (j : Int))]) (fun j => []) (fun j => j <= (iY N s.ch).q /\ (∀ k, k < j -> iD s.q s.dn ((iY N s.ch).a k) = true)) (fun j => (iY N s.ch).q - j) 0 ?lg2 ?l12 ?l22 ?li2 ?lr2); (case' lg2 => rintro j _); (case' li2 => try (exact ⟨Nat.zero_le _, fun i hi => absurd hi (Nat.not_lt_zero _)⟩)); (case' lr2 => rintro j ⟨hj, haj⟩ KR hR2; simp only [bD, dD, hset, lk, if_true, if_false, xE, reduceIte, zN, hv, hw, hb, hk1, gT, oO, hil, Nat.le_refl]))))
 | ((first | (with_reducible refine And.intro ?_ ?_) | (with_reducible refine Need.mk ?_)); focus (first | exact ig _ | first | exact True.intro | omega | (intro _; exact True.intro)))
 | (with_reducible refine aJ ?_)
 | ((with_reducible show bL _ _ _ _ _ _); first
 | ((with_reducible refine aM ?_ ?_) <;> (intro hc; (try simp only [zB, zC, reduceCtorEq] at hc); (try (exfalso; contradiction)))))
 | ((with_reducible refine And.intro ?_ ?_); focus ((with_reducible show gV _ _ _ = true); kernel_rfl))
 | ((with_reducible show aW _ _ _ _ _ _ _ _ _ _); first
 | (refine aF (k := 48) jY (kR s hs) ?_ ?_)
 | (refine aF (k := 98) zG (XK s _ hs hv) ?_ ?_)
 | ((refine dw (k := 49) Tryz.func49 rfl zO (by rw [Tryz.ntmps49]; simp) ?_ ?_ (fun K hK => ?_)); (focus (exact True.intro)); (focus ((simp [jo]; done))); simp only [Tryz.ntmps49, List.map_cons, List.map_nil, List.nil_append, List.cons_append, List.append_nil, LV.tv, au, Nat.zero_add, Nat.reduceAdd])
 | ((refine dw (k := 99) Tryz.func99 rfl MW (by rw [Tryz.ntmps99]; simp) ?_ ?_ (fun K hK => ?_)); (focus (exact True.intro)); (focus ((simp [jo]; done))); simp only [Tryz.ntmps99, List.map_cons, List.map_nil, List.nil_append, List.cons_append, List.append_nil, LV.tv, au, Nat.zero_add, Nat.reduceAdd])
 | ((refine dw (k := 136) Tryz.func136 rfl Ib (by rw [Tryz.ntmps136]; simp) ?_ ?_ (fun K hK => ?_)); (focus (exact True.intro)); (focus ((simp [jo]; done))); simp only [Tryz.ntmps136, List.map_cons, List.map_nil, List.nil_append, List.cons_append, List.append_nil, LV.tv, au, Nat.zero_add, Nat.reduceAdd])
 | ((refine nO (k := 97) Tryz.func97 rfl ZC (by rw [Tryz.ntmps97]; simp) ?_ ?_ (fun K hK => ?_)); (focus (exact True.intro)); (focus ((simp [jo]; done))); simp only [Tryz.ntmps97, List.map_cons, List.map_nil, List.nil_append, List.cons_append, List.append_nil, LV.tv, au, Nat.zero_add, Nat.reduceAdd]))
 | ((with_reducible show bM _ _ _ _ _ _ _ _ _ _); first
 | (refine aO (k := 18) jm (fun hg => pO N ho) ?_ ?_))
 | ((with_reducible show eT _ _ _ _ _ _ _ _ _ _ _ _ _); first
 | (refine dh (k := 96) tC (EM N s.ch ho) ?_ ?_)
 | (refine dh (k := 98) zG (XK s _ hs hv) ?_ ?_)
 | (refine dh (k := 61) FC (Mh s.n s.f (iY N s.ch).k (iY N s.ch).o hs.n hs.f hPk hPo) ?_ ?_)
 | (refine dh (k := 100) Aq (ahR s.q s.dn _ (by omega) (fun i j h1 h2 => tJ hsq.2.2 j h1 h2)) ?_ ?_))
 | ((with_reducible refine hR2 _ (j + 1) ?_); (try clear hR2 KR))
 | ((with_reducible refine Told.mk ?_); simp only [go_sem, reduceIte, reduceCtorEq, xA, xL, xD, xE, xM, xS, xB, hv, hw, hb, hk1, bC, gT, oO, hil, Nat.le_refl] <;> ((((try simp (disch := omega) only [aY, Int.natCast_add, Int.cast_ofNat_Int, and_true, true_and, and_self]); (repeat' (first | omega | (with_reducible refine And.intro ?_ ?_) | (exact all_succ (by assumption) (by assumption)))); done))))
 | ((fail_if_success (with_reducible show AW _ _ _ _)); simp (maxSteps := 2000000) only [go_sem, reduceIte, reduceCtorEq, xA, xL, xD, xE, xM, xS, xB, Tryz.f16, Tryz.f49, Tryz.f99, Tryz.f136, Tryz.f97, hv, hw, hb, hk1, bC, gT, oO, hil, Nat.le_refl])
 | ((with_reducible refine hK _ ?_); clear hK K)
 | (with_reducible apply_assumption -exfalso only [*]))
  all_goals (try rw [hpS] at *)
  all_goals (first | (have e := yS (N := N) (s := s) ((rW hv hw).trans ((Jc hk hb).trans (al2 (by assumption)))) (by decide); rw [e.1, e.2]; (repeat' (first | exact rfl | (with_reducible refine And.intro ?_ ?_))); done) | (have e := yS (N := N) (s := s) ((rW hv hw).trans ((Jc hk hb).trans (akA (by assumption) (by assumption) (by assumption)))) (by decide); rw [e.1, e.2]; (repeat' (first | exact rfl | (with_reducible refine And.intro ?_ ?_))); done) | (have e := yS (N := N) (s := s) ((rW hv hw).trans ((Jc hk hb).trans (alI (by assumption) (VB (by assumption) haj) (by assumption)))) (by decide); rw [e.1, e.2]; (repeat' (first | exact rfl | (with_reducible refine And.intro ?_ ?_))); done) | (have e := yS (N := N) (s := s) ((rW hv hw).trans ((Jc hk hb).trans (ajH (by assumption) (VB (by assumption) haj) (by assumption) (by assumption)))) (by decide); rw [e.1, e.2]; (repeat' (first | exact rfl | (with_reducible refine And.intro ?_ ?_))); done) | (have e := adR (N := N) (s := s) ((rW hv hw).trans ((Jc hk hb).trans (amd (by assumption) (VB (by assumption) haj) (by assumption) (by assumption)))); rw [e.1, e.2]; (repeat' (first | exact rfl | (with_reducible refine And.intro ?_ ?_) | (intro i q hi hq; exact IV.bG _) | (intro i q hi hq; exact YB (by omega) hq))); done))
theorem ahj (s : bE) (N : ah) (hs : s.Ok) (ho : N.Ok) (hv : gK s = false) : aA Tryz.prog 16 [(qQ s), (Gj N)] (.tup [(qQ (mh s N)), .one (.g (.int .i64 (uZ s N)))]) := by
  refine ak Tryz.func16 rfl (by rw [Tryz.ntmps16]; simp) ?_
  simp only [Gj, qQ, Tryz.ntmps16, zM, PT.tv, au, Nat.zero_add, Nat.reduceAdd]
  repeat' (first
 | ((with_reducible show AW _ _ _ _); first
 | (with_reducible first | refine aS (fun K hK => ?_) | refine aT ?_ | refine aC ?_)
 | (first
 | (with_reducible first | refine aP 0 [0,1] ?_ | refine aP 1 [2,3,4] ?_ | refine aP 2 [4] ?_)))
 | ((first | (with_reducible refine And.intro ?_ ?_) | (with_reducible refine Need.mk ?_)); focus (first | exact True.intro | (simp; done)))
 | (with_reducible refine aJ ?_)
 | ((with_reducible show bL _ _ _ _ _ _); first
 | ((with_reducible refine aM ?_ ?_) <;> (intro hc; (try simp only [zB, zC, reduceCtorEq] at hc); (try (exfalso; contradiction)))))
 | ((with_reducible show aW _ _ _ _ _ _ _ _ _ _); (refine aF (k := 48) jY (kR s hs) ?_ ?_))
 | ((with_reducible show bM _ _ _ _ _ _ _ _ _ _); (refine aO (k := 18) jm (fun hg => pO N ho) ?_ ?_))
 | ((fail_if_success (with_reducible show AW _ _ _ _)); simp (maxSteps := 2000000) only [go_sem, reduceIte, reduceCtorEq, xA, xL, xD, xE, xM, xS, xB, Tryz.f16, hv, bC])
 | ((with_reducible refine hK _ ?_); clear hK K))
  all_goals ((have e := yS (N := N) (s := s) (Xw (Or.inl hv)) (by decide); rw [e.1, e.2]; (repeat' (first | exact rfl | (with_reducible refine And.intro ?_ ?_))); done))
theorem agx (s : bE) (N : ah) (hs : s.Ok) (ho : N.Ok) (hv : gK s = true) (hw : gM N = false) : aA Tryz.prog 16 [(qQ s), (Gj N)] (.tup [(qQ (mh s N)), .one (.g (.int .i64 (uZ s N)))]) := by
  refine ak Tryz.func16 rfl (by rw [Tryz.ntmps16]; simp) ?_
  simp only [Gj, qQ, Tryz.ntmps16, zM, PT.tv, au, Nat.zero_add, Nat.reduceAdd]
  repeat' (first
 | ((with_reducible show AW _ _ _ _); first
 | (with_reducible first | refine aS (fun K hK => ?_) | refine aT ?_ | refine aC ?_)
 | (first
 | (with_reducible first | refine aP 0 [0,1] ?_ | refine aP 1 [2,3,4] ?_ | refine aP 2 [4] ?_)))
 | ((first | (with_reducible refine And.intro ?_ ?_) | (with_reducible refine Need.mk ?_)); focus (first | exact True.intro | (intro _; exact True.intro)))
 | (with_reducible refine aJ ?_)
 | ((with_reducible show bL _ _ _ _ _ _); first
 | ((with_reducible refine aM ?_ ?_) <;> (intro hc; (try simp only [zB, zC, reduceCtorEq] at hc); (try (exfalso; contradiction)))))
 | ((with_reducible show aW _ _ _ _ _ _ _ _ _ _); (refine aF (k := 48) jY (kR s hs) ?_ ?_))
 | ((with_reducible show bM _ _ _ _ _ _ _ _ _ _); (refine aO (k := 18) jm (fun hg => pO N ho) ?_ ?_))
 | ((fail_if_success (with_reducible show AW _ _ _ _)); simp (maxSteps := 2000000) only [go_sem, reduceIte, reduceCtorEq, xA, xL, xD, xE, xM, xS, xB, Tryz.f16, hv, hw, bC])
 | ((with_reducible refine hK _ ?_); clear hK K))
  all_goals ((have e := yS (N := N) (s := s) (Xw (Or.inr hw)) (by decide); rw [e.1, e.2]; (repeat' (first | exact rfl | (with_reducible refine And.intro ?_ ?_))); done))
theorem aeo (s : bE) (N : ah) (hs : s.Ok) (ho : N.Ok) (hv : gK s = true) (hw : gM N = true) (hk : N.kd ≠ 1) : aA Tryz.prog 16 [(qQ s), (Gj N)] (.tup [(qQ (mh s N)), .one (.g (.int .i64 (uZ s N)))]) := by
  refine ak Tryz.func16 rfl (by rw [Tryz.ntmps16]; simp) ?_
  simp only [Gj, qQ, Tryz.ntmps16, zM, PT.tv, au, Nat.zero_add, Nat.reduceAdd]
  repeat' (first
 | ((with_reducible show AW _ _ _ _); first
 | (with_reducible first | refine aS (fun K hK => ?_) | refine aI ?_ | refine aT ?_ | refine aC ?_ | refine aB ?_)
 | (first
 | (with_reducible first | refine aP (ops := #[⟨some 2, _, _, _, _, _⟩, _, _, _]) 0 [0,1] ?_ | refine aP (ops := #[⟨some 2, _, _, _, _, _⟩, _, _]) 0 [0,1] ?_ | refine aP 1 [2,3,4] ?_)
 | ((with_reducible refine aR (c := Code.region 1 _ true) [2,3] ?_); (with_reducible refine aD ?_ ?_ ?_ ?_); (focus kernel_rfl); (focus kernel_rfl); (focus kernel_rfl))
 | (with_reducible first | refine aP (ops := #[⟨some 23, _, _, _, _, _⟩, _]) 2 [2,3,5,6] ?_ | refine aP (ops := #[⟨some 17, _, _, _, _, _⟩, _, _, _]) 3 [2,3,4] ?_ | refine aP (ops := #[⟨some 25, _, _, _, _, _⟩, _, _, _]) 3 [2,3,5,6,7] ?_ | refine aP (ops := #[⟨some 19, _, _, _, _, _⟩, _, _]) 4 [3,4,6] ?_ | refine aP (ops := #[⟨some 4, _, _, _, _, _⟩]) 4 [] ?_ | refine aP (ops := #[⟨some 21, _, _, _, _, _⟩, _]) 5 [4,6,7] ?_ | refine aP (ops := #[⟨some 23, _, _, _, _, _⟩, _, _, _]) 6 [4,7] ?_)))
 | ((first | (with_reducible refine And.intro ?_ ?_) | (with_reducible refine Need.mk ?_)); focus (first | exact True.intro | (intro _; exact True.intro)))
 | (with_reducible refine aJ ?_)
 | ((with_reducible show bL _ _ _ _ _ _); first
 | ((with_reducible refine aM ?_ ?_) <;> (intro hc; (try simp only [zB, zC, reduceCtorEq] at hc); (try (exfalso; contradiction)))))
 | ((with_reducible refine And.intro ?_ ?_); focus ((with_reducible show gV _ _ _ = true); kernel_rfl))
 | ((with_reducible show aW _ _ _ _ _ _ _ _ _ _); first
 | (refine aF (k := 48) jY (kR s hs) ?_ ?_)
 | ((refine dw (k := 49) Tryz.func49 rfl zO (by rw [Tryz.ntmps49]; simp) ?_ ?_ (fun K hK => ?_)); (focus (exact True.intro)); (focus ((simp [jo]; done))); simp only [Tryz.ntmps49, List.map_cons, List.map_nil, List.nil_append, List.cons_append, List.append_nil, LV.tv, au, Nat.zero_add, Nat.reduceAdd]))
 | ((with_reducible show bM _ _ _ _ _ _ _ _ _ _); first
 | (refine aO (k := 18) jm (fun hg => pO N ho) ?_ ?_))
 | ((with_reducible show eT _ _ _ _ _ _ _ _ _ _ _ _ _); first
 | (refine dh (k := 96) tC (EM N s.ch ho) ?_ ?_))
 | ((fail_if_success (with_reducible show AW _ _ _ _)); simp (maxSteps := 2000000) only [go_sem, reduceIte, reduceCtorEq, xA, xL, xD, xE, xM, xS, xB, Tryz.f16, Tryz.f49, hv, hw, hk, bC])
 | ((with_reducible refine hK _ ?_); clear hK K)
 | (with_reducible apply_assumption -exfalso only [*]))
  all_goals ((have e := yS (N := N) (s := s) ((rW hv hw).trans (aj4 hk)) (by decide); rw [e.1, e.2]; (repeat' (first | exact rfl | (with_reducible refine And.intro ?_ ?_))); done))
theorem ahx (s : bE) (N : ah) (hs : s.Ok) (ho : N.Ok) (hv : gK s = true) (hw : gM N = true) (hk : N.kd = 1) (hb : iU N s.ch = false) : aA Tryz.prog 16 [(qQ s), (Gj N)] (.tup [(qQ (mh s N)), .one (.g (.int .i64 (uZ s N)))]) := by
  have hk1 : (N.kd = 1) = True := by simp [hk]
  refine ak Tryz.func16 rfl (by rw [Tryz.ntmps16]; simp) ?_
  simp only [Gj, qQ, Tryz.ntmps16, zM, PT.tv, au, Nat.zero_add, Nat.reduceAdd]
  repeat' (first
 | ((with_reducible show AW _ _ _ _); first
 | (with_reducible first | refine aS (fun K hK => ?_) | refine aI ?_ | refine aT ?_ | refine aC ?_ | refine aB ?_)
 | (first
 | (with_reducible first | refine aP (ops := #[⟨some 2, _, _, _, _, _⟩, _, _, _]) 0 [0,1] ?_ | refine aP (ops := #[⟨some 2, _, _, _, _, _⟩, _, _]) 0 [0,1] ?_ | refine aP 1 [2,3,4] ?_)
 | ((with_reducible refine aR (c := Code.region 1 _ true) [2,3] ?_); (with_reducible refine aD ?_ ?_ ?_ ?_); (focus kernel_rfl); (focus kernel_rfl); (focus kernel_rfl))
 | (with_reducible first | refine aP (ops := #[⟨some 23, _, _, _, _, _⟩, _]) 2 [2,3,5,6] ?_ | refine aP (ops := #[⟨some 17, _, _, _, _, _⟩, _, _, _]) 3 [2,3,4] ?_ | refine aP (ops := #[⟨some 25, _, _, _, _, _⟩, _, _, _]) 3 [2,3,5,6,7] ?_ | refine aP (ops := #[⟨some 19, _, _, _, _, _⟩, _, _]) 4 [3,4,6] ?_ | refine aP (ops := #[⟨some 21, _, _, _, _, _⟩, _]) 5 [4,6,7] ?_ | refine aP (ops := #[⟨some 29, _, _, _, _, _⟩, _, _]) 5 [2,3,5,6,7] ?_ | refine aP (ops := #[⟨some 23, _, _, _, _, _⟩, _, _, _]) 6 [4,7] ?_ | refine aP (ops := #[⟨some 4, _, _, _, _, _⟩]) 6 [] ?_)))
 | ((first | (with_reducible refine And.intro ?_ ?_) | (with_reducible refine Need.mk ?_)); focus (first | exact True.intro | (intro _; exact True.intro)))
 | (with_reducible refine aJ ?_)
 | ((with_reducible show bL _ _ _ _ _ _); first
 | ((with_reducible refine aM ?_ ?_) <;> (intro hc; (try simp only [zB, zC, reduceCtorEq] at hc); (try (exfalso; contradiction)))))
 | ((with_reducible refine And.intro ?_ ?_); focus ((with_reducible show gV _ _ _ = true); kernel_rfl))
 | ((with_reducible show aW _ _ _ _ _ _ _ _ _ _); first
 | (refine aF (k := 48) jY (kR s hs) ?_ ?_)
 | ((refine dw (k := 49) Tryz.func49 rfl zO (by rw [Tryz.ntmps49]; simp) ?_ ?_ (fun K hK => ?_)); (focus (exact True.intro)); (focus ((simp [jo]; done))); simp only [Tryz.ntmps49, List.map_cons, List.map_nil, List.nil_append, List.cons_append, List.append_nil, LV.tv, au, Nat.zero_add, Nat.reduceAdd]))
 | ((with_reducible show bM _ _ _ _ _ _ _ _ _ _); first
 | (refine aO (k := 18) jm (fun hg => pO N ho) ?_ ?_))
 | ((with_reducible show eT _ _ _ _ _ _ _ _ _ _ _ _ _); first
 | (refine dh (k := 96) tC (EM N s.ch ho) ?_ ?_))
 | ((fail_if_success (with_reducible show AW _ _ _ _)); simp (maxSteps := 2000000) only [go_sem, reduceIte, reduceCtorEq, xA, xL, xD, xE, xM, xS, xB, Tryz.f16, Tryz.f49, hv, hw, hk1, hb, bC])
 | ((with_reducible refine hK _ ?_); clear hK K)
 | (with_reducible apply_assumption -exfalso only [*]))
  all_goals ((have e := yS (N := N) (s := s) ((rW hv hw).trans (alj hk hb)) (by decide); rw [e.1, e.2]; (repeat' (first | exact rfl | (with_reducible refine And.intro ?_ ?_))); done))
theorem UQ (s : bE) (N : ah) (hs : s.Ok) (ho : N.Ok) : aA Tryz.prog 16 [(qQ s), (Gj N)] (.tup [(qQ (mh s N)), .one (.g (.int .i64 (uZ s N)))]) := by
  cases hv : gK s with
  | false => exact ahj s N hs ho hv
  | true => cases hw : gM N with
    | false => exact agx s N hs ho hv hw
    | true =>
      by_cases hk : N.kd = 1
      · cases hb : iU N s.ch with
        | false => exact ahx s N hs ho hv hw hk hb
        | true => exact aeD s N hs ho hv hw hk hb
      · exact aeo s N hs ho hv hw hk
end Go.Proofs.YtcfechepbamhkaaGreat
set_option maxRecDepth 100000
set_option maxHeartbeats 4000000
namespace Go.Proofs.YtcfechepbamhkaaGreat
open Go.RowKit Go.Sea
open Nat renaming reduceAdd -> xA, reduceLT -> xL, reduceLeDiff -> xD, reduceEqDiff -> xE, reduceMul -> xM, reduceSub -> xS, reduceBEq -> xB
theorem SB : aK Tryz.prog 156 = true := by kernel_rfl
theorem abf : aK Tryz.prog 66 = true := by kernel_rfl
attribute [go_sem] SB abf
theorem SF {q : Nat} {a : Nat -> Int} {x : Int} {i : Nat} (h : i < ko (lq q a) x) : R6 q a x i = a i /\ a i < x := by
  have hq := Cy q a x
  have h1 := M6 h
  unfold R6
  rw [uK (mO _ _) h, oI (by omega)]
  rw [oI (by omega)] at h1
  exact ⟨rfl, h1⟩
theorem ae7 {q : Nat} {a : Nat -> Int} {x : Int} : R6 q a x (ko (lq q a) x) = x := tF (mO _ _)
theorem afY {q : Nat} {a : Nat -> Int} {x : Int} {i : Nat} (h : ko (lq q a) x < i) (hi : i < q + 1) : R6 q a x i = a (i - 1) := by
  unfold R6
  rw [FY (mO _ _) h, oI (by omega)]
theorem acN {q : Nat} {a : Nat -> Int} {x : Int} (hs : ∀ i j, i < j -> j < q -> a i < a j) {i : Nat} (h : ko (lq q a) x <= i) (hi : i < q) : x <= a i := by
  have h1 := Nr (zs := lq q a) (x := x) (by rw [iM]; omega)
  rw [oI (by omega)] at h1
  by_cases e : ko (lq q a) x = i
  · rw [e] at h1; omega
  · have := hs (ko (lq q a) x) i (by omega) hi
    omega
theorem agB {q : Nat} {a : Nat -> Int} {x : Int} (h : iD q a x = false) {i : Nat} (hi : i < q) : a i ≠ x := fun e => of_decide_eq_false h ⟨i, hi, e⟩
theorem aha {q : Nat} {a : Nat -> Int} {x : Int} (h : ∀ i, i < q -> mW a 10001 i) (hn : iD q a x = false) (h1 : 1 <= x) (h2 : x < 10001) : ∀ i, i < q + 1 -> mW (R6 q a x) 10001 i := by
  have hs : ∀ i j, i < j -> j < q -> a i < a j := fun i j => tJ h j
  have val : ∀ i, i < q + 1 -> (i < ko (lq q a) x /\ R6 q a x i = a i /\ a i < x) \/ (i = ko (lq q a) x /\ R6 q a x i = x) \/ (ko (lq q a) x < i /\ R6 q a x i = a (i - 1) /\ x < a (i - 1)) := fun i hi => by
    rcases Nat.lt_trichotomy i (ko (lq q a) x) with hl | hl | hl
    · exact Or.inl ⟨hl, (SF hl).1, (SF hl).2⟩
    · exact Or.inr (Or.inl ⟨hl, by rw [hl]; exact ae7⟩)
    · refine Or.inr (Or.inr ⟨hl, afY hl hi, ?_⟩)
      have g1 := acN (x := x) hs (i := i - 1) (by omega) (by omega)
      have g2 := agB hn (i := i - 1) (by omega)
      omega
  intro i hi
  refine ⟨?_, ?_, fun h0 => ?_⟩
  · rcases val i hi with ⟨g, e, _⟩ | ⟨g, e⟩ | ⟨g, e, _⟩
    · rw [e]; exact (h i (by have := Cy q a x; omega)).1
    · rw [e]; exact h1
    · rw [e]; exact (h (i - 1) (by omega)).1
  · rcases val i hi with ⟨g, e, _⟩ | ⟨g, e⟩ | ⟨g, e, _⟩
    · rw [e]; exact (h i (by have := Cy q a x; omega)).2.1
    · rw [e]; exact h2
    · rw [e]; exact (h (i - 1) (by omega)).2.1
  · have hq := Cy q a x
    rcases val i hi with ⟨g, e, e2⟩ | ⟨g, e⟩ | ⟨g, e, e2⟩ <;> rcases val (i - 1) (by omega) with ⟨g', e', e2'⟩ | ⟨g', e'⟩ | ⟨g', e', e2'⟩
    · rw [e, e']; exact hs _ _ (by omega) (by omega)
    · omega
    · omega
    · rw [e, e']; exact e2'
    · omega
    · omega
    · omega
    · rw [e, e']; exact e2
    · rw [e, e']; exact hs _ _ (by omega) (by omega)
theorem Vi {l : List aN} (h : Good l) : nV l.length (fun i => l.getD i dM) = true := by
  refine decide_eq_true ⟨h.n, fun i hi => ⟨h.f _ (uE hi), fun h0 => ?_⟩⟩
  have hp := List.pairwise_iff_getElem.1 h.a (i - 1) i (by omega) hi (by omega)
  simp only [List.getD, List.getElem?_eq_getElem hi, List.getElem?_eq_getElem (show i - 1 < l.length by omega), Option.getD_some]
  exact hp
theorem agP {n : Nat} {f : Nat -> aN} {k : Nat} {o : Nat -> eG} (he : yL n f k o = 0) : nV (Dp n f k o) (Yv n f k o) = true := by
  unfold yL at he
  by_cases hV : Lr n f k o = true
  · rw [if_pos hV] at he
    have hv : nV n f = true := by unfold Lr at hV; simp at hV; exact hV.1
    have hw : Ah k o = true := by unfold Lr at hV; simp at hV; exact hV.2
    have hops := (of_decide_eq_true hw).2
    by_cases hj : apJ n f k o < k
    · rw [if_pos hj] at he
      exfalso
      have := (gZ (b := fun j => decide ((ni (jf (LF f n) o j) (o j)).1 ≠ 0)) (k := k)).2 hj
      exact of_decide_eq_true this he
    · have e1 : Dp n f k o = (jf (LF f n) o k).length := by unfold Dp; rw [if_pos hV, if_neg hj]
      rw [e1]
      exact Vi (j4 (EZ hv) hops k (Nat.le_refl k))
  · rw [if_neg hV] at he; exact absurd he (by decide)
theorem WX {N : ah} (h : gM N = true) : 1 <= N.nu /\ N.nu <= 10000 := (of_decide_eq_true h).1.1.2.1
theorem ad5 {s : bE} {N : ah} (h : uZ s N = 0) : gK (edS s N) = true /\ gK s = true /\ gM N = true /\ N.kd = 1 /\ iU N s.ch = true /\ iD s.q s.dn N.nu = false /\ Ic s (prt N s.ch) = false /\ s.q < 200 /\ yL s.n s.f (prt N s.ch).k (prt N s.ch).o = 0 := by
  unfold uZ at h
  by_cases h0 : (gK s && gM N) = true
  · rw [if_pos h0] at h
    simp only [Bool.and_eq_true] at h0
    unfold Zj at h
    by_cases h1 : N.kd ≠ 1
    · rw [if_pos h1] at h; cases h
    rw [if_neg h1] at h
    by_cases h2 : iU N s.ch = false
    · rw [if_pos h2] at h; cases h
    rw [if_neg h2] at h
    unfold xI at h
    by_cases h3 : iD s.q s.dn N.nu = true
    · rw [if_pos h3] at h; cases h
    rw [if_neg h3] at h
    by_cases h4 : Ic s (prt N s.ch) = true
    · rw [if_pos h4] at h; cases h
    rw [if_neg h4] at h
    by_cases h5 : 200 <= s.q
    · rw [if_pos h5] at h; cases h
    rw [if_neg h5] at h
    by_cases h6 : yL s.n s.f (prt N s.ch).k (prt N s.ch).o ≠ 0
    · rw [if_pos h6] at h; cases h
    have h6 : yL s.n s.f (prt N s.ch).k (prt N s.ch).o = 0 := by omega
    have hn : iD s.q s.dn N.nu = false := by simpa using h3
    refine ⟨?_, h0.1, h0.2, by omega, by simpa using h2, hn, by simpa using h4, by omega, h6⟩
    have hv := h0.1
    have hnu := WX h0.2
    have hq := NR hv
    unfold gK at hv ⊢
    simp only [Bool.and_eq_true] at hv ⊢
    refine ⟨⟨⟨?_, hv.1.1.2⟩, hv.1.2⟩, agP h6⟩
    exact decide_eq_true ⟨by show s.q + 1 <= 200; omega, aha hq.2.2 hn hnu.1 (by omega)⟩
  · rw [if_neg h0] at h; cases h
theorem ae5 {n : Nat} {f : Nat -> aN} (h : nV n f = true) : ∀ i, i < n -> (f i).Ok := fun i hi => EO ((of_decide_eq_true h).2 i hi).1
theorem XE {s : bE} (h : gK s = true) : s.Ok := by
  have hq := NR h
  unfold gK at h
  simp only [Bool.and_eq_true] at h
  exact ⟨by omega, by omega, ae5 h.2⟩
theorem lW {n : Nat} {N : Nat -> ah} (h : wZ n N = true) : n <= 200 /\ ∀ i, i < n -> Ab N i := of_decide_eq_true h
end Go.Proofs.YtcfechepbamhkaaGreat
set_option maxRecDepth 100000
set_option maxHeartbeats 4000000
namespace Go.Proofs.YtcfechepbamhkaaGreat
open Go.RowKit Go.Sea
open Nat renaming reduceAdd -> xA, reduceLT -> xL, reduceLeDiff -> xD, reduceEqDiff -> xE, reduceMul -> xM, reduceSub -> xS, reduceBEq -> xB
theorem VH : aK Tryz.prog 164 = true := by kernel_rfl
theorem akX : fE Tryz.prog 28 = true := by kernel_rfl
theorem aeV : inD Tryz.prog 167 = some .u64 := by kernel_rfl
theorem al6 : inD Tryz.prog 3 = some .i64 := by kernel_rfl
theorem afa : lG Tryz.prog 167 = some (false, 1) := by kernel_rfl
attribute [go_sem] VH akX aeV al6 afa
theorem oW {P : Program} {gs : List (Option Nat)} {b : Bool} {o : Oper} {os : List Oper} {s : AS} {K : AS -> Prop} (h1 : b = true -> kr P gs o os s K) (h2 : b = false -> fG P gs os (s.put o.dst .any) K) : Bt P gs b o os s K := Or.inr ⟨h1, h2⟩
def QO : ah := ⟨0, 0, 0, 0, 0, 0, 0, fun _ => DL⟩
theorem Am {n : Nat} {N : Nat -> ah} (h : ∀ i, i < n -> Ab N i) {i : Nat} : ∀ j, i < j -> j < n -> (N i).nu < (N j).nu
  | 0, hij, _ => absurd hij (Nat.not_lt_zero _)
  | j + 1, hij, hj => by
    have h1 := (h (j + 1) hj).2.2 (by omega)
    rw [Nat.add_sub_cancel] at h1
    by_cases e : i = j
    · subst e; exact h1
    · have := Am (i := i) h j (by omega) (by omega)
      omega
theorem aeA {n : Nat} {N : Nat -> ah} {x : Int} (h : ∀ i, i < n -> Ab N i) {m : Nat} (hc : x <= (N m).nu) : ∀ k, m <= k -> k < n -> x <= (N k).nu := fun k hk hn => by
  by_cases e : k = m
  · subst e; exact hc
  · have := Am (i := m) h k (by omega) hn
    omega
end Go.Proofs.YtcfechepbamhkaaGreat
set_option maxRecDepth 100000
set_option maxHeartbeats 4000000
namespace Go.Proofs.YtcfechepbamhkaaGreat
open Go.RowKit Go.Sea
open Nat renaming reduceAdd -> xA, reduceLT -> xL, reduceLeDiff -> xD, reduceEqDiff -> xE, reduceMul -> xM, reduceSub -> xS, reduceBEq -> xB
theorem zw : aK Tryz.prog 82 = true := by kernel_rfl
theorem ZI : aK Tryz.prog 83 = true := by kernel_rfl
theorem Yj : aK Tryz.prog 128 = true := by kernel_rfl
attribute [go_sem] zw ZI Yj
theorem FV {N : ah} {ch : Int} (h : iU N ch = true) : iY N ch = prt N ch := by unfold iY; rw [if_pos h]
end Go.Proofs.YtcfechepbamhkaaGreat
set_option maxRecDepth 100000
set_option maxHeartbeats 4000000
namespace Go.Proofs.YtcfechepbamhkaaGreat
open Go.RowKit Go.Sea
open Nat renaming reduceAdd -> xA, reduceLT -> xL, reduceLeDiff -> xD, reduceEqDiff -> xE, reduceMul -> xM, reduceSub -> xS, reduceBEq -> xB
theorem ajp : Gl Tryz.prog 22 = none := by kernel_rfl
theorem Na : aK Tryz.prog 15 = true := by kernel_rfl
theorem j3 : aK Tryz.prog 26 = true := by kernel_rfl
theorem Y7 : aK Tryz.prog 27 = true := by kernel_rfl
theorem Np : aK Tryz.prog 40 = true := by kernel_rfl
theorem zx : aK Tryz.prog 60 = true := by kernel_rfl
theorem ac8 : aK Tryz.prog 81 = true := by kernel_rfl
theorem Nh : aK Tryz.prog 89 = true := by kernel_rfl
theorem aai : aK Tryz.prog 90 = true := by kernel_rfl
theorem ai3 : wK Tryz.prog 22 = some true := by kernel_rfl
theorem Y5 : dF Tryz.prog 25 0 = some 0 := by kernel_rfl
theorem aav : dF Tryz.prog 25 1 = some 1 := by kernel_rfl
theorem ajg : qV Tryz.prog 22 = some (13, 136, 39) := by kernel_rfl
theorem ajD : lG Tryz.prog 22 = some (false, 1) := by kernel_rfl
theorem adN : lG Tryz.prog 23 = some (false, 1) := by kernel_rfl
theorem akV : lG Tryz.prog 25 = some (true, 2) := by kernel_rfl
attribute [go_sem] ajp Na j3 Y7 Np zx ac8 Nh ai3 Y5 aav ajg ajD adN akV
def acp : bE -> Nat -> IV
  | s, 0 => .g (.int .i64 s.ch)
  | s, 1 => .g (.int .i64 s.sc)
  | s, 2 => .g (.int .i64 s.ed)
  | s, 3 => .g (.int .i64 s.m.A)
  | s, 4 => .g (.int .i64 s.m.B)
  | s, 5 => .g (.int .i64 s.m.C)
  | s, 6 => .g (.int .i64 s.m.D)
  | s, 7 => .g (.int .i64 s.m.E)
  | s, 8 => .g (.int .i64 s.m.F)
  | s, 9 => .g (.int .i64 s.m.R)
  | s, 10 => .g (.int .i64 s.cap)
  | s, 11 => .lst 1 s.q (bC s.dn)
  | s, _ + 12 => .lst 9 s.n (dL s.f)
def ji (s : Nat -> bE) (i c : Nat) : IV := acp (s i) c
theorem bT (s : Nat -> bE) (i : Nat) : ji s i 0 = .g (.int .i64 (s i).ch) := rfl
theorem bX (s : Nat -> bE) (i : Nat) : ji s i 1 = .g (.int .i64 (s i).sc) := rfl
theorem bQ (s : Nat -> bE) (i : Nat) : ji s i 2 = .g (.int .i64 (s i).ed) := rfl
theorem bW (s : Nat -> bE) (i : Nat) : ji s i 3 = .g (.int .i64 (s i).m.A) := rfl
theorem bP (s : Nat -> bE) (i : Nat) : ji s i 4 = .g (.int .i64 (s i).m.B) := rfl
theorem bS (s : Nat -> bE) (i : Nat) : ji s i 5 = .g (.int .i64 (s i).m.C) := rfl
theorem bY (s : Nat -> bE) (i : Nat) : ji s i 6 = .g (.int .i64 (s i).m.D) := rfl
theorem bR (s : Nat -> bE) (i : Nat) : ji s i 7 = .g (.int .i64 (s i).m.E) := rfl
theorem bU (s : Nat -> bE) (i : Nat) : ji s i 8 = .g (.int .i64 (s i).m.F) := rfl
theorem bV (s : Nat -> bE) (i : Nat) : ji s i 9 = .g (.int .i64 (s i).m.R) := rfl
theorem bg (s : Nat -> bE) (i : Nat) : ji s i 10 = .g (.int .i64 (s i).cap) := rfl
theorem bB (s : Nat -> bE) (i : Nat) : ji s i 11 = .lst 1 (s i).q (bC (s i).dn) := rfl
theorem bn (s : Nat -> bE) (i : Nat) : ji s i 12 = .lst 9 (s i).n (dL (s i).f) := rfl
structure aj where
  k : Nat
  S : Nat -> bE
  n : Nat
  N : Nat -> ah
structure aj.Ok (f : aj) : Prop where
  k : f.k <= 9223372036854775807
  s : ∀ i, i < f.k -> (f.S i).Ok
  n : f.n <= 9223372036854775807
  nn : ∀ i, i < f.n -> (f.N i).Ok
def iw (f : aj) : PT := .agg [.lst 13 f.k (ji f.S), .lst 7 f.n (fB f.N)]
attribute [go_sem] iw
def oo : aj := ⟨0, fun _ => bH, 0, fun _ => QO⟩
theorem FP : oo.Ok := ⟨by simp [oo], fun i h => absurd h (Nat.not_lt_zero _), by simp [oo], fun i h => absurd h (Nat.not_lt_zero _)⟩
def FM (S : Nat -> bE) (i : Nat) : Prop := gK (S i) = true /\ (0 < i -> (S (i - 1)).ch < (S i).ch)
instance (S : Nat -> bE) (i : Nat) : Decidable (FM S i) := by unfold FM; infer_instance
def dR (f : aj) : Bool := decide (f.k <= 20 /\ ∀ i, i < f.k -> FM f.S i) && wZ f.n f.N
def Z8 (N : Nat -> ah) : Nat -> Int
  | 0 => 0
  | i + 1 => w64 (Z8 N i + Ua (N i) (N i).n)
def oD (f : aj) : Bool := decide (f.k <= 4 /\ f.n <= 12 /\ (∀ i, i < f.k -> (f.S i).n <= 12) /\ Z8 f.N f.n <= 100)
theorem aex {f : aj} (h : (f.k : Int) > 4 \/ (f.n : Int) > 12) : false = oD f := (decide_eq_false fun g => by omega).symm
theorem aev {f : aj} {i : Nat} (hi : (i : Int) < f.k) (h : ((f.S i).n : Int) > 12) : false = oD f := (decide_eq_false fun g => by have := g.2.2.1 i (by omega); omega).symm
theorem afX {f : aj} {i j : Nat} (h : (f.k : Int) <= 4 /\ (f.n : Int) <= 12) (hi : (f.k : Int) <= i) (g : ∀ j, j < i -> (f.S j).n <= 12) (hj : (f.n : Int) <= j) (hj2 : j <= f.n) : decide (Z8 f.N j <= 100) = oD f := by
  obtain rfl : j = f.n := by omega
  unfold oD
  rw [Bool.eq_iff_iff, decide_eq_true_eq, decide_eq_true_eq]
  exact ⟨fun q => ⟨by omega, by omega, fun i hi => g i (by omega), q⟩, fun q => q.2.2.2⟩
theorem Uv {f : aj} (h : (f.k : Int) > 20 \/ wZ f.n f.N = false) : false = dR f := by
  unfold dR
  rcases h with h | h
  · rw [decide_eq_false (fun g => by omega)]; rfl
  · rw [h, Bool.and_false]
theorem ad1 {f : aj} {i : Nat} (hi : (i : Int) < f.k) (h : gK (f.S i) = false \/ (i : Int) > 0 /\ (f.S i).ch <= (f.S (i - 1)).ch) : false = dR f := by
  unfold dR
  rw [decide_eq_false (fun g => ?_)]; rfl
  have g1 := g.2 i (by omega)
  rcases h with h | h
  · rw [g1.1] at h; cases h
  · have := g1.2 (by omega); omega
theorem aiE {f : aj} {i : Nat} (h : (f.k : Int) <= 20) (hn : wZ f.n f.N = true) (hi : (f.k : Int) <= i) (g : ∀ j, j < i -> FM f.S j) : true = dR f := by
  unfold dR; rw [hn, decide_eq_true ⟨by omega, fun j hj => g j (by omega)⟩]; rfl
theorem iE {f : aj} (h : dR f = true) : f.k <= 20 /\ (∀ i, i < f.k -> FM f.S i) /\ wZ f.n f.N = true := by
  unfold dR at h; simp only [Bool.and_eq_true, decide_eq_true_eq] at h; exact ⟨h.1.1, h.1.2, h.2⟩
theorem aff {s : bE} (h : gK s = true) : 1 <= s.ch /\ s.ch <= 1000 := by
  unfold gK at h; simp only [Bool.and_eq_true, decide_eq_true_eq] at h; omega
theorem aem {f : aj} {i : Nat} (hi : (i : Int) < f.k) (g : ∀ j, j < i -> FM f.S j) (h : gK (f.S i) = false \/ (f.S i).ch <= nU (fun j => (f.S j).ch) i) : false = dR f := by
  by_cases hv : gK (f.S i) = true
  · rcases h with h | h
    · rw [hv] at h; cases h
    · refine ad1 hi (Or.inr ?_)
      unfold nU at h
      split at h
      · have := aff hv; omega
      · exact ⟨by omega, h⟩
  · exact ad1 hi (Or.inl (by simpa using hv))
theorem Ub {S : Nat -> bE} {i : Nat} (h : gK (S i) = true /\ nU (fun j => (S j).ch) i < (S i).ch) : FM S i := ⟨h.1, fun h0 => by
  have := h.2; unfold nU at this; rw [if_neg (by omega)] at this; exact this⟩
theorem afF {f : aj} {i : Nat} (hi : (i : Int) < f.n) (h : (gM (f.N i) = false \/ (f.N i).nu <= nU (fun j => (f.N j).nu) i) \/ (f.N i).oc ≠ (f.N 0).oc) : false = dR f := by
  refine Uv (Or.inr ?_)
  by_cases hv : gM (f.N i) = true
  · refine (LX hi ?_).symm
    rcases h with (h | h) | h
    · exact Or.inl (Or.inl h)
    · right
      unfold nU at h
      split at h
      · have := WX hv; omega
      · exact ⟨by omega, h⟩
    · exact Or.inl (Or.inr h)
  · exact (LX hi (Or.inl (Or.inl (by simpa using hv)))).symm
theorem WS {N : Nat -> ah} {i : Nat} (h : (gM (N i) = true /\ nU (fun j => (N j).nu) i < (N i).nu) /\ (N i).oc = (N 0).oc) : Ab N i := ⟨h.1.1, h.2, fun h0 => by
  have := h.1.2; unfold nU at this; rw [if_neg (by omega)] at this; exact this⟩
theorem agJ {f : aj} {i j : Nat} (h : (f.k : Int) <= 20 /\ (f.n : Int) <= 200) (hi : (f.k : Int) <= i) (g : ∀ j, j < i -> FM f.S j) (hj : (f.n : Int) <= j) (g2 : ∀ i, i < j -> Ab f.N i) : true = dR f :=
  aiE h.1 (decide_eq_true ⟨by omega, fun i hi => g2 i (by omega)⟩) hi g
theorem afA {f : aj} (h : (f.k : Int) > 20 \/ (f.n : Int) > 200) : false = dR f := by
  rcases h with h | h
  · exact Uv (Or.inl h)
  · exact Uv (Or.inr (decide_eq_false fun g => by omega))
def jc (f : aj) (ch : Int) : Nat := jw (fun i => decide ((f.S i).ch = ch)) f.k
def OT (f : aj) (ch : Int) : Int := if jc f ch < f.k then (jc f ch : Int) else -1
theorem ak9 {f : aj} {ch : Int} {i : Nat} (hi : (i : Int) < f.k) (h : (f.S i).ch = ch) (g : ∀ j, j < i -> (f.S j).ch ≠ ch) : (i : Int) = OT f ch := by
  have e : jc f ch = i := l5 (b := fun i => decide ((f.S i).ch = ch)) (decide_eq_true h) (fun j hj => decide_eq_false (g j hj)) _ (by omega)
  unfold OT; rw [e, if_pos (by omega)]
theorem amj {f : aj} {ch : Int} {i : Nat} (hi : (f.k : Int) <= i) (g : ∀ j, j < i -> (f.S j).ch ≠ ch) : -1 = OT f ch := by
  have e : jc f ch = f.k := pY _ fun j hj => decide_eq_false (g j (by omega))
  unfold OT; rw [e, if_neg (by omega)]
def asB (f : aj) (ch : Int) : Bool := dR f && decide (1 <= ch /\ ch <= 1000)
def iR (f : aj) (ch : Int) : Int := if asB f ch = true then (if OT f ch < 0 then 4 else 0) else 1
def asV (f : aj) (ch : Int) : Int := if asB f ch = true then (if OT f ch < 0 then 0 else OT f ch) else 0
theorem ahN {f : aj} {ch : Int} (h : (dR f = false \/ ch < 1) \/ ch > 1000) : asV f ch = 0 /\ iR f ch = 1 := by
  have e : asB f ch = false := by
    unfold asB
    rcases h with (h | h) | h
    · rw [h]; rfl
    · rw [decide_eq_false (fun g => by omega), Bool.and_false]
    · rw [decide_eq_false (fun g => by omega), Bool.and_false]
  unfold asV iR; rw [e]; exact ⟨rfl, rfl⟩
theorem aaQ {f : aj} {ch : Int} (h : (dR f = true /\ 1 <= ch) /\ ch <= 1000) : asB f ch = true := by unfold asB; rw [h.1.1, decide_eq_true ⟨h.1.2, h.2⟩]; rfl
theorem al8 {f : aj} {ch : Int} (h : (dR f = true /\ 1 <= ch) /\ ch <= 1000) (h2 : OT f ch < 0) : asV f ch = 0 /\ iR f ch = 4 := by unfold asV iR; rw [if_pos (aaQ h), if_pos (aaQ h), if_pos h2, if_pos h2]; exact ⟨rfl, rfl⟩
theorem al1 {f : aj} {ch : Int} (h : (dR f = true /\ 1 <= ch) /\ ch <= 1000) (h2 : 0 <= OT f ch) : asV f ch = OT f ch /\ iR f ch = 0 := by unfold asV iR; rw [if_pos (aaQ h), if_pos (aaQ h), if_neg (by omega), if_neg (by omega)]; exact ⟨rfl, rfl⟩
def tX (s : bE) (N : ah) : Bool := mU N s.ch && !iD s.q s.dn N.nu
theorem agh (N : ah) (ho : N.Ok) : aA Tryz.prog 40 [.agg [.g (.int .i64 N.oc), .g (.int .i64 N.nu), .g (.int .i64 N.kd), .g (.int .i64 N.fr), .g (.int .i64 N.un), .g (.int .i64 N.ca), .lst 3 N.n (eO N.p)]] (.t (.one (.g (.int .i64 (Ua N N.n))))) := by
  have hnn := ho.n
  refine ak Tryz.func40 rfl (by rw [Tryz.ntmps40]; simp) ?_
  simp only [Tryz.ntmps40, zM, PT.tv, au, Nat.zero_add, Nat.reduceAdd]
  repeat' (first
 | ((with_reducible show AW _ _ _ _); first
 | (with_reducible first | refine aS (fun K hK => ?_) | refine aI ?_ | refine aX ?_ | refine aT ?_ | refine aC ?_ | refine aB ?_)
 | (first
 | (with_reducible first | refine aP 0 [0] ?_ | refine aP 1 [1] ?_ | refine aP 2 [1,3] ?_ | refine aP 3 [1,3,4] ?_ | refine aP 4 [1,3,4] ?_ | refine aP 5 [1,3,4] ?_ | refine aP 6 [1,3,4,5] ?_ | refine aP 7 [1,3,4,5] ?_ | refine aP 8 [1,3,4,5,6] ?_ | refine aP 9 [1,3,4,5,6] ?_)
 | ((with_reducible refine aR (c := Code.region 10 _ true) [1,3,4,5,6] ?_); (with_reducible refine aD ?_ ?_ ?_ ?_); (focus kernel_rfl); (focus kernel_rfl); (focus kernel_rfl))
 | (with_reducible refine aP 11 [3] ?_))
 | ((with_reducible show AW _ (Code.loop _) _ _); first
 | ((with_reducible refine aL (c := (Code.seq (Code.seq (Code.region 3 _ _) _) _)) (ι := Nat) [1] (fun i => [(3, iA .i64 (Ua N i)), (4, iA .i64 (i : Int))]) (fun i => []) (fun i => i <= N.n) (fun i => N.n - i) 0 ?lg3 ?l13 ?l23 ?li3 ?lr3); (case' lg3 => rintro i _); (case' li3 => try (omega)); (case' lr3 => rintro i hi KR hR3; simp only [bD, dD, hset, lk, if_true, if_false, xE, reduceIte, zN]))
 | ((with_reducible refine aL (c := (Code.seq (Code.seq (Code.region 8 _ _) _) _)) (ι := Nat) [1,4,5] (fun j => [(3, iA .i64 (afH (N.p i) (w64 (w64 (Ua N i + ((N.p i).q : Int)) + ((N.p i).k : Int))) j)), (6, iA .i64 (j : Int))]) (fun j => []) (fun j => j <= (N.p i).k) (fun j => (N.p i).k - j) 0 ?lg8 ?l18 ?l28 ?li8 ?lr8); (case' lg8 => rintro j _); (case' li8 => try (omega)); (case' lr8 => rintro j hj KR hR8; simp only [bD, dD, hset, lk, if_true, if_false, xE, reduceIte, zN]))))
 | (((with_reducible refine And.intro ?_ ?_)); focus (omega))
 | (with_reducible refine aJ ?_)
 | ((with_reducible show bL _ _ _ _ _ _); first
 | ((with_reducible refine aM ?_ ?_) <;> (intro hc; (try simp only [zB, zC, reduceCtorEq] at hc); ((try (have hoi := ho.p i (by omega); have hq1 := hoi.q; have hk1 := hoi.k; have hf1 := fun q h => (hoi.o q h).n; have hf2 := fun q h => (hoi.o q h).m)); (try (have e0 : i = N.n := (by omega); subst e0)); (try (have e0 : j = (N.p i).k := (by omega); subst e0))); (try (exfalso; contradiction)))))
 | ((with_reducible refine And.intro ?_ ?_); focus ((with_reducible show gV _ _ _ = true); kernel_rfl))
 | ((with_reducible refine hR3 _ (i + 1) ?_); (try clear hR3 KR))
 | ((with_reducible refine hR8 _ (j + 1) ?_); (try clear hR8 KR))
 | ((with_reducible refine Told.mk ?_); simp only [go_sem, reduceIte, reduceCtorEq, xA, xL, xD, xE, xM, xS, xB, bC] <;> ((((try simp (disch := omega) only [aY, Int.natCast_add, Int.cast_ofNat_Int, and_true, true_and, and_self]); (repeat' (first | omega | rfl | (with_reducible refine And.intro ?_ ?_))); done))))
 | ((fail_if_success (with_reducible show AW _ _ _ _)); simp (maxSteps := 2000000) only [go_sem, reduceIte, reduceCtorEq, xA, xL, xD, xE, xM, xS, xB, Tryz.f40, bC])
 | ((with_reducible refine hK _ ?_); clear hK K)
 | (with_reducible apply_assumption -exfalso only [*]))
theorem kM (f : aj) (hf : f.Ok) : aA Tryz.prog 11 [iw f] (.t (.one (.g (.bool (oD f))))) := by
  have hk := hf.k
  have hn := hf.n
  refine ak Tryz.func11 rfl (by rw [Tryz.ntmps11]; simp) ?_
  simp only [Tryz.ntmps11, zM, PT.tv, au, Nat.zero_add, Nat.reduceAdd]
  repeat' (first
 | ((with_reducible show AW _ _ _ _); first
 | (with_reducible first | refine aS (fun K hK => ?_) | refine aI ?_ | refine aX ?_ | refine aT ?_ | refine aC ?_ | refine aB ?_)
 | (first
 | (with_reducible first | refine aP 0 [0] ?_ | refine aP 1 [1] ?_ | refine aP 2 [] ?_ | refine aP 3 [1] ?_ | refine aP 4 [1,3] ?_ | refine aP 5 [1,3,4] ?_ | refine aP 6 [1,3,4] ?_ | refine aP 7 [1,3,4] ?_ | refine aP 8 [] ?_ | refine aP 9 [1,3] ?_ | refine aP 10 [1,3,5] ?_ | refine aP 11 [1,3,5] ?_ | refine aP 12 [1,3,5] ?_ | refine aP 13 [3] ?_))
 | ((with_reducible show AW _ (Code.loop _) _ _); first
 | ((with_reducible refine aL (c := (Code.seq (Code.seq (Code.region 5 _ _) _) _)) (ι := Nat) [1,3] (fun i => [(4, iA .i64 (i : Int))]) (fun i => []) (fun i => i <= f.k /\ (∀ j, j < i -> (f.S j).n <= 12)) (fun i => f.k - i) 0 ?lg5 ?l15 ?l25 ?li5 ?lr5); (case' lg5 => rintro i _); (case' li5 => try (exact ⟨Nat.zero_le _, fun i hi => absurd hi (Nat.not_lt_zero _)⟩)); (case' lr5 => rintro i ⟨hi, hai⟩ KR hR5; simp only [bD, dD, hset, lk, if_true, if_false, xE, reduceIte, zN, bT, bX, bQ, bW, bP, bS, bY, bR, bU, bV, bg, bB, bn]))
 | ((with_reducible refine aL (c := (Code.seq (Code.seq (Code.region 10 _ _) _) _)) (ι := Nat) [1] (fun j => [(3, iA .i64 (Z8 f.N j)), (5, iA .i64 (j : Int))]) (fun j => []) (fun j => j <= f.n) (fun j => f.n - j) 0 ?lg10 ?l110 ?l210 ?li10 ?lr10); (case' lg10 => rintro j _); (case' li10 => try (omega)); (case' lr10 => rintro j hj KR hR10; simp only [bD, dD, hset, lk, if_true, if_false, xE, reduceIte, zN, bT, bX, bQ, bW, bP, bS, bY, bR, bU, bV, bg, bB, bn]))))
 | ((first | (with_reducible refine And.intro ?_ ?_) | (with_reducible refine Need.mk ?_)); focus (first | exact True.intro | omega | (simp; done)))
 | (with_reducible refine aJ ?_)
 | ((with_reducible show bL _ _ _ _ _ _); first
 | ((with_reducible refine aM ?_ ?_) <;> (intro hc; (try simp only [zB, zC, reduceCtorEq] at hc); ((try (have hsn := (hf.s i (by omega)).n))); (try (exfalso; contradiction)))))
 | ((with_reducible show aW _ _ _ _ _ _ _ _ _ _); first
 | (refine aF (k := 40) Np (agh (f.N j) (hf.nn j (by omega))) ?_ ?_))
 | ((with_reducible refine hR5 _ (i + 1) ?_); (try clear hR5 KR))
 | ((with_reducible refine hR10 _ (j + 1) ?_); (try clear hR10 KR))
 | ((with_reducible refine Told.mk ?_); simp only [go_sem, reduceIte, reduceCtorEq, xA, xL, xD, xE, xM, xS, xB, bT, bX, bQ, bW, bP, bS, bY, bR, bU, bV, bg, bB, bn, bC] <;> ((((try simp (disch := omega) only [aY, Int.natCast_add, Int.cast_ofNat_Int, and_true, true_and, and_self]); (repeat' (first | omega | rfl | (with_reducible refine And.intro ?_ ?_) | ((exact all_succ (by assumption) (by omega))))); done))))
 | ((fail_if_success (with_reducible show AW _ _ _ _)); simp (maxSteps := 2000000) only [go_sem, reduceIte, reduceCtorEq, xA, xL, xD, xE, xM, xS, xB, Tryz.f11, bT, bX, bQ, bW, bP, bS, bY, bR, bU, bV, bg, bB, bn, bC])
 | ((with_reducible refine hK _ ?_); clear hK K)
 | (with_reducible apply_assumption -exfalso only [*]))
  all_goals (first | exact aex (by assumption) | exact aev (by assumption) (by assumption) | exact afX (by assumption) (by assumption) hai (by assumption) hj)
theorem uz (f : aj) (hf : f.Ok) : aA Tryz.prog 26 [iw f] (.t (.one (.g (.bool (dR f))))) := by
  have hk := hf.k
  have hn := hf.n
  refine ak Tryz.func26 rfl (by rw [Tryz.ntmps26]; simp) ?_
  simp only [Tryz.ntmps26, zM, PT.tv, au, Nat.zero_add, Nat.reduceAdd]
  repeat' (first
 | ((with_reducible show AW _ _ _ _); first
 | (with_reducible first | refine aS (fun K hK => ?_) | refine aI ?_ | refine aX ?_ | refine aT ?_ | refine aC ?_ | refine aB ?_)
 | (first
 | (with_reducible first | refine aP 0 [0] ?_ | refine aP 1 [1] ?_ | refine aP 2 [] ?_ | refine aP 3 [1] ?_ | refine aP 4 [1,3] ?_ | refine aP 5 [1,3,19,20,21] ?_ | refine aP 6 [1,3,19,20,21] ?_ | refine aP 7 [1,3,5,19,20,21] ?_ | refine aP 8 [] ?_ | refine aP 9 [1,5,19,20,21] ?_ | refine aP 10 [1,3,19,20,21] ?_ | refine aP 11 [1] ?_ | refine aP 12 [1,3] ?_ | refine aP 13 [1,3,38,39,40] ?_ | refine aP 14 [1,3,38,39,40] ?_)
 | ((with_reducible refine aR (c := Code.region 15 _ true) [1,3,7,38,39,40] ?_); (with_reducible refine aD ?_ ?_ ?_ ?_); (focus kernel_rfl); (focus kernel_rfl); (focus kernel_rfl))
 | (with_reducible first | refine aP 16 [] ?_ | refine aP 17 [1,7,38,39,40] ?_ | refine aP 18 [1,3,38,39,40] ?_ | refine aP 19 [] ?_))
 | ((with_reducible show AW _ (Code.loop _) _ _); first
 | ((with_reducible refine aL (c := (Code.seq (Code.region 5 _ _) _)) (ι := Nat) [1,19,20] (fun i => [(3, iA .i64 (nU (fun j => (f.S j).ch) i)), (21, iA .i64 (i : Int))]) (fun i => []) (fun i => i <= f.k /\ (∀ j, j < i -> FM f.S j)) (fun i => f.k - i) 0 ?lg5 ?l15 ?l25 ?li5 ?lr5); (case' lg5 => rintro i _); (case' li5 => try (exact ⟨Nat.zero_le _, fun i hi => absurd hi (Nat.not_lt_zero _)⟩)); (case' lr5 => rintro i ⟨hi, hai⟩ KR hR5; simp only [bD, dD, hset, lk, if_true, if_false, xE, reduceIte, zN, bT, bX, bQ, bW, bP, bS, bY, bR, bU, bV, bg, bB, bn, oZ]))
 | ((with_reducible refine aL (c := (Code.seq (Code.region 13 _ _) _)) (ι := Nat) [1,38,39] (fun j => [(3, iA .i64 (nU (fun i => (f.N i).nu) j)), (40, iA .i64 (j : Int))]) (fun j => []) (fun j => j <= f.n /\ (∀ i, i < j -> Ab f.N i)) (fun j => f.n - j) 0 ?lg13 ?l113 ?l213 ?li13 ?lr13); (case' lg13 => rintro j _); (case' li13 => try (exact ⟨Nat.zero_le _, fun i hi => absurd hi (Nat.not_lt_zero _)⟩)); (case' lr13 => rintro j ⟨hj, haj⟩ KR hR13; simp only [bD, dD, hset, lk, if_true, if_false, xE, reduceIte, zN, bT, bX, bQ, bW, bP, bS, bY, bR, bU, bV, bg, bB, bn, oZ]))))
 | ((first | (with_reducible refine And.intro ?_ ?_) | (with_reducible refine Need.mk ?_)); focus (first | exact True.intro | omega | (intros; (repeat' (first | omega | (with_reducible refine And.intro ?_ ?_))); done) | (simp; done)))
 | (with_reducible refine aJ ?_)
 | ((with_reducible show bL _ _ _ _ _ _); first
 | ((with_reducible refine aM ?_ ?_) <;> (intro hc; (try simp only [zB, zC, reduceCtorEq] at hc); (try (exfalso; contradiction)))))
 | ((with_reducible refine And.intro ?_ ?_); focus ((with_reducible show gV _ _ _ = true); kernel_rfl))
 | ((with_reducible show aW _ _ _ _ _ _ _ _ _ _); first
 | (refine aF (k := 48) jY (kR (f.S i) (hf.s i (by omega))) ?_ ?_))
 | ((with_reducible show eT _ _ _ _ _ _ _ _ _ _ _ _ _); first
 | (refine dh (k := 18) jm (pO (f.N j) (hf.nn j (by omega))) ?_ ?_))
 | ((with_reducible refine hR5 _ (i + 1) ?_); (try clear hR5 KR))
 | ((with_reducible refine hR13 _ (j + 1) ?_); (try clear hR13 KR))
 | ((with_reducible refine Told.mk ?_); simp only [go_sem, reduceIte, reduceCtorEq, xA, xL, xD, xE, xM, xS, xB, bT, bX, bQ, bW, bP, bS, bY, bR, bU, bV, bg, bB, bn, bC, oZ] <;> (first | (((try simp (disch := omega) only [aY, Int.natCast_add, Int.cast_ofNat_Int, and_true, true_and, and_self]); (repeat' (first | omega | rfl | (with_reducible refine And.intro ?_ ?_) | ((exact all_succ (by assumption) (Ub (by assumption)))))); done)) | (((try simp (disch := omega) only [aY, Int.natCast_add, Int.cast_ofNat_Int, and_true, true_and, and_self]); (repeat' (first | omega | (with_reducible refine And.intro ?_ ?_) | ((exact all_succ (by assumption) (WS (by assumption)))))); done))))
 | ((fail_if_success (with_reducible show AW _ _ _ _)); simp (maxSteps := 2000000) only [go_sem, reduceIte, reduceCtorEq, xA, xL, xD, xE, xM, xS, xB, Tryz.f26, bT, bX, bQ, bW, bP, bS, bY, bR, bU, bV, bg, bB, bn, bC, oZ])
 | ((with_reducible refine hK _ ?_); clear hK K)
 | (with_reducible apply_assumption -exfalso only [*]))
  all_goals (first | exact afA (by assumption) | exact aem (by assumption) hai hc | exact afF (by assumption) hc | exact agJ (by assumption) (by assumption) hai (by assumption) haj)
theorem oF (f : aj) (hf : f.Ok) (ch : Int) : aA Tryz.prog 45 [iw f, .one (.g (.int .i64 ch))] (.tup [.one (.g (.int .i64 (asV f ch))), .one (.g (.int .i64 (iR f ch)))]) := by
  have hk := hf.k
  have hn := hf.n
  refine ak Tryz.func45 rfl (by rw [Tryz.ntmps45]; simp) ?_
  simp only [Tryz.ntmps45, zM, PT.tv, au, Nat.zero_add, Nat.reduceAdd]
  repeat' (first
 | ((with_reducible show AW _ _ _ _); first
 | (with_reducible first | refine aS (fun K hK => ?_) | refine aI ?_ | refine aX ?_ | refine aT ?_ | refine aC ?_ | refine aB ?_)
 | (first
 | (with_reducible first | refine aP (ops := #[⟨some 2, _, _, _, _, _⟩, _, _, _]) 0 [0,1] ?_ | refine aP (ops := #[⟨some 4, _, _, _, _, _⟩]) 0 [0,1] ?_ | refine aP (ops := #[⟨some 2, _, _, _, _, _⟩, _]) 0 [0,1] ?_ | refine aP (ops := #[⟨some 7, _, _, _, _, _⟩, _, _, _, _, _, _, _, _, _, _]) 1 [2,3] ?_ | refine aP (ops := #[⟨some 6, _, _, _, _, _⟩, _, _]) 1 [0,1] ?_ | refine aP (ops := #[⟨some 4, _, _, _, _, _⟩, _, _, _, _]) 1 [1,2] ?_ | refine aP (ops := #[⟨some 4, _, _, _, _, _⟩, _]) 2 [] ?_ | refine aP (ops := #[⟨some 9, _, _, _, _, _⟩]) 2 [0,1,7,8] ?_ | refine aP (ops := #[⟨some 18, _, _, _, _, _⟩, _, _, _, _]) 3 [2,3] ?_ | refine aP (ops := #[⟨some 10, _, _, _, _, _⟩, _]) 3 [0,1,7,8] ?_ | refine aP (ops := #[⟨some 22, _, _, _, _, _⟩, _]) 4 [6] ?_ | refine aP (ops := #[⟨some 11, _, _, _, _, _⟩, _, _, _, _, _]) 4 [0,1,5,7,8] ?_ | refine aP (ops := #[⟨some 4, _, _, _, _, _⟩, _]) 5 [] ?_ | refine aP (ops := #[⟨some 17, _, _, _, _, _⟩, _]) 5 [5] ?_ | refine aP (ops := #[⟨some 24, _, _, _, _, _⟩, _, _]) 6 [6] ?_ | refine aP (ops := #[⟨some 18, _, _, _, _, _⟩, _]) 6 [0,1,7,8] ?_ | refine aP 7 [] ?_))
 | ((with_reducible show AW _ (Code.loop _) _ _); first
 | ((with_reducible refine aL (c := (Code.seq (Code.region 2 _ _) _)) (ι := Nat) [0,1,7] (fun i => [(8, iA .i64 (i : Int))]) (fun i => []) (fun i => i <= f.k /\ (∀ j, j < i -> (f.S j).ch ≠ ch)) (fun i => f.k - i) 0 ?lg2 ?l12 ?l22 ?li2 ?lr2); (case' lg2 => rintro i _); (case' li2 => try (exact ⟨Nat.zero_le _, fun i hi => absurd hi (Nat.not_lt_zero _)⟩)); (case' lr2 => rintro i ⟨hi, hai⟩ KR hR2; simp only [bD, dD, hset, lk, if_true, if_false, xE, reduceIte, zN, bT, bX, bQ, bW, bP, bS, bY, bR, bU, bV, bg, bB, bn]))))
 | ((first | (with_reducible refine And.intro ?_ ?_) | (with_reducible refine Need.mk ?_)); focus (first | exact True.intro | omega | (simp; done)))
 | (with_reducible refine aJ ?_)
 | ((with_reducible show bL _ _ _ _ _ _); first
 | ((with_reducible refine aM ?_ ?_) <;> (intro hc; (try simp only [zB, zC, reduceCtorEq] at hc); (try (exfalso; contradiction)))))
 | ((with_reducible show aW _ _ _ _ _ _ _ _ _ _); first
 | (refine aF (k := 26) j3 (uz f hf) ?_ ?_)
 | ((refine dw (k := 89) Tryz.func89 rfl Nh (by rw [Tryz.ntmps89]; simp) ?_ ?_ (fun K hK => ?_)); (focus (exact True.intro)); (focus ((simp [jo]; done))); simp only [Tryz.ntmps89, List.map_cons, List.map_nil, List.nil_append, List.cons_append, List.append_nil, LV.tv, au, Nat.zero_add, Nat.reduceAdd])
 | ((refine nO (k := 90) Tryz.func90 rfl aai (by rw [Tryz.ntmps90]; simp) ?_ ?_ (fun K hK => ?_)); (focus (exact True.intro)); (focus ((simp [jo]; done))); simp only [Tryz.ntmps90, List.map_cons, List.map_nil, List.nil_append, List.cons_append, List.append_nil, LV.tv, au, Nat.zero_add, Nat.reduceAdd]))
 | ((with_reducible refine hR2 _ (i + 1) ?_); (try clear hR2 KR))
 | ((with_reducible refine Told.mk ?_); simp only [go_sem, reduceIte, reduceCtorEq, xA, xL, xD, xE, xM, xS, xB, bT, bX, bQ, bW, bP, bS, bY, bR, bU, bV, bg, bB, bn, bC] <;> ((((try simp (disch := omega) only [aY, Int.natCast_add, Int.cast_ofNat_Int, and_true, true_and, and_self]); (repeat' (first | omega | (with_reducible refine And.intro ?_ ?_) | (exact all_succ (by assumption) (by assumption)))); done))))
 | ((fail_if_success (with_reducible show AW _ _ _ _)); simp (maxSteps := 2000000) only [go_sem, reduceIte, reduceCtorEq, xA, xL, xD, xE, xM, xS, xB, Tryz.f45, Tryz.f89, Tryz.f90, bT, bX, bQ, bW, bP, bS, bY, bR, bU, bV, bg, bB, bn, bC])
 | ((with_reducible refine hK _ ?_); clear hK K)
 | (with_reducible apply_assumption -exfalso only [*]))
  all_goals (try rw [ak9 (by assumption) (by assumption) hai] at *)
  all_goals (first | (have e1 := amj (f := f) (by assumption) hai; have e := al8 (by assumption) (show OT f ch < 0 by rw [<- e1]; decide); rw [e.1, e.2]; (repeat' (first | exact rfl | (with_reducible refine And.intro ?_ ?_))); done) | (have e := ahN (by assumption); rw [e.1, e.2]; (repeat' (first | exact rfl | (with_reducible refine And.intro ?_ ?_))); done) | (have e := al1 (by assumption) (by assumption); rw [e.1, e.2]; (repeat' (first | exact rfl | (with_reducible refine And.intro ?_ ?_))); done))
theorem E5 (N : ah) (ch : Int) (ho : N.Ok) : aA Tryz.prog 60 [.agg [.g (.int .i64 N.oc), .g (.int .i64 N.nu), .g (.int .i64 N.kd), .g (.int .i64 N.fr), .g (.int .i64 N.un), .g (.int .i64 N.ca), .lst 3 N.n (eO N.p)], .one (.g (.int .i64 ch))] (.tup [.agg [.g (.int .i64 (iY N ch).ch), .lst 1 (iY N ch).q (bC (iY N ch).a), .lst 16 (iY N ch).k (iC (iY N ch).o)], .one (.g (.bool (iU N ch)))]) := by
  have hnn := ho.n
  refine ak Tryz.func60 rfl (by rw [Tryz.ntmps60]; simp) ?_
  simp only [Tryz.ntmps60, zM, PT.tv, au, Nat.zero_add, Nat.reduceAdd]
  repeat' (first
 | ((with_reducible show AW _ _ _ _); first
 | (with_reducible first | refine aS (fun K hK => ?_) | refine aI ?_ | refine aX ?_ | refine aT ?_ | refine aC ?_ | refine aB ?_)
 | (first
 | (with_reducible first | refine aP 0 [0,1] ?_ | refine aP 1 [1,2,4] ?_ | refine aP 2 [1,4,9,10,11] ?_ | refine aP 3 [1,4,9,10,11] ?_ | refine aP 4 [1,4,7,9,10,11] ?_ | refine aP 5 [4,7] ?_ | refine aP 6 [1,4,9,10,11] ?_ | refine aP 7 [4] ?_))
 | ((with_reducible show AW _ (Code.loop _) _ _); first
 | ((with_reducible refine aL (c := (Code.seq (Code.region 2 _ _) _)) (ι := Nat) [1,4,9,10] (fun i => [(11, iA .i64 (i : Int))]) (fun i => []) (fun i => i <= N.n /\ (∀ j, j < i -> (N.p j).ch ≠ ch)) (fun i => N.n - i) 0 ?lg2 ?l12 ?l22 ?li2 ?lr2); (case' lg2 => rintro i _); (case' li2 => try (exact ⟨Nat.zero_le _, fun i hi => absurd hi (Nat.not_lt_zero _)⟩)); (case' lr2 => rintro i ⟨hi, hai⟩ KR hR2; simp only [bD, dD, hset, lk, if_true, if_false, xE, reduceIte, zN]))))
 | (((with_reducible refine And.intro ?_ ?_)); focus (omega))
 | (with_reducible refine aJ ?_)
 | ((with_reducible show bL _ _ _ _ _ _); first
 | ((with_reducible refine aM ?_ ?_) <;> (intro hc; (try simp only [zB, zC, reduceCtorEq] at hc); (try (exfalso; contradiction)))))
 | ((with_reducible refine hR2 _ (i + 1) ?_); (try clear hR2 KR))
 | ((with_reducible refine Told.mk ?_); simp only [go_sem, reduceIte, reduceCtorEq, xA, xL, xD, xE, xM, xS, xB, bC] <;> ((((try simp (disch := omega) only [aY, Int.natCast_add, Int.cast_ofNat_Int, and_true, true_and, and_self]); (repeat' (first | omega | (with_reducible refine And.intro ?_ ?_) | (exact all_succ (by assumption) (by assumption)))); done))))
 | ((fail_if_success (with_reducible show AW _ _ _ _)); simp (maxSteps := 2000000) only [go_sem, reduceIte, reduceCtorEq, xA, xL, xD, xE, xM, xS, xB, Tryz.f60, bC])
 | ((with_reducible refine hK _ ?_); clear hK K)
 | (with_reducible apply_assumption -exfalso only [*]))
  all_goals (first | (have e := adX (N := N) (by assumption) (by assumption) hai; have e2 : iU N ch = true := decide_eq_true (by rw [e]; omega); have e3 : iY N ch = N.p i := (FV e2).trans (by unfold prt; rw [e]); rw [e2, e3]; (repeat' (first | exact rfl | (with_reducible refine And.intro ?_ ?_) | (intro i q hi hq; exact IV.bG _) | (intro i q hi hq; exact rfl))); done) | (have e := adI (N := N) (by assumption) hai; have e2 : iU N ch = false := decide_eq_false (by rw [e]; omega); have e3 : iY N ch = DL := (by unfold iY; rw [e2]; rfl); rw [e2, e3]; (repeat' (first | exact rfl | (with_reducible refine And.intro ?_ ?_))); done))
theorem BJ (N : ah) (ch : Int) (ho : N.Ok) : aA Tryz.prog 70 [.agg [.g (.int .i64 N.oc), .g (.int .i64 N.nu), .g (.int .i64 N.kd), .g (.int .i64 N.fr), .g (.int .i64 N.un), .g (.int .i64 N.ca), .lst 3 N.n (eO N.p)], .one (.g (.int .i64 ch))] (.t (.one (.g (.bool (mU N ch))))) := by
  refine ak Tryz.func70 rfl (by rw [Tryz.ntmps70]; simp) ?_
  simp only [Tryz.ntmps70, zM, PT.tv, au, Nat.zero_add, Nat.reduceAdd]
  repeat' (first
 | ((with_reducible show AW _ _ _ _); first
 | (with_reducible first | refine aS (fun K hK => ?_) | refine aT ?_)
 | (first
 | (with_reducible first | refine aP 0 [0,1] ?_ | refine aP 1 [1,2] ?_ | refine aP 2 [2,6] ?_)))
 | (((with_reducible refine Need.mk ?_)); focus (exact True.intro))
 | (with_reducible refine aJ ?_)
 | ((with_reducible show aW _ _ _ _ _ _ _ _ _ _); first
 | (refine aF (k := 60) zx (E5 N ch ho) ?_ ?_))
 | ((fail_if_success (with_reducible show AW _ _ _ _)); simp (maxSteps := 2000000) only [go_sem, reduceIte, reduceCtorEq, xA, xL, xD, xE, xM, xS, xB, Tryz.f70, bC])
 | ((with_reducible refine hK _ ?_); clear hK K))
  all_goals (unfold mU; cases iU N ch <;> simp <;> rw [Bool.eq_iff_iff] <;> simp)
end Go.Proofs.YtcfechepbamhkaaGreat
namespace Go.Proofs.YtcfechepbamhkaaGreat
open Go.ChangeShapes Go.WideShapes Go.ChangeAt Go.RowKit Go.Joins Go.Deep Go.Sea
theorem VP {w : World} {Z : Nat -> Prop} {v u : Value} (h : Rd w Z v (.g u)) : v = u := by cases h; rfl
abbrev Zw (w : World) : Nat -> Prop := fun b => b < w.heap.size
section
variable {H : Type} {enc : TypeId × Value -> H} {w : World} {base : Nat} {spare : Nat -> Bool} {held : Bool} {r : Reach} {b0 : Nat} {v : Value} {d : DataW H} {p : List MemPlace}
theorem Ro {a : Addr} {j : Nat} {x : Value} (h : w.cell? (a.add j) = some x) (h0 : j = 0 \/ a.spot = none) : a.spot = none := by
  rcases h0 with rfl | h0
  · obtain ⟨ab, ao, sub⟩ := a
    cases sub with
    | none => rfl
    | some y =>
      exfalso
      simp [Addr.add, World.cell?] at h
      split at h <;> simp at h
  · exact h0
theorem kG {t e : TypeId} (ht : Tryz.prog.underlying t = some (.slice e)) {E : Nat} (hE : Tryz.prog.cellsOf e = E) (h0 : 0 < E) {α : Type} [Inhabited α] (F : α -> Nat -> IV)
    (el : ∀ (n : Nat) (cs : List Value) (y : DataW H × List MemPlace), DataW.trod enc Tryz.prog w base spare held n e cs = some y -> cs.length = E -> ∃ z : α, ∀ (o : Nat) v, cs[o]? = some v -> Rd w (Zw w) v (F z o))
    {c : Value} {n : Nat} {y : DataW H × List MemPlace} (h : DataW.trod enc Tryz.prog w base spare held n t [c] = some y) : ∃ (k : Nat) (Z : Nat -> α), k <= 9223372036854775807 /\ Rd w (Zw w) c (.lst E k fun i o => F (Z i) o) := by
  rcases open_slice ht h with ⟨e, _⟩ | ⟨a, len, cap, m, n', D, Pl, e, hb, hl, hm, hmm, _, hx⟩
  · simp at e; subst e
    exact ⟨0, fun _ => default, Nat.zero_le _, .nil _ _ _ _⟩
  · simp at e
    subst e
    rw [hE] at hx
    have hlm : len <= m := by rw [hmm]; split <;> omega
    have each : ∀ i, i < len -> ∃ q : α × (Nat -> Value), ∀ o, o < E -> w.cell? (a.add (i * E + o)) = some (q.2 o) /\ Rd w (Zw w) (q.2 o) (F q.1 o) := fun i hi => by
      obtain ⟨cs', h1, h2⟩ := hx i (by omega)
      obtain ⟨_, hlen, hcell⟩ := World.cells?_some h1
      obtain ⟨z, hz⟩ := el _ _ _ h2 hlen
      refine ⟨(z, fun o => cs'.getD o undef), fun o ho => ?_⟩
      have h3 := hcell o ho
      rw [add_add] at h3
      have h4 : cs'[o]? = some (cs'.getD o undef) := by simp [List.getD, show o < cs'.length by omega]
      rw [h4] at h3
      exact ⟨h3, hz o _ h4⟩
    obtain ⟨Q, hQ⟩ := choose_lt each
    refine ⟨len, fun i => (Q i).1, by unfold maxLen at hm; omega, ?_⟩
    rcases Nat.eq_zero_or_pos len with hz | hpos
    · subst hz; exact .nil _ _ _ _
    · have hs := Ro (hQ 0 hpos 0 h0).1 (Or.inl (by omega))
      obtain ⟨ab, ao, sub⟩ := a
      simp only at hs
      subst hs
      have hlt : ab < w.heap.size := by
        have := World.block_lt_of_cell? w _ (hQ 0 hpos 0 h0).1
        rwa [Addr.add_lit] at this
      refine .lst ab ao len cap E _ (fun i o => (Q i).2 o) hlt hl hm (fun i o hi' ho => ?_) fun i o hi' ho => (hQ i hi' o ho).2
      have := (hQ i hi' o ho).1
      rw [Addr.add_lit] at this
      rw [Nat.add_assoc]; exact this
theorem cells3 : Tryz.prog.cellsOf 3 = 1 := by kernel_rfl
theorem XY {n : Nat} {cs : List Value} {y : DataW H × List MemPlace} (h : DataW.trod enc Tryz.prog w base spare held n 3 cs = some y) (hl : cs.length = 1) : ∃ z : Int, ∀ (o : Nat) v, cs[o]? = some v -> Rd w (Zw w) v (.g (.int .i64 z)) := by
  obtain ⟨z, e, _, _⟩ := DataW.trod_int Tryz.underlying3 h
  subst e
  refine ⟨z, fun o v hv => ?_⟩
  rcases o with _ | o
  · simp at hv; subst hv; exact .g _ rfl
  · simp at hv
set_option maxRecDepth 100000 in
theorem open_ints' {c : Value} {n : Nat} {y : DataW H × List MemPlace} (h : DataW.trod enc Tryz.prog w base spare held n 36 [c] = some y) : ∃ (k : Nat) (s : Nat -> Int), k <= 9223372036854775807 /\ Rd w (Zw w) c (.lst 1 k (bC s)) :=
  kG Tryz.underlying36 cells3 (by omega) (fun z _ => .g (.int .i64 z)) (fun n cs y h hl => XY h hl) h
set_option maxRecDepth 100000 in
theorem LU (hv : Value.okWide Tryz.prog w r b0 3 v) (h : DataW.Trod enc Tryz.prog w base spare held 3 v d p) : ∃ x : Int, v = .int .i64 x /\ (Lit.int .i64 x).wf = true := by
  obtain ⟨x, hx, _, _, wx⟩ := open_int Tryz.underlying3 hv h
  exact ⟨x, hx, wx⟩
theorem Mj {cs : List Value} {k : Nat} {v c : Value} (h : (cs.drop k).take 1 = [c]) (hv : cs[k]? = some v) : v = c := by
  have h1 : ((cs.drop k).take 1)[0]? = some c := by rw [h]; rfl
  rw [List.getElem?_take, if_pos (by omega), List.getElem?_drop, Nat.add_zero, hv] at h1
  exact Option.some.inj h1
theorem fO {cs : List Value} {k m o : Nat} {v : Value} (ho : o < m) (hv : cs[k + o]? = some v) : ((cs.drop k).take m)[o]? = some v := by
  rw [List.getElem?_take, if_pos ho, List.getElem?_drop]; exact hv
theorem zi {t : TypeId} {fs : Array Field} {n : Nat} {cs : List Value} {y : DataW H × List MemPlace} (ht : Tryz.prog.underlying t = some (.struct fs)) (h : DataW.trod enc Tryz.prog w base spare held n t cs = some y) (i : Nat) {f : Field} (hf : fs[i]? = some f) {T k m : Nat} (hT : f.type = T) (hk : f.offset = k) (hm : Tryz.prog.cellsOf T = m) :
    cs.length = Tryz.prog.cellsOf t /\ ∃ n' y', DataW.trod enc Tryz.prog w base spare held n' T ((cs.drop k).take m) = some y' := by
  obtain ⟨xs, n', _, _, hl, hlen, hx⟩ := DataW.trod_struct ht h
  have h1 := hx i f hf
  rw [hT, hk, hm] at h1
  have hi : i < xs.length := by
    rw [hlen]
    have := (Array.getElem?_eq_some_iff.1 hf)
    exact this.1
  rw [List.getElem?_eq_getElem hi] at h1
  exact ⟨hl, n', _, h1⟩
theorem dJ {t : TypeId} {fs : Array Field} {n : Nat} {cs : List Value} {y : DataW H × List MemPlace} (ht : Tryz.prog.underlying t = some (.struct fs)) (h : DataW.trod enc Tryz.prog w base spare held n t cs = some y) (i : Nat) {f : Field} (hf : fs[i]? = some f) (hT : f.type = 3) {k : Nat} (hk : f.offset = k) :
    ∃ a : Int, ∀ v, cs[k]? = some v -> Rd w (Zw w) v (.g (.int .i64 a)) := by
  obtain ⟨_, n', y', g⟩ := zi ht h i hf hT hk cells3
  obtain ⟨a, e, _, _⟩ := DataW.trod_int Tryz.underlying3 g
  exact ⟨a, fun v hv => by rw [Mj e hv]; exact .g _ rfl⟩
theorem nY {t e : TypeId} (ht : Tryz.prog.underlying t = some (.slice e)) {n : Nat} {cs : List Value} {k : Nat} {y : DataW H × List MemPlace} (h : DataW.trod enc Tryz.prog w base spare held n t ((cs.drop k).take 1) = some y) : ∃ c, DataW.trod enc Tryz.prog w base spare held n t [c] = some y /\ ∀ v, cs[k]? = some v -> v = c := by
  obtain ⟨a, l, c, e⟩ := slice_form ht h
  exact ⟨_, by rw [e] at h; exact h, fun v hv => Mj e hv⟩
abbrev Nc : Type := {f : aN // f.Ok}
abbrev OpK : Type := {o : eG // o.f.Ok}
abbrev Ml : Type := {p : d9 // p.Ok}
abbrev abw : Type := {p : ah // p.Ok}
abbrev adf : Type := {p : bE // p.Ok}
instance : Inhabited adf := ⟨⟨bH, by simp [bH], by simp [bH], fun i h => absurd h (Nat.not_lt_zero i)⟩⟩
instance : Inhabited Nc := ⟨⟨dM, o7⟩⟩
instance : Inhabited OpK := ⟨⟨RZ 0 0, o7⟩⟩
instance : Inhabited Ml := ⟨⟨⟨0, 0, fun _ => 0, 0, fun _ => RZ 0 0⟩, Nat.zero_le _, Nat.zero_le _, fun _ h => absurd h (Nat.not_lt_zero _)⟩⟩
instance : Inhabited abw := ⟨⟨⟨0, 0, 0, 0, 0, 0, 0, fun _ => ⟨0, 0, fun _ => 0, 0, fun _ => RZ 0 0⟩⟩, Nat.zero_le _, fun _ h => absurd h (Nat.not_lt_zero _)⟩⟩
theorem NU : Tryz.prog.cellsOf 36 = 1 := by kernel_rfl
theorem ZW : Tryz.prog.cellsOf 61 = 1 := by kernel_rfl
theorem aan : Tryz.prog.cellsOf 62 = 1 := by kernel_rfl
theorem aaL : Tryz.prog.cellsOf 37 = 1 := by kernel_rfl
theorem aax : Tryz.prog.cellsOf 56 = 1 := by kernel_rfl
theorem abG : Tryz.prog.cellsOf 26 = 1 := by kernel_rfl
theorem qo : Tryz.prog.cellsOf 60 = 2 := by kernel_rfl
set_option maxRecDepth 100000 in
theorem o9 {n : Nat} {cs : List Value} {y : DataW H × List MemPlace} (h : DataW.trod enc Tryz.prog w base spare held n 60 cs = some y) : ∃ z : Nat -> Int, ∀ (o : Nat) v, cs[o]? = some v -> Rd w (Zw w) v (.g (.int .i64 (z o))) := by
  have hlen : cs.length = 2 := by rw [(zi Tryz.underlying60 h 0 rfl rfl rfl rfl).1, qo]
  obtain ⟨a, ca⟩ := dJ Tryz.underlying60 h 0 rfl rfl rfl (k := 0)
  obtain ⟨b, cb⟩ := dJ Tryz.underlying60 h 1 rfl rfl rfl (k := 1)
  refine ⟨fun o => match o with | 0 => a | _ => b, fun o v hv => ?_⟩
  match o, hv with
  | 0, hv => exact ca _ hv
  | 1, hv => exact cb _ hv
  | o + 2, hv => rw [List.getElem?_eq_none (by omega)] at hv; cases hv
theorem Hy : Tryz.prog.cellsOf 174 = 6 := by kernel_rfl
set_option maxRecDepth 100000 in
theorem Q0 {n : Nat} {cs : List Value} {y : DataW H × List MemPlace} (h : DataW.trod enc Tryz.prog w base spare held n 174 cs = some y) : ∃ z : Nat -> Int, ∀ (o : Nat) v, cs[o]? = some v -> Rd w (Zw w) v (.g (.int .i64 (z o))) := by
  have hlen : cs.length = 6 := by rw [(zi Tryz.underlying174 h 0 rfl rfl rfl rfl).1, Hy]
  obtain ⟨_, n0, y0, g0⟩ := zi Tryz.underlying174 h 0 rfl rfl rfl (k := 0) (T := 60) qo
  obtain ⟨p, r0⟩ := o9 g0
  obtain ⟨_, n1, y1, g1⟩ := zi Tryz.underlying174 h 1 rfl rfl rfl (k := 2) (T := 60) qo
  obtain ⟨q, r1⟩ := o9 g1
  obtain ⟨c, cc⟩ := dJ Tryz.underlying174 h 2 rfl rfl rfl (k := 4)
  obtain ⟨d, cd⟩ := dJ Tryz.underlying174 h 3 rfl rfl rfl (k := 5)
  refine ⟨fun o => match o with | 0 => p 0 | 1 => p 1 | 2 => q 0 | 3 => q 1 | 4 => c | _ => d, fun o v hv => ?_⟩
  match o, hv with
  | 0, hv => exact r0 0 _ (fO (by omega) hv)
  | 1, hv => exact r0 1 _ (fO (by omega) hv)
  | 2, hv => exact r1 0 _ (fO (by omega) hv)
  | 3, hv => exact r1 1 _ (fO (by omega) hv)
  | 4, hv => exact cc _ hv
  | 5, hv => exact cd _ hv
  | o + 6, hv => rw [List.getElem?_eq_none (by omega)] at hv; cases hv
theorem H7 : Tryz.prog.cellsOf 35 = 7 := by kernel_rfl
set_option maxRecDepth 100000 in
theorem OE {n : Nat} {cs : List Value} {y : DataW H × List MemPlace} (h : DataW.trod enc Tryz.prog w base spare held n 35 cs = some y) : ∃ z : Nat -> Int, ∀ (o : Nat) v, cs[o]? = some v -> Rd w (Zw w) v (.g (.int .i64 (z o))) := by
  have hlen : cs.length = 7 := by rw [(zi Tryz.underlying35 h 0 rfl rfl rfl rfl).1, H7]
  obtain ⟨a0, ca0⟩ := dJ Tryz.underlying35 h 0 rfl rfl rfl (k := 0)
  obtain ⟨a1, ca1⟩ := dJ Tryz.underlying35 h 1 rfl rfl rfl (k := 1)
  obtain ⟨a2, ca2⟩ := dJ Tryz.underlying35 h 2 rfl rfl rfl (k := 2)
  obtain ⟨a3, ca3⟩ := dJ Tryz.underlying35 h 3 rfl rfl rfl (k := 3)
  obtain ⟨a4, ca4⟩ := dJ Tryz.underlying35 h 4 rfl rfl rfl (k := 4)
  obtain ⟨a5, ca5⟩ := dJ Tryz.underlying35 h 5 rfl rfl rfl (k := 5)
  obtain ⟨a6, ca6⟩ := dJ Tryz.underlying35 h 6 rfl rfl rfl (k := 6)
  refine ⟨fun o => match o with | 0 => a0 | 1 => a1 | 2 => a2 | 3 => a3 | 4 => a4 | 5 => a5 | _ => a6, fun o v hv => ?_⟩
  match o, hv with
  | 0, hv => exact ca0 _ hv
  | 1, hv => exact ca1 _ hv
  | 2, hv => exact ca2 _ hv
  | 3, hv => exact ca3 _ hv
  | 4, hv => exact ca4 _ hv
  | 5, hv => exact ca5 _ hv
  | 6, hv => exact ca6 _ hv
  | o + 7, hv => rw [List.getElem?_eq_none (by omega)] at hv; cases hv
set_option maxRecDepth 100000 in
theorem T9 {c : Value} {n : Nat} {y : DataW H × List MemPlace} (h : DataW.trod enc Tryz.prog w base spare held n 61 [c] = some y) : ∃ (k : Nat) (s : Nat -> (Nat -> Int)), k <= 9223372036854775807 /\ Rd w (Zw w) c (.lst 2 k (dY s)) :=
  kG Tryz.underlying61 qo (by omega) (fun (z : Nat -> Int) o => .g (.int .i64 (z o))) (fun n cs y h hl => o9 h) h
set_option maxRecDepth 100000 in
theorem OC {c : Value} {n : Nat} {y : DataW H × List MemPlace} (h : DataW.trod enc Tryz.prog w base spare held n 62 [c] = some y) : ∃ (k : Nat) (s : Nat -> (Nat -> Int)), k <= 9223372036854775807 /\ Rd w (Zw w) c (.lst 6 k (dY s)) :=
  kG Tryz.underlying62 Hy (by omega) (fun (z : Nat -> Int) o => .g (.int .i64 (z o))) (fun n cs y h hl => Q0 h) h
theorem wm : Tryz.prog.cellsOf 64 = 9 := by kernel_rfl
set_option maxRecDepth 100000 in
theorem Df {n : Nat} {cs : List Value} {y : DataW H × List MemPlace} (h : DataW.trod enc Tryz.prog w base spare held n 64 cs = some y) : ∃ z : Nc, ∀ (o : Nat) v, cs[o]? = some v -> Rd w (Zw w) v (Xz z.1 o) := by
  have hlen : cs.length = 9 := by rw [(zi Tryz.underlying64 h 0 rfl rfl rfl rfl).1, wm]
  obtain ⟨a0, ca0⟩ := dJ Tryz.underlying64 h 0 rfl rfl rfl (k := 0)
  obtain ⟨a1, ca1⟩ := dJ Tryz.underlying64 h 1 rfl rfl rfl (k := 1)
  obtain ⟨_, n2, y2, g2⟩ := zi Tryz.underlying64 h 2 rfl rfl rfl (k := 2) (T := 60) qo
  obtain ⟨p, r2⟩ := o9 g2
  obtain ⟨a3, ca3⟩ := dJ Tryz.underlying64 h 3 rfl rfl rfl (k := 4)
  obtain ⟨_, n4, y4, g4⟩ := zi Tryz.underlying64 h 4 rfl rfl rfl (k := 5) (T := 61) ZW
  obtain ⟨c4, k4, e4⟩ := nY Tryz.underlying61 g4
  obtain ⟨m4, s4, b4, r4⟩ := T9 k4
  obtain ⟨a5, ca5⟩ := dJ Tryz.underlying64 h 5 rfl rfl rfl (k := 6)
  obtain ⟨a6, ca6⟩ := dJ Tryz.underlying64 h 6 rfl rfl rfl (k := 7)
  obtain ⟨_, n7, y7, g7⟩ := zi Tryz.underlying64 h 7 rfl rfl rfl (k := 8) (T := 62) aan
  obtain ⟨c7, k7, e7⟩ := nY Tryz.underlying62 g7
  obtain ⟨m7, s7, b7, r7⟩ := OC k7
  refine ⟨⟨⟨a0, a1, p 0, p 1, a3, m4, s4, a5, a6, m7, s7⟩, b4, b7⟩, fun o v hv => ?_⟩
  match o, hv with
  | 0, hv => exact ca0 _ hv
  | 1, hv => exact ca1 _ hv
  | 2, hv => exact r2 0 _ (fO (by omega) hv)
  | 3, hv => exact r2 1 _ (fO (by omega) hv)
  | 4, hv => exact ca3 _ hv
  | 5, hv => rw [e4 _ hv]; exact r4
  | 6, hv => exact ca5 _ hv
  | 7, hv => exact ca6 _ hv
  | 8, hv => rw [e7 _ hv]; exact r7
  | o + 9, hv => rw [List.getElem?_eq_none (by omega)] at hv; cases hv
theorem MR : Tryz.prog.cellsOf 66 = 16 := by kernel_rfl
set_option maxRecDepth 100000 in
theorem Xk {n : Nat} {cs : List Value} {y : DataW H × List MemPlace} (h : DataW.trod enc Tryz.prog w base spare held n 66 cs = some y) : ∃ z : OpK, ∀ (o : Nat) v, cs[o]? = some v -> Rd w (Zw w) v (aeF z.1 o) := by
  have hlen : cs.length = 16 := by rw [(zi Tryz.underlying66 h 0 rfl rfl rfl rfl).1, MR]
  obtain ⟨a0, ca0⟩ := dJ Tryz.underlying66 h 0 rfl rfl rfl (k := 0)
  obtain ⟨a1, ca1⟩ := dJ Tryz.underlying66 h 1 rfl rfl rfl (k := 1)
  obtain ⟨_, n2, y2, g2⟩ := zi Tryz.underlying66 h 2 rfl rfl rfl (k := 2) (T := 64) wm
  obtain ⟨f, r2⟩ := Df g2
  obtain ⟨_, n3, y3, g3⟩ := zi Tryz.underlying66 h 3 rfl rfl rfl (k := 11) (T := 60) qo
  obtain ⟨p, r3⟩ := o9 g3
  obtain ⟨a4, ca4⟩ := dJ Tryz.underlying66 h 4 rfl rfl rfl (k := 13)
  obtain ⟨a5, ca5⟩ := dJ Tryz.underlying66 h 5 rfl rfl rfl (k := 14)
  obtain ⟨a6, ca6⟩ := dJ Tryz.underlying66 h 6 rfl rfl rfl (k := 15)
  refine ⟨⟨⟨a0, a1, f.1, p 0, p 1, a4, a5, a6⟩, f.2⟩, fun o v hv => ?_⟩
  match o, hv with
  | 0, hv => exact ca0 _ hv
  | 1, hv => exact ca1 _ hv
  | 2, hv => exact r2 0 _ (fO (by omega) hv)
  | 3, hv => exact r2 1 _ (fO (by omega) hv)
  | 4, hv => exact r2 2 _ (fO (by omega) hv)
  | 5, hv => exact r2 3 _ (fO (by omega) hv)
  | 6, hv => exact r2 4 _ (fO (by omega) hv)
  | 7, hv => exact r2 5 _ (fO (by omega) hv)
  | 8, hv => exact r2 6 _ (fO (by omega) hv)
  | 9, hv => exact r2 7 _ (fO (by omega) hv)
  | 10, hv => exact r2 8 _ (fO (by omega) hv)
  | 11, hv => exact r3 0 _ (fO (by omega) hv)
  | 12, hv => exact r3 1 _ (fO (by omega) hv)
  | 13, hv => exact ca4 _ hv
  | 14, hv => exact ca5 _ hv
  | 15, hv => exact ca6 _ hv
  | o + 16, hv => rw [List.getElem?_eq_none (by omega)] at hv; cases hv
set_option maxRecDepth 100000 in
theorem WT {c : Value} {n : Nat} {y : DataW H × List MemPlace} (h : DataW.trod enc Tryz.prog w base spare held n 37 [c] = some y) : ∃ (k : Nat) (s : Nat -> Nc), k <= 9223372036854775807 /\ Rd w (Zw w) c (.lst 9 k (dL fun i => (s i).1)) :=
  kG Tryz.underlying37 wm (by omega) (fun (z : Nc) o => Xz z.1 o) (fun n cs y h hl => Df h) h
set_option maxRecDepth 100000 in
theorem Yy {c : Value} {n : Nat} {y : DataW H × List MemPlace} (h : DataW.trod enc Tryz.prog w base spare held n 56 [c] = some y) : ∃ (k : Nat) (s : Nat -> OpK), k <= 9223372036854775807 /\ Rd w (Zw w) c (.lst 16 k (iC fun i => (s i).1)) :=
  kG Tryz.underlying56 MR (by omega) (fun (z : OpK) o => aeF z.1 o) (fun n cs y h hl => Xk h) h
theorem Ed : Tryz.prog.cellsOf 58 = 3 := by kernel_rfl
set_option maxRecDepth 100000 in
theorem LC {n : Nat} {cs : List Value} {y : DataW H × List MemPlace} (h : DataW.trod enc Tryz.prog w base spare held n 58 cs = some y) : ∃ z : Ml, ∀ (o : Nat) v, cs[o]? = some v -> Rd w (Zw w) v (Vv z.1 o) := by
  have hlen : cs.length = 3 := by rw [(zi Tryz.underlying58 h 0 rfl rfl rfl rfl).1, Ed]
  obtain ⟨a0, ca0⟩ := dJ Tryz.underlying58 h 0 rfl rfl rfl (k := 0)
  obtain ⟨_, n1, y1, g1⟩ := zi Tryz.underlying58 h 1 rfl rfl rfl (k := 1) (T := 36) NU
  obtain ⟨c1, k1, e1⟩ := nY Tryz.underlying36 g1
  obtain ⟨q, a, b1, r1⟩ := open_ints' k1
  obtain ⟨_, n2, y2, g2⟩ := zi Tryz.underlying58 h 2 rfl rfl rfl (k := 2) (T := 56) aax
  obtain ⟨c2, k2, e2⟩ := nY Tryz.underlying56 g2
  obtain ⟨k, s, b2, r2⟩ := Yy k2
  refine ⟨⟨⟨a0, q, a, k, fun i => (s i).1⟩, b1, b2, fun i _ => (s i).2⟩, fun o v hv => ?_⟩
  match o, hv with
  | 0, hv => exact ca0 _ hv
  | 1, hv => rw [e1 _ hv]; exact r1
  | 2, hv => rw [e2 _ hv]; exact r2
  | o + 3, hv => rw [List.getElem?_eq_none (by omega)] at hv; cases hv
set_option maxRecDepth 100000 in
theorem Ka {c : Value} {n : Nat} {y : DataW H × List MemPlace} (h : DataW.trod enc Tryz.prog w base spare held n 26 [c] = some y) : ∃ (k : Nat) (s : Nat -> Ml), k <= 9223372036854775807 /\ Rd w (Zw w) c (.lst 3 k (eO fun i => (s i).1)) :=
  kG Tryz.underlying26 Ed (by omega) (fun (z : Ml) o => Vv z.1 o) (fun n cs y h hl => LC h) h
theorem G9 : Tryz.prog.cellsOf 28 = 7 := by kernel_rfl
set_option maxRecDepth 100000 in
theorem P6 {n : Nat} {cs : List Value} {y : DataW H × List MemPlace} (h : DataW.trod enc Tryz.prog w base spare held n 28 cs = some y) : ∃ z : abw, ∀ (o : Nat) v, cs[o]? = some v -> Rd w (Zw w) v (ab7 z.1 o) := by
  have hlen : cs.length = 7 := by rw [(zi Tryz.underlying28 h 0 rfl rfl rfl rfl).1, G9]
  obtain ⟨a0, ca0⟩ := dJ Tryz.underlying28 h 0 rfl rfl rfl (k := 0)
  obtain ⟨a1, ca1⟩ := dJ Tryz.underlying28 h 1 rfl rfl rfl (k := 1)
  obtain ⟨a2, ca2⟩ := dJ Tryz.underlying28 h 2 rfl rfl rfl (k := 2)
  obtain ⟨a3, ca3⟩ := dJ Tryz.underlying28 h 3 rfl rfl rfl (k := 3)
  obtain ⟨a4, ca4⟩ := dJ Tryz.underlying28 h 4 rfl rfl rfl (k := 4)
  obtain ⟨a5, ca5⟩ := dJ Tryz.underlying28 h 5 rfl rfl rfl (k := 5)
  obtain ⟨_, n6, y6, g6⟩ := zi Tryz.underlying28 h 6 rfl rfl rfl (k := 6) (T := 26) abG
  obtain ⟨c6, k6, e6⟩ := nY Tryz.underlying26 g6
  obtain ⟨k, s, b6, r6⟩ := Ka k6
  refine ⟨⟨⟨a0, a1, a2, a3, a4, a5, k, fun i => (s i).1⟩, ⟨b6, fun i _ => (s i).2⟩⟩, fun o v hv => ?_⟩
  match o, hv with
  | 0, hv => exact ca0 _ hv
  | 1, hv => exact ca1 _ hv
  | 2, hv => exact ca2 _ hv
  | 3, hv => exact ca3 _ hv
  | 4, hv => exact ca4 _ hv
  | 5, hv => exact ca5 _ hv
  | 6, hv => rw [e6 _ hv]; exact r6
  | o + 7, hv => rw [List.getElem?_eq_none (by omega)] at hv; cases hv
set_option maxRecDepth 100000 in
theorem KO {c : Value} {n : Nat} {y : DataW H × List MemPlace} (h : DataW.trod enc Tryz.prog w base spare held n 23 [c] = some y) : ∃ (k : Nat) (s : Nat -> abw), k <= 9223372036854775807 /\ Rd w (Zw w) c (.lst 7 k (fB fun i => (s i).1)) :=
  kG Tryz.underlying23 G9 (by omega) (fun (z : abw) o => ab7 z.1 o) (fun n cs y h hl => P6 h) h
theorem H9 : Tryz.prog.cellsOf 39 = 13 := by kernel_rfl
set_option maxRecDepth 100000 in
theorem P7 {n : Nat} {cs : List Value} {y : DataW H × List MemPlace} (h : DataW.trod enc Tryz.prog w base spare held n 39 cs = some y) : ∃ z : adf, ∀ (o : Nat) v, cs[o]? = some v -> Rd w (Zw w) v (acp z.1 o) := by
  have hlen : cs.length = 13 := by rw [(zi Tryz.underlying39 h 0 rfl rfl rfl rfl).1, H9]
  obtain ⟨a0, ca0⟩ := dJ Tryz.underlying39 h 0 rfl rfl rfl (k := 0)
  obtain ⟨a1, ca1⟩ := dJ Tryz.underlying39 h 1 rfl rfl rfl (k := 1)
  obtain ⟨a2, ca2⟩ := dJ Tryz.underlying39 h 2 rfl rfl rfl (k := 2)
  obtain ⟨_, n3, y3, g3⟩ := zi Tryz.underlying39 h 3 rfl rfl rfl (k := 3) (T := 35) H7
  obtain ⟨m, r3⟩ := OE g3
  obtain ⟨a4, ca4⟩ := dJ Tryz.underlying39 h 4 rfl rfl rfl (k := 10)
  obtain ⟨_, n5, y5, g5⟩ := zi Tryz.underlying39 h 5 rfl rfl rfl (k := 11) (T := 36) NU
  obtain ⟨c5, k5, e5⟩ := nY Tryz.underlying36 g5
  obtain ⟨q, a, b1, r5⟩ := open_ints' k5
  obtain ⟨_, n6, y6, g6⟩ := zi Tryz.underlying39 h 6 rfl rfl rfl (k := 12) (T := 37) aaL
  obtain ⟨c6, k6, e6⟩ := nY Tryz.underlying37 g6
  obtain ⟨k, s, b2, r6⟩ := WT k6
  refine ⟨⟨⟨a0, a1, a2, ⟨m 0, m 1, m 2, m 3, m 4, m 5, m 6⟩, a4, q, a, k, fun i => (s i).1⟩, ⟨b1, b2, fun i _ => (s i).2⟩⟩, fun o v hv => ?_⟩
  match o, hv with
  | 0, hv => exact ca0 _ hv
  | 1, hv => exact ca1 _ hv
  | 2, hv => exact ca2 _ hv
  | 3, hv => exact r3 0 _ (fO (by omega) hv)
  | 4, hv => exact r3 1 _ (fO (by omega) hv)
  | 5, hv => exact r3 2 _ (fO (by omega) hv)
  | 6, hv => exact r3 3 _ (fO (by omega) hv)
  | 7, hv => exact r3 4 _ (fO (by omega) hv)
  | 8, hv => exact r3 5 _ (fO (by omega) hv)
  | 9, hv => exact r3 6 _ (fO (by omega) hv)
  | 10, hv => exact ca4 _ hv
  | 11, hv => rw [e5 _ hv]; exact r5
  | 12, hv => rw [e6 _ hv]; exact r6
  | o + 13, hv => rw [List.getElem?_eq_none (by omega)] at hv; cases hv
set_option maxRecDepth 100000 in
theorem KI {c : Value} {n : Nat} {y : DataW H × List MemPlace} (h : DataW.trod enc Tryz.prog w base spare held n 22 [c] = some y) : ∃ (k : Nat) (s : Nat -> adf), k <= 9223372036854775807 /\ Rd w (Zw w) c (.lst 13 k (ji fun i => (s i).1)) :=
  kG Tryz.underlying22 H9 (by omega) (fun (z : adf) o => acp z.1 o) (fun n cs y h hl => P7 h) h
theorem abk : Tryz.prog.cellsOf 22 = 1 := by kernel_rfl
theorem ZY : Tryz.prog.cellsOf 23 = 1 := by kernel_rfl
theorem I5 : Tryz.prog.cellsOf 25 = 2 := by kernel_rfl
set_option maxRecDepth 100000 in
theorem O5 {n : Nat} {cs : List Value} {y : DataW H × List MemPlace} (h : DataW.trod enc Tryz.prog w base spare held n 25 cs = some y) : ∃ z : aj, z.Ok /\ ∀ (o : Nat) v, cs[o]? = some v -> Rd w (Zw w) v (match o with | 0 => .lst 13 z.k (ji z.S) | _ => .lst 7 z.n (fB z.N)) := by
  have hlen : cs.length = 2 := by rw [(zi Tryz.underlying25 h 0 rfl rfl rfl rfl).1, I5]
  obtain ⟨_, n0, y0, g0⟩ := zi Tryz.underlying25 h 0 rfl rfl rfl (k := 0) (T := 22) abk
  obtain ⟨c0, k0, e0⟩ := nY Tryz.underlying22 g0
  obtain ⟨a, b, c, r0⟩ := KI k0
  obtain ⟨_, n1, y1, g1⟩ := zi Tryz.underlying25 h 1 rfl rfl rfl (k := 1) (T := 23) ZY
  obtain ⟨c1, k1, e1⟩ := nY Tryz.underlying23 g1
  obtain ⟨q, u, x, r1⟩ := KO k1
  refine ⟨⟨a, fun i => (b i).1, q, fun i => (u i).1⟩, ⟨c, fun i _ => (b i).2, x, fun i _ => (u i).2⟩, fun o v hv => ?_⟩
  match o, hv with
  | 0, hv => rw [e0 _ hv]; exact r0
  | 1, hv => rw [e1 _ hv]; exact r1
  | o + 2, hv => rw [List.getElem?_eq_none (by omega)] at hv; cases hv
theorem ac2 {α : Type} {cs : Array α} (h : cs.size = 2) : ∃ c0 c1, cs = #[c0, c1] := by
  obtain ⟨l⟩ := cs
  match l, h with
  | [c0, c1], _ => exact ⟨c0, c1, rfl⟩
set_option maxRecDepth 100000 in
theorem Ce (hv : Value.okWide Tryz.prog w r b0 25 v) (h : DataW.Trod enc Tryz.prog w base spare held 25 v d p) : ∃ z : aj, z.Ok /\ dH w (Zw w) v (.agg [.lst 13 z.k (ji z.S), .lst 7 z.n (fB z.N)]) := by
  obtain ⟨cs, rfl, hsz⟩ := okWide_struct Tryz.underlying25 hv
  obtain ⟨c0, c1, rfl⟩ := ac2 (hsz.trans I5)
  obtain ⟨fuel, hf⟩ := h
  obtain ⟨z, hN, hz⟩ := O5 (cs := [c0, c1]) (by simpa [Value.cells] using hf)
  exact ⟨z, hN, _, rfl, hz 0 c0 rfl, hz 1 c1 rfl, trivial⟩
end
end Go.Proofs.YtcfechepbamhkaaGreat
set_option maxRecDepth 100000
set_option maxHeartbeats 4000000
namespace Go.Proofs.YtcfechepbamhkaaGreat
open Go.RowKit Go.Sea
open Nat renaming reduceAdd -> xA, reduceLT -> xL, reduceLeDiff -> xD, reduceEqDiff -> xE, reduceMul -> xM, reduceSub -> xS, reduceBEq -> xB
theorem Y0 : aK Tryz.prog 77 = true := by kernel_rfl
attribute [go_sem] Y0
def dI (s : bE) (n : Nat) (N : Nat -> ah) : Nat := jw (fun i => tX s (N i) && decide (uZ s (N i) = 0)) n
theorem Ni (s : bE) (n : Nat) (N : Nat -> ah) : dI s n N <= n := qy _ n
theorem Uj {s : bE} {n : Nat} {N : Nat -> ah} {i : Nat} (hi : i < n) (h : tX s (N i) = true) (h2 : uZ s (N i) = 0) (g : ∀ j, j < i -> (tX s (N j) && decide (uZ s (N j) = 0)) = false) : dI s n N = i :=
  l5 (b := fun i => tX s (N i) && decide (uZ s (N i) = 0)) (by rw [h, h2]; rfl) g _ hi
theorem VZ {s : bE} {n : Nat} {N : Nat -> ah} (g : ∀ j, j < n -> (tX s (N j) && decide (uZ s (N j) = 0)) = false) : dI s n N = n := pY _ g
theorem YX {s : bE} {n : Nat} {N : Nat -> ah} (h : dI s n N < n) : tX s (N (dI s n N)) = true /\ uZ s (N (dI s n N)) = 0 := by
  have := (gZ (b := fun i => tX s (N i) && decide (uZ s (N i) = 0)) (k := n)).2 h
  simp only [Bool.and_eq_true, decide_eq_true_eq] at this
  exact this
def nxW (s : bE) (n : Nat) (N : Nat -> ah) : bE := mh s (N (dI s n N))
def vg (s : bE) (n : Nat) (N : Nat -> ah) : Nat -> bE
  | 0 => s
  | j + 1 => nxW (vg s n N j) n N
def U3 (s : bE) (n : Nat) (N : Nat -> ah) : Nat := jw (fun j => decide (dI (vg s n N j) n N = n)) (201 + 0 * s.q)
def wY (s : bE) (n : Nat) (N : Nat -> ah) : bE := vg s n N (U3 s n N)
theorem ai4 {s : bE} {N : ah} (h : uZ s N ≠ 0) : (tX s N && decide (uZ s N = 0)) = false := by rw [decide_eq_false h, Bool.and_false]
def goW (s : bE) (n : Nat) (N : Nat -> ah) (j : Nat) : Prop := ∀ i, i < j -> dI (vg s n N i) n N < n
theorem agA {s : bE} {n : Nat} {N : Nat -> ah} : ∀ {j : Nat}, goW s n N j -> (j = 0 \/ gK (vg s n N j) = true) /\ (vg s n N j).q = s.q + j /\ (vg s n N j).ch = s.ch /\ (vg s n N j).ed = s.ed
  | 0, _ => ⟨Or.inl rfl, rfl, rfl, rfl⟩
  | j + 1, h => by
    have ih := agA (fun i hi => h i (by omega) : goW s n N j)
    have h1 := YX (h j (Nat.lt_succ_self j))
    have e : vg s n N (j + 1) = edS (vg s n N j) (N (dI (vg s n N j) n N)) := (adR h1.2).1
    rw [e]
    refine ⟨Or.inr (ad5 h1.2).1, ?_, ih.2.2.1, ih.2.2.2⟩
    show (vg s n N j).q + 1 = _
    rw [ih.2.1]; omega
theorem GI {s : bE} (h : gK s = true) : s.q <= 200 := by
  unfold gK at h; simp only [Bool.and_eq_true] at h
  exact (of_decide_eq_true h.1.1.1).1
theorem Tx {s : bE} {n : Nat} {N : Nat -> ah} {j : Nat} (h : goW s n N j) : j <= 200 := by
  have := agA h
  rcases this.1 with h0 | h0
  · omega
  · have := GI h0; omega
theorem aej {s : bE} {n : Nat} {N : Nat -> ah} {j : Nat} (h : goW s n N j) (h2 : dI (vg s n N j) n N = n) : wY s n N = vg s n N j := by
  have e : U3 s n N = j := l5 (b := fun j => decide (dI (vg s n N j) n N = n)) (decide_eq_true h2) (fun i hi => decide_eq_false (by have := h i hi; omega)) _ (by have := Tx h; omega)
  unfold wY; rw [e]
theorem afL (s : bE) (n : Nat) (N : Nat -> ah) : goW s n N (U3 s n N) /\ dI (wY s n N) n N = n := by
  have hall := (gZ (b := fun j => decide (dI (vg s n N j) n N = n)) (k := 201 + 0 * s.q))
  have hg : goW s n N (U3 s n N) := fun i hi => by
    have := of_decide_eq_false (hall.1 i hi)
    have := Ni (vg s n N i) n N
    omega
  refine ⟨hg, ?_⟩
  have := Tx hg
  exact of_decide_eq_true (hall.2 (by show U3 s n N < 201 + 0 * s.q; omega))
theorem adU {s : bE} {n : Nat} {N : Nat -> ah} (h : gK s = true) : gK (wY s n N) = true /\ (wY s n N).ch = s.ch /\ (wY s n N).ed = s.ed := by
  have g := agA (afL s n N).1
  refine ⟨?_, g.2.2.1, g.2.2.2⟩
  unfold wY
  rcases g.1 with e | e
  · rw [e]; exact h
  · exact e
theorem Gw : bH.Ok := ⟨by simp [bH], by simp [bH], fun i h => absurd h (Nat.not_lt_zero i)⟩
theorem abI (s : bE) (N : ah) : (mh s N).Ok := by
  unfold mh; split
  · exact XE (ad5 (by assumption)).1
  · exact Gw
theorem Fb {i : Nat} {cs : List CV} : ∀ l : List CV, (∀ c, c ∈ l -> jM c) -> List.map (oP i cs) l = l
  | [], _ => rfl
  | c :: l, h => by
    have h1 := h c (List.mem_cons_self ..)
    rw [List.map_cons, Fb l fun c hc => h c (List.mem_cons_of_mem _ hc)]
    cases c <;> first | rfl | exact h1.elim
theorem Kg {s : bE} {n : Nat} {N : Nat -> ah} (hs : s.Ok) : ∀ j, (vg s n N j).Ok
  | 0 => hs
  | j + 1 => abI _ _
theorem ab3 {s : bE} {n : Nat} {N : Nat -> ah} (hs : s.Ok) : (wY s n N).Ok := Kg hs _
def JL (f : aj) : aj := ⟨f.k, fun i => wY (f.S i) f.n f.N, f.n, f.N⟩
theorem abU {f : aj} (h : f.Ok) : (JL f).Ok := ⟨h.k, fun i hi => ab3 (h.s i hi), h.n, h.nn⟩
def c13 (s : bE) : List CV := [.iv (.g (.int .i64 s.ch)), .iv (.g (.int .i64 s.sc)), .iv (.g (.int .i64 s.ed)), .iv (.g (.int .i64 s.m.A)), .iv (.g (.int .i64 s.m.B)), .iv (.g (.int .i64 s.m.C)), .iv (.g (.int .i64 s.m.D)), .iv (.g (.int .i64 s.m.E)), .iv (.g (.int .i64 s.m.F)), .iv (.g (.int .i64 s.m.R)), .iv (.g (.int .i64 s.cap)), .iv (.lst 1 s.q (bC s.dn)), .iv (.lst 9 s.n (dL s.f))]
def fP (l : List bE) : List CV := l.flatMap c13
theorem mI (l : List bE) : ∀ c, c ∈ fP l -> jM c := by
  intro c hc
  obtain ⟨s, _, h⟩ := List.mem_flatMap.1 hc
  simp only [c13, List.mem_cons, List.not_mem_nil, or_false] at h
  rcases h with rfl | rfl | rfl | rfl | rfl | rfl | rfl | rfl | rfl | rfl | rfl | rfl | rfl <;> trivial
theorem eD (l : List bE) : (fP l).length = l.length * 13 := by
  induction l with
  | nil => rfl
  | cons s l ih => show (c13 s ++ fP l).length = _; rw [List.length_append, ih, List.length_cons]; show 13 + _ = _; omega
theorem gI (l : List bE) (i : Nat) : List.map (CV.cB i) (fP l) = fP l := jK i (mI l)
theorem uL (l : List bE) (i : Nat) (cs : List CV) : List.map (oP i cs) (fP l) = fP l := Fb _ (mI l)
theorem uO : ∀ (l : List bE) (i o : Nat), i < l.length -> o < 13 -> (fP l).getD (i * 13 + o) .any = (c13 (l.getD i bH)).getD o .any
  | [], i, _, hi, _ => absurd hi (Nat.not_lt_zero i)
  | s :: l, 0, o, _, ho => by
    show (c13 s ++ fP l).getD (0 * 13 + o) .any = _
    rw [Nat.zero_mul, Nat.zero_add, List.getD, List.getElem?_append_left (by show o < 13; exact ho)]; rfl
  | s :: l, i + 1, o, hi, ho => by
    show (c13 s ++ fP l).getD ((i + 1) * 13 + o) .any = _
    have e : (i + 1) * 13 + o = 13 + (i * 13 + o) := by omega
    rw [e, List.getD, List.getElem?_append_right (by show 13 <= 13 + (i * 13 + o); omega)]
    show ((fP l)[13 + (i * 13 + o) - 13]?).getD .any = _
    rw [Nat.add_sub_cancel_left]
    exact uO l i o (by simpa using hi) ho
theorem X9 (l : List bE) : ∀ i o, i < l.length -> o < 13 -> (GX ((fP l).getD (i * 13 + o) .any)).eqv (acp (l.getD i bH) o) := fun i o hi ho => by
  rw [uO l i o hi ho]
  rcases (by omega : o = 0 \/ o = 1 \/ o = 2 \/ o = 3 \/ o = 4 \/ o = 5 \/ o = 6 \/ o = 7 \/ o = 8 \/ o = 9 \/ o = 10 \/ o = 11 \/ o = 12) with rfl | rfl | rfl | rfl | rfl | rfl | rfl | rfl | rfl | rfl | rfl | rfl | rfl <;> exact IV.bG _
end Go.Proofs.YtcfechepbamhkaaGreat
