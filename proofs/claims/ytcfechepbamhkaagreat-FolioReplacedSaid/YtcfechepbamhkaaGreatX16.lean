/- Part 16 of 17: contracts of functions and plain laws for the root text. No condition. -/
import Derived.Test.YtcfechepbamhkaaGreatX01
import Derived.Test.YtcfechepbamhkaaGreatX02
import Derived.Test.YtcfechepbamhkaaGreatX03
import Derived.Test.YtcfechepbamhkaaGreatX04
import Derived.Test.YtcfechepbamhkaaGreatX05
import Derived.Test.YtcfechepbamhkaaGreatX06
import Derived.Test.YtcfechepbamhkaaGreatX07
import Derived.Test.YtcfechepbamhkaaGreatX08
import Derived.Test.YtcfechepbamhkaaGreatX09
import Derived.Test.YtcfechepbamhkaaGreatX10
import Derived.Test.YtcfechepbamhkaaGreatX11
import Derived.Test.YtcfechepbamhkaaGreatX12
import Derived.Test.YtcfechepbamhkaaGreatX13
import Derived.Test.YtcfechepbamhkaaGreatX14
import Derived.Test.YtcfechepbamhkaaGreatX15
import Derived.Shelf.SlGeneric
import Derived.Ground.SlgfProg
import Derived.Shelf.SlicesE.DeleteFunc
import Derived.Test.YtcfechepbamhkaaGreatProg
set_option linter.unusedVariables false
set_option linter.unusedSimpArgs false
set_option maxRecDepth 100000
set_option maxHeartbeats 4000000
namespace Go.Proofs.YtcfechepbamhkaaGreat
open Go.RowKit Go.Sea
open Nat renaming reduceAdd -> xA, reduceLT -> xL, reduceLeDiff -> xD, reduceEqDiff -> xE, reduceMul -> xM, reduceSub -> xS, reduceBEq -> xB
theorem Qg {s : aF} {n : Nat} {N : Nat -> ah} {od : Nat -> Int} (hv : dW s = true) (k : Nat) : 0 <= (dO s n N od k).ed /\ (dO s n N od k).ed <= 1000 := by
  have h := Vr hv
  rw [(Oi s n N od k).1]; omega
theorem ao1 (s : aF) (n : Nat) (N : Nat -> ah) (hs : s.Ok) (hn : n <= 9223372036854775807) (hN : ∀ i, i < n -> (N i).Ok) (hB : zw s n N = false) : aA Tryz.prog 38 [(lY s), .one (.lst 7 n (dX N))] (.tup [(lY (mV s n N)), .one (.g (.int .i64 (Ac s n N)))]) := by
  refine ak Tryz.func38 rfl (by rw [Tryz.ntmps38]; simp) ?_
  simp only [lY, Tryz.ntmps38, zM, PT.tv, au, Nat.zero_add, Nat.reduceAdd]
  repeat' (first
 | ((with_reducible show AW _ _ _ _); first
 | (with_reducible first | refine aS (fun K hK => ?_) | refine aT ?_ | refine aC ?_ | refine aB ?_)
 | (first
 | (with_reducible first | refine aP 0 [0,1] ?_ | refine aP 1 [1,2,4] ?_ | refine aP 2 [4] ?_)))
 | ((first | (with_reducible refine And.intro ?_ ?_) | (with_reducible refine Need.mk ?_)); focus (first | exact True.intro | (intro _; (with_reducible assumption)) | (simp; done)))
 | (with_reducible refine aK ?_)
 | ((with_reducible show bL _ _ _ _ _ _); first
 | ((with_reducible refine aN ?_ ?_) <;> (intro hc; (try simp only [zB, zC, reduceCtorEq] at hc); (try (exfalso; contradiction)))))
 | ((with_reducible show aZ _ _ _ _ _ _ _ _ _ _); first
 | (refine aG (k := 48) iq (iE s hs) ?_ ?_))
 | ((with_reducible show bM _ _ _ _ _ _ _ _ _ _); first
 | (refine aV (k := 82) oD (fun hg => ES n N hn hN) ?_ ?_))
 | ((fail_if_success (with_reducible show AW _ _ _ _)); simp (maxSteps := 2000000) only [go_sem, reduceIte, reduceCtorEq, xA, xL, xD, xE, xM, xS, xB, Tryz.f38, bC])
 | ((with_reducible refine hK _ ?_); clear hK K))
  all_goals (first | (have e := aiC hB; rw [e.1, e.2]; (repeat' (first | exact rfl | (with_reducible refine And.intro ?_ ?_))); done) | exact (agA hB hc).elim)
theorem akA (s : aF) (n : Nat) (N : Nat -> ah) (hs : s.Ok) (hn : n <= 9223372036854775807) (hN : ∀ i, i < n -> (N i).Ok) (hB : zw s n N = true) (h9 : s.ed >= 1000) : aA Tryz.prog 38 [(lY s), .one (.lst 7 n (dX N))] (.tup [(lY (mV s n N)), .one (.g (.int .i64 (Ac s n N)))]) := by
  have h3 := qL hB
  have hv := h3.1
  have hw := h3.2.1
  have hn2 := h3.2.2
  have hle := oW s N n
  have h91 : (1000 <= s.ed) = True := eq_true h9
  refine ak Tryz.func38 rfl (by rw [Tryz.ntmps38]; simp) ?_
  simp only [lY, Tryz.ntmps38, zM, PT.tv, au, Nat.zero_add, Nat.reduceAdd]
  repeat' (first
 | ((with_reducible show AW _ _ _ _); first
 | (with_reducible first | refine aS (fun K hK => ?_) | refine aT ?_ | refine aC ?_ | refine aB ?_)
 | (first
 | (with_reducible first | refine aP 0 [0,1] ?_ | refine aP 1 [1,2,4] ?_ | refine aP 3 [1,2,4] ?_ | refine aP 4 [4] ?_)))
 | ((first | (with_reducible refine And.intro ?_ ?_) | (with_reducible refine Need.mk ?_)); focus (first | exact True.intro | (intro _; exact True.intro)))
 | (with_reducible refine aK ?_)
 | ((with_reducible show bL _ _ _ _ _ _); first
 | ((with_reducible refine aN ?_ ?_) <;> (intro hc; (try simp only [zB, zC, reduceCtorEq] at hc); (try (exfalso; contradiction)))))
 | ((with_reducible show aZ _ _ _ _ _ _ _ _ _ _); first
 | (refine aG (k := 48) iq (iE s hs) ?_ ?_))
 | ((with_reducible show bM _ _ _ _ _ _ _ _ _ _); first
 | (refine aV (k := 82) oD (fun hg => ES n N hn hN) ?_ ?_))
 | ((fail_if_success (with_reducible show AW _ _ _ _)); simp (maxSteps := 2000000) only [go_sem, reduceIte, reduceCtorEq, xA, xL, xD, xE, xM, xS, xB, Tryz.f38, bC, hv, hw, h91])
 | ((with_reducible refine hK _ ?_); clear hK K))
  all_goals ((have e := aoj hB h9; rw [e.1, e.2]; (repeat' (first | exact rfl | (with_reducible refine And.intro ?_ ?_))); done))
set_option maxHeartbeats 16000000 in
theorem aod (s : aF) (n : Nat) (N : Nat -> ah) (k : Nat) (od : Nat -> Int) (hs : s.Ok) (hn : n <= 9223372036854775807) (hN : ∀ i, i < n -> (N i).Ok) (hk : k <= 9223372036854775807) (hB : zI s n N k = true) (h9 : s.ed < 1000) (hL : aA Tryz.prog 84 [(lY s), .one (.lst 7 n (dX N))] (.t (.one (.lst 1 k (bC od))))) : aA Tryz.prog 38 [(lY s), .one (.lst 7 n (dX N))] (.tup [(lY (mkF (sj s n N k od) (qB s n N k od))), .one (.g (.int .i64 (qB s n N k od)))]) := by
  have hil : True := trivial
  have mk1 : True := trivial
  have hB2 := hB
  unfold zI at hB2
  simp only [Bool.and_eq_true, decide_eq_true_eq] at hB2
  have hv := hB2.1.1
  have hw := hB2.1.2
  have h91 : (1000 <= s.ed) = False := eq_false (by omega)
  refine ak Tryz.func38 rfl (by rw [Tryz.ntmps38]; simp) ?_
  simp only [lY, Tryz.ntmps38, zM, PT.tv, au, Nat.zero_add, Nat.reduceAdd]
  repeat' (first
 | ((with_reducible show AW _ _ _ _); first
 | (with_reducible first | refine aS (fun K hK => ?_) | refine aI ?_ | refine aX ?_ | refine aT ?_ | refine aC ?_ | refine aB ?_)
 | (first
 | ((with_reducible show AW _ (Code.region 17 _ true) _ _); refine Wh (m := (dO s n N od i).q) (p := jB (jZ (dO s n N od i).q (dO s n N od i).dn) (mP n N (od i)).nu) (zs := jZ (dO s n N od i).q (dO s n N od i).dn) (x := (mP n N (od i)).nu) 30 31 rfl rfl rfl rfl rfl rfl rfl rfl rfl rfl rfl ⟨rfl, by simp, by decide⟩ rfl rfl (by decide) (by omega) (PE _ _) (iF _ _) (wm _ _ _) rfl rfl rfl rfl (by decide) (by kernel_rfl) (by kernel_rfl) (by kernel_rfl) (by kernel_rfl) (by kernel_rfl) ?_)
 | (with_reducible first | refine aP 0 [0,1,2] ?_ | refine aP (ops := #[⟨some 10, _, _, _, _, _⟩, _, _, _, _, _, _, _, _]) 1 [1,2,4] ?_ | refine aP (ops := #[⟨some 14, _, _, _, _, _⟩, _, _]) 1 [0,1,2] ?_ | refine aP (ops := #[⟨some 5, _, _, _, _, _⟩, _, _, _, _]) 1 [0,1] ?_ | refine aP (ops := #[⟨some 6, _, _, _, _, _⟩, _, _]) 1 [0,1] ?_ | refine aP (ops := #[⟨some 4, _, _, _, _, _⟩, _, _, _, _, _, _]) 1 [0,1] ?_)
 | ((with_reducible refine aR (c := Code.region 1 _ true) [2,3] ?_); (with_reducible refine aD ?_ ?_ ?_ ?_); (focus kernel_rfl); (focus kernel_rfl); (focus kernel_rfl))
 | (with_reducible first | refine aP (ops := #[⟨some 16, _, _, _, _, _⟩, _, _]) 2 [1,2,8] ?_ | refine aP (ops := #[⟨some 9, _, _, _, _, _⟩]) 2 [0,1,7,8] ?_ | refine aP (ops := #[⟨some 23, _, _, _, _, _⟩, _]) 2 [2,3,5,6] ?_ | refine aP (ops := #[⟨some 20, _, _, _, _, _⟩, _, _, _]) 3 [1,2,4] ?_ | refine aP (ops := #[⟨some 19, _, _, _, _, _⟩]) 3 [1,8,16,17,18] ?_ | refine aP (ops := #[⟨some 10, _, _, _, _, _⟩, _]) 3 [0,1,7,8] ?_ | refine aP (ops := #[⟨some 25, _, _, _, _, _⟩, _, _, _]) 3 [2,3,5,6,7] ?_ | refine aP (ops := #[⟨some 20, _, _, _, _, _⟩, _, _, _, _]) 4 [1,8,16,17,18] ?_ | refine aP (ops := #[⟨some 11, _, _, _, _, _⟩, _, _, _, _, _]) 4 [0,1,5,7,8] ?_ | refine aP (ops := #[⟨some 4, _, _, _, _, _⟩]) 4 [] ?_ | refine aP (ops := #[⟨some 24, _, _, _, _, _⟩, _, _, _]) 5 [1,2,4] ?_ | refine aP (ops := #[⟨some 24, _, _, _, _, _⟩, _, _, _, _, _, _, _, _]) 5 [1,8,9,10,16,17,18] ?_ | refine aP (ops := #[⟨some 17, _, _, _, _, _⟩, _]) 5 [5] ?_ | refine aP (ops := #[⟨some 29, _, _, _, _, _⟩, _, _]) 5 [2,3,5,6,7] ?_ | refine aP (ops := #[⟨some 27, _, _, _, _, _⟩, _, _, _, _, _, _, _, _, _]) 6 [1,4,6] ?_ | refine aP (ops := #[⟨some 29, _, _, _, _, _⟩, _]) 6 [1,8,9,11,12,16,17,18] ?_ | refine aP (ops := #[⟨some 18, _, _, _, _, _⟩, _]) 6 [0,1,7,8] ?_ | refine aP (ops := #[⟨some 4, _, _, _, _, _⟩]) 6 [] ?_ | refine aP (ops := #[⟨some 34, _, _, _, _, _⟩, _]) 7 [4,6,8] ?_ | refine aP (ops := #[⟨some 31, _, _, _, _, _⟩, _, _]) 7 [9] ?_ | refine aP (ops := #[⟨some 4, _, _, _, _, _⟩]) 7 [] ?_)
 | ((with_reducible refine aR (c := Code.region 7 _ true) [2,3,5,7] ?_); (with_reducible refine aD ?_ ?_ ?_ ?_); (focus kernel_rfl); (focus kernel_rfl); (focus kernel_rfl))
 | (with_reducible first | refine aP (ops := #[⟨some 36, _, _, _, _, _⟩, _, _, _]) 8 [4,8] ?_ | refine aP (ops := #[⟨some 32, _, _, _, _, _⟩, _, _, _]) 8 [1,8,9,11,16,17,18] ?_ | refine aP (ops := #[⟨some 4, _, _, _, _, _⟩]) 8 [] ?_ | refine aP (ops := #[⟨some 38, _, _, _, _, _⟩, _, _, _, _, _, _]) 9 [4,6] ?_ | refine aP (ops := #[⟨some 35, _, _, _, _, _⟩, _]) 9 [1,8,9,13,16,17,18] ?_ | refine aP (ops := #[⟨some 39, _, _, _, _, _⟩, _, _, _, _]) 9 [2,3,5,7] ?_ | refine aP (ops := #[⟨some 44, _, _, _, _, _⟩, _, _, _]) 10 [4,6] ?_ | refine aP (ops := #[⟨some 37, _, _, _, _, _⟩, _, _, _]) 10 [9,13] ?_ | refine aP (ops := #[⟨some 4, _, _, _, _, _⟩]) 10 [] ?_ | refine aP (ops := #[⟨some 39, _, _, _, _, _⟩, _]) 11 [1,8,16,17,18] ?_ | refine aP (ops := #[⟨some 44, _, _, _, _, _⟩, _, _, _, _, _, _, _]) 11 [2,3,5] ?_ | refine aP (ops := #[⟨some 6, _, _, _, _, _⟩, _]) 12 [] ?_ | refine aP (ops := #[⟨some 4, _, _, _, _, _⟩]) 12 [] ?_)
 | ((with_reducible refine aR (c := Code.region 13 _ true) [2,3,5] ?_); (with_reducible refine aD ?_ ?_ ?_ ?_); (focus kernel_rfl); (focus kernel_rfl); (focus kernel_rfl))
 | (with_reducible first | refine aP 14 [2,3,8,10] ?_ | refine aP 15 [] ?_)
 | ((with_reducible refine aR (c := Code.region 16 _ true) [2,3,8] ?_); (with_reducible refine aD ?_ ?_ ?_ ?_); (focus kernel_rfl); (focus kernel_rfl); (focus kernel_rfl))
 | (with_reducible refine qx (c := Code.region 18 _ false) [30] ?_ (aP 18 [] ?_)))
 | ((with_reducible show AW _ (Code.loop _) _ _); first
 | ((with_reducible refine aL (c := (Code.seq (Code.region 3 _ _) _)) (ι := Nat) [1,8,16,17] (fun i => [(18, iA .i64 (i : Int))]) (fun i => [(2, [.iv (.g (.int .i64 (dO s n N od i).ch)), .iv (.g (.int .i64 (dO s n N od i).sc)), .iv (.g (.int .i64 (dO s n N od i).ed)), .iv (.g (.int .i64 (dO s n N od i).m.A)), .iv (.g (.int .i64 (dO s n N od i).m.B)), .iv (.g (.int .i64 (dO s n N od i).m.C)), .iv (.g (.int .i64 (dO s n N od i).m.D)), .iv (.g (.int .i64 (dO s n N od i).m.E)), .iv (.g (.int .i64 (dO s n N od i).m.F)), .iv (.g (.int .i64 (dO s n N od i).m.R)), .iv (.g (.int .i64 (dO s n N od i).cap)), .iv (.lst 1 (dO s n N od i).q (bC (dO s n N od i).dn)), .iv (.lst 9 (dO s n N od i).n (dN (dO s n N od i).f))])]) (fun i => i <= k /\ (∀ j, j < i -> nI (dO s n N od j) n N (od j) = 0)) (fun i => k - i) 0 ?lg3 ?l13 ?l23 ?li3 ?lr3); (case' lg3 => rintro i _); (case' li3 => try (exact ⟨Nat.zero_le _, fun i hi => absurd hi (Nat.not_lt_zero _)⟩)); (case' lr3 => rintro i ⟨hi, hai⟩ KR hR3; (clear mk1; have hvi := afX (N := N) (n := n) (od := od) hv i hai; have hCo := wW hvi; have hsq := Jd hvi; have hF := ad9 hN (od i); have hFn := hF.n; have hP := adX hF (dO s n N od i).ch; have hPk := hP.k; have hPq := hP.q; have hPo := hP.o; clear hil; have hil := amM (dO s n N od i) (mP n N (od i)).nu); simp only [bG, dL, hset, lk, if_true, if_false, xE, reduceIte, zN, hv, hw, h91, hil, gY, mW, Nat.le_refl]))
 | ((with_reducible refine aL (c := (Code.seq (Code.region 2 _ _) _)) (ι := Nat) [0,1,7] (fun j => [(8, iA .i64 (j : Int))]) (fun j => []) (fun j => j <= (fQ (mP n N (od i)) (dO s n N od i).ch).q /\ (∀ k, k < j -> fD (dO s n N od i).q (dO s n N od i).dn ((fQ (mP n N (od i)) (dO s n N od i).ch).a k) = true)) (fun j => (fQ (mP n N (od i)) (dO s n N od i).ch).q - j) 0 ?lg2 ?l12 ?l22 ?li2 ?lr2); (case' lg2 => rintro j _); (case' li2 => try (exact ⟨Nat.zero_le _, fun i hi => absurd hi (Nat.not_lt_zero _)⟩)); (case' lr2 => rintro j ⟨hj, haj⟩ KR hR2; simp only [bG, dL, hset, lk, if_true, if_false, xE, reduceIte, zN, hv, hw, h91, hil, gY, mW, Nat.le_refl]))))
 | ((first | (with_reducible refine And.intro ?_ ?_) | (with_reducible refine Need.mk ?_)); focus (first | exact iI _ | first | exact True.intro | omega | (intro _; exact True.intro)))
 | (with_reducible refine aK ?_)
 | ((with_reducible show bL _ _ _ _ _ _); first
 | ((with_reducible refine aN ?_ ?_) <;> (intro hc; (try simp only [zB, zC, reduceCtorEq] at hc); ((try (have hbd := Qg (n := n) (N := N) (od := od) hv k)); (try (have e0 : k = i := (by omega); have hbd := Qg (n := n) (N := N) (od := od) hv i))); (try (exfalso; contradiction)))))
 | ((with_reducible refine And.intro ?_ ?_); focus ((with_reducible show iL _ _ _ = true); kernel_rfl))
 | ((with_reducible show aZ _ _ _ _ _ _ _ _ _ _); first
 | (refine aG (k := 48) iq (iE s hs) ?_ ?_)
 | (refine aG (k := 128) Jz (amx n N hn hN (od i) hw) ?_ ?_)
 | (refine aG (k := 98) qN (KM (dO s n N od i) _ (wW hvi) hvi) ?_ ?_)
 | (refine aG (k := 84) Ai (hL) ?_ ?_)
 | ((refine bW (k := 83) Tryz.func83 rfl P8 (by rw [Tryz.ntmps83]; simp) ?_ ?_ (fun K hK => ?_)); (focus (exact True.intro)); (focus ((simp [iZ]; done))); simp only [Tryz.ntmps83, List.map_cons, List.map_nil, List.nil_append, List.cons_append, List.append_nil, LV.tv, au, Nat.zero_add, Nat.reduceAdd])
 | ((refine bW (k := 99) Tryz.func99 rfl FJ (by rw [Tryz.ntmps99]; simp) ?_ ?_ (fun K hK => ?_)); (focus (exact True.intro)); (focus ((simp [iZ]; done))); simp only [Tryz.ntmps99, List.map_cons, List.map_nil, List.nil_append, List.cons_append, List.append_nil, LV.tv, au, Nat.zero_add, Nat.reduceAdd])
 | ((refine bW (k := 136) Tryz.func136 rfl Bz (by rw [Tryz.ntmps136]; simp) ?_ ?_ (fun K hK => ?_)); (focus (exact True.intro)); (focus ((simp [iZ]; done))); simp only [Tryz.ntmps136, List.map_cons, List.map_nil, List.nil_append, List.cons_append, List.append_nil, LV.tv, au, Nat.zero_add, Nat.reduceAdd])
 | ((refine kJ (k := 49) Tryz.func49 rfl uh (by rw [Tryz.ntmps49]; simp) ?_ ?_ (fun K hK => ?_)); (focus (exact True.intro)); (focus ((simp [iZ]; done))); simp only [Tryz.ntmps49, List.map_cons, List.map_nil, List.nil_append, List.cons_append, List.append_nil, LV.tv, au, Nat.zero_add, Nat.reduceAdd])
 | ((refine kJ (k := 97) Tryz.func97 rfl Pj (by rw [Tryz.ntmps97]; simp) ?_ ?_ (fun K hK => ?_)); (focus (exact True.intro)); (focus ((simp [iZ]; done))); simp only [Tryz.ntmps97, List.map_cons, List.map_nil, List.nil_append, List.cons_append, List.append_nil, LV.tv, au, Nat.zero_add, Nat.reduceAdd]))
 | ((with_reducible show bM _ _ _ _ _ _ _ _ _ _); first
 | (refine aV (k := 82) oD (fun hg => ES n N hn hN) ?_ ?_))
 | ((with_reducible show eP _ _ _ _ _ _ _ _ _ _ _ _ _); first
 | (refine bR (k := 96) qM (Cy (mP n N (od i)) (dO s n N od i).ch hF) ?_ ?_)
 | (refine bR (k := 98) qN (KM (dO s n N od i) _ (wW hvi) hvi) ?_ ?_)
 | (refine bR (k := 61) zS (Ho (dO s n N od i).n (dO s n N od i).f (fQ (mP n N (od i)) (dO s n N od i).ch).k (fQ (mP n N (od i)) (dO s n N od i).ch).o hCo.n hCo.f hPk hPo) ?_ ?_)
 | (refine bR (k := 100) vw (ai4 (dO s n N od i).q (dO s n N od i).dn _ (by omega) (fun i j h1 h2 => pR hsq.2.2 j h1 h2)) ?_ ?_))
 | ((with_reducible refine hR3 _ (i + 1) ?_); (try clear hR3 KR))
 | ((with_reducible refine hR2 _ (j + 1) ?_); (try clear hR2 KR))
 | ((with_reducible refine Told.mk ?_); simp only [go_sem, reduceIte, reduceCtorEq, xA, xL, xD, xE, xM, xS, xB, bC, hv, hw, h91, hil, gY, mW, Nat.le_refl] <;> ((((try simp (disch := omega) only [aY, Int.natCast_add, Int.cast_ofNat_Int, and_true, true_and, and_self]); (repeat' (first | omega | rfl | (with_reducible refine And.intro ?_ ?_) | (exact all_succ (by assumption) (by assumption)) | ((exact Or.inl rfl)) | ((exact all_succ (by assumption) ((Ca (by assumption)).trans ((jR hvi (sP hw (by assumption))).trans ((rT (by assumption) (by assumption)).trans (anU (by assumption) (by assumption) (MS (by assumption) (by assumption) haj) (by assumption) (by assumption))))))) | ((rw [aaB rfl (by assumption) (by assumption)])) | ((exact Or.inr ⟨rfl, fun i o hi ho => Kc (by omega) ho⟩)))); done))))
 | ((fail_if_success (with_reducible show AW _ _ _ _)); simp (maxSteps := 2000000) only [go_sem, reduceIte, reduceCtorEq, xA, xL, xD, xE, xM, xS, xB, Tryz.f38, Tryz.f83, Tryz.f99, Tryz.f136, Tryz.f49, Tryz.f97, bC, hv, hw, h91, hil, gY, mW, Nat.le_refl])
 | ((fail_if_success (with_reducible show AW _ _ _ _)); simp (disch := omega) only [aY, iP, iX])
 | ((with_reducible refine hK _ ?_); clear hK K)
 | (with_reducible apply_assumption -exfalso only [*]))
  all_goals (first | (have e := oN hB (by assumption) hai ((Ca (by assumption)).trans ((jR hvi (sP hw (by assumption))).trans (af8 (by assumption)))) (by decide); rw [DU (by rw [e.2.2]; decide), e.2.2]; (repeat' (first | exact rfl | (with_reducible refine And.intro ?_ ?_))); done) | (have e := oN hB (by assumption) hai ((Ca (by assumption)).trans ((jR hvi (sP hw (by assumption))).trans (akE (by assumption) (by assumption)))) (by decide); rw [DU (by rw [e.2.2]; decide), e.2.2]; (repeat' (first | exact rfl | (with_reducible refine And.intro ?_ ?_))); done) | (have e := oN hB (by assumption) hai ((Ca (by assumption)).trans ((jR hvi (sP hw (by assumption))).trans ((rT (by assumption) (by assumption)).trans (amW (by assumption))))) (by decide); rw [DU (by rw [e.2.2]; decide), e.2.2]; (repeat' (first | exact rfl | (with_reducible refine And.intro ?_ ?_))); done) | (have e := oN hB (by assumption) hai ((Ca (by assumption)).trans ((jR hvi (sP hw (by assumption))).trans ((rT (by assumption) (by assumption)).trans (ah0 (by assumption) (by assumption) (by assumption) (by assumption))))) (by decide); rw [DU (by rw [e.2.2]; decide), e.2.2]; (repeat' (first | exact rfl | (with_reducible refine And.intro ?_ ?_))); done) | (have e := oN hB (by assumption) hai ((Ca (by assumption)).trans ((jR hvi (sP hw (by assumption))).trans ((rT (by assumption) (by assumption)).trans (alH (by assumption) (MS (by assumption) (by assumption) haj) (by assumption))))) (by decide); rw [DU (by rw [e.2.2]; decide), e.2.2]; (repeat' (first | exact rfl | (with_reducible refine And.intro ?_ ?_))); done) | (have e := oN hB (by assumption) hai ((Ca (by assumption)).trans ((jR hvi (sP hw (by assumption))).trans ((rT (by assumption) (by assumption)).trans (aiS (by assumption) (by assumption) (MS (by assumption) (by assumption) haj) (by assumption) (by assumption))))) (by decide); rw [DU (by rw [e.2.2]; decide), e.2.2]; (repeat' (first | exact rfl | (with_reducible refine And.intro ?_ ?_))); done) | (have e := oN hB (by assumption) hai (al5 (by assumption)) (by decide); rw [DU (by rw [e.2.2]; decide), e.2.2]; (repeat' (first | exact rfl | (with_reducible refine And.intro ?_ ?_))); done) | (have e := X4 hB (by assumption) hai; have e0 : k = i := (by omega); subst e0; rw [agn e.2.2, e.1, e.2.2]; (repeat' (first | exact rfl | (with_reducible refine And.intro ?_ ?_) | (intro i q hi hq; exact IV.bn _) | (intro i q hi hq; exact rfl))); done))
theorem alc (s : aF) (n : Nat) (N : Nat -> ah) (hs : s.Ok) (hn : n <= 9223372036854775807) (hN : ∀ i, i < n -> (N i).Ok) (hB : zw s n N = true) (h9 : s.ed < 1000) : aA Tryz.prog 38 [(lY s), .one (.lst 7 n (dX N))] (.tup [(lY (mV s n N)), .one (.g (.int .i64 (Ac s n N)))]) := by
  have h3 := qL hB
  have hle := oW s N n
  have e := ao2 hB h9
  rw [e.1, e.2]
  exact aod s n N (gD s N n).length (zL (gD s N n)) hs hn hN (by omega) (YU hB) h9 (Un s n N hs hn hN h3.1 (by omega))
theorem akF (s : aF) (n : Nat) (N : Nat -> ah) (hs : s.Ok) (hn : n <= 9223372036854775807) (hN : ∀ i, i < n -> (N i).Ok) : aA Tryz.prog 38 [(lY s), .one (.lst 7 n (dX N))] (.tup [(lY (mV s n N)), .one (.g (.int .i64 (Ac s n N)))]) := by
  cases hB : zw s n N with
  | false => exact ao1 s n N hs hn hN hB
  | true =>
    by_cases h9 : s.ed >= 1000
    · exact akA s n N hs hn hN hB h9
    · exact alc s n N hs hn hN hB (by omega)
end Go.Proofs.YtcfechepbamhkaaGreat
set_option maxRecDepth 100000
set_option maxHeartbeats 4000000
namespace Go.Proofs.YtcfechepbamhkaaGreat
open Go.RowKit Go.Sea
open Nat renaming reduceAdd -> xA, reduceLT -> xL, reduceLeDiff -> xD, reduceEqDiff -> xE, reduceMul -> xM, reduceSub -> xS, reduceBEq -> xB
theorem qR : aM Tryz.prog 31 = true := by kernel_rfl
theorem anE : lD Tryz.prog 68 = some (false, 1) := by kernel_rfl
attribute [go_sem] qR anE
end Go.Proofs.YtcfechepbamhkaaGreat
namespace Go.Proofs.YtcfechepbamhkaaGreat
open Go.RowKit Go.Sea
structure E9 where
  nu : Int
  q : Nat
  a : Nat -> Int
def uZ : E9 := ⟨0, 0, fun _ => 0⟩
def c2 (s : E9) : List CV := [.iv (.g (.int .i64 s.nu)), .iv (.lst 1 s.q (bC s.a))]
end Go.Proofs.YtcfechepbamhkaaGreat
set_option maxRecDepth 100000
set_option maxHeartbeats 4000000
namespace Go.Proofs.YtcfechepbamhkaaGreat
open Go.RowKit Go.Sea
open Nat renaming reduceAdd -> xA, reduceLT -> xL, reduceLeDiff -> xD, reduceEqDiff -> xE, reduceMul -> xM, reduceSub -> xS, reduceBEq -> xB
theorem amV : fO Tryz.prog 56 = some [.iv (.g (.slice none 0 0))] := by kernel_rfl
attribute [go_sem] amV
end Go.Proofs.YtcfechepbamhkaaGreat
set_option maxRecDepth 100000
set_option maxHeartbeats 4000000
namespace Go.Proofs.YtcfechepbamhkaaGreat
open Go.RowKit Go.Sea
open Nat renaming reduceAdd -> xA, reduceLT -> xL, reduceLeDiff -> xD, reduceEqDiff -> xE, reduceMul -> xM, reduceSub -> xS, reduceBEq -> xB
theorem akO : lD Tryz.prog 96 = some (false, 1) := by kernel_rfl
theorem ani : fO Tryz.prog 96 = some [.iv (.g (.nilFunc))] := by kernel_rfl
attribute [go_sem] akO ani
end Go.Proofs.YtcfechepbamhkaaGreat
namespace Go.Proofs.YtcfechepbamhkaaGreat
open Go.RowKit Go.Sea
def kW (l : List Int) (k : Int) : Option PT := if l.contains k = true then some (.one (.g (.bool true))) else none
theorem eU : kW [] = fun _ => none := rfl
theorem Gx {l : List Int} {k : Int} (h : l.contains k = true) : kW l k = some (.one (.g (.bool true))) := by unfold kW; rw [if_pos h]
theorem FU {l : List Int} {k : Int} (h : l.contains k = false) : kW l k = none := by unfold kW; rw [if_neg (by rw [h]; simp)]
theorem Yk (l : List Int) (k : Int) : jI (kW l) k (.one (.g (.bool true))) = kW (l ++ [k]) := by
  funext j
  unfold jI kW
  by_cases h : j = k
  · rw [if_pos h, if_pos (by simp [h])]
  · rw [if_neg h]
    have : (l ++ [k]).contains j = l.contains j := by
      rw [Bool.eq_iff_iff]; simp [h]
    rw [this]
theorem aaK {l : List Int} {k : Int} {n : Nat} (h : l.contains k = false) : lC n (kW l) k = n + 1 := by unfold lC; rw [FU h]; rfl
def nuL (l : List E9) (i : Nat) : List Int := (List.range i).map fun j => (l.getD j uZ).nu
structure VS (l : List E9) : Prop where
  n : l.length <= 200
  nu : ∀ i, i < l.length -> 1 <= (l.getD i uZ).nu /\ (l.getD i uZ).nu <= 10000
  r : ∀ i j, i < j -> j < l.length -> (l.getD i uZ).nu < (l.getD j uZ).nu
  q : ∀ i, i < l.length -> (l.getD i uZ).q <= 200
  s : ∀ i, i < l.length -> ∀ j, 0 < j -> j < (l.getD i uZ).q -> (l.getD i uZ).a (j - 1) < (l.getD i uZ).a j
  a : ∀ i, i < l.length -> ∀ j, j < (l.getD i uZ).q -> (nuL l i).contains ((l.getD i uZ).a j) = true
theorem acj {l : List E9} {i : Nat} {x : Int} : (nuL l i).contains x = true ↔ ∃ j, j < i /\ (l.getD j uZ).nu = x := by
  unfold nuL; simp
theorem VS.new {l : List E9} (h : VS l) {i : Nat} (hi : i < l.length) : (nuL l i).contains (l.getD i uZ).nu = false := by
  cases e : (nuL l i).contains (l.getD i uZ).nu with
  | false => rfl
  | true =>
    obtain ⟨j, h1, h2⟩ := acj.1 e
    have := h.r j i h1 hi
    omega
structure DS (k : Nat) (d : Nat -> Int) : Prop where
  kk : k <= 200
  r : ∀ i j, i < j -> j < k -> d i < d j
  b : ∀ i, i < k -> 1 <= d i /\ d i <= 10000
theorem DS.new {k : Nat} {d : Nat -> Int} (h : DS k d) {i : Nat} (hi : i < k) : (jZ i d).contains (d i) = false := by
  rw [OT]
  exact decide_eq_false fun ⟨j, h1, h2⟩ => by have := h.r j i h1 hi; omega
end Go.Proofs.YtcfechepbamhkaaGreat
namespace Go.Proofs.YtcfechepbamhkaaGreat
open Go.RowKit Go.Sea
def wF (l : List Int) (x : Int) : List Int := if l.contains x = true then l else l ++ [x]
theorem GX {l : List Int} {x : Int} (h : l.contains x = true) : wF l x = l := if_pos h
theorem GR {l : List Int} {x : Int} (h : l.contains x = false) : wF l x = l ++ [x] := if_neg (by rw [h]; simp)
theorem JQ {l : List Int} {x y : Int} : y ∈ wF l x ↔ y ∈ l \/ y = x := by
  cases h : l.contains x
  · rw [GR h]; simp
  · rw [GX h]
    exact ⟨Or.inl, fun g => g.elim id fun e => by rw [e]; exact List.contains_iff_mem.1 h⟩
theorem K7 {l : List Int} {x : Int} (h : l.Nodup) : (wF l x).Nodup := by
  cases e : l.contains x
  · rw [GR e]
    refine List.nodup_append.2 ⟨h, by simp, fun a ha b hb => ?_⟩
    simp only [List.mem_singleton] at hb
    rintro rfl
    rw [hb] at ha
    rw [List.contains_iff_mem.2 ha] at e; cases e
  · rw [GX e]; exact h
theorem U6 (l : List Int) (x : Int) : (wF l x).length <= l.length + 1 := by
  cases h : l.contains x
  · rw [GR h]; simp
  · rw [GX h]; omega
theorem oq (l : List Int) (x : Int) : jI (kW l) x (.one (.g (.bool true))) = kW (wF l x) /\ lC l.length (kW l) x = (wF l x).length := by
  cases h : l.contains x
  · rw [GR h, Yk]; exact ⟨rfl, by rw [aaK h]; simp⟩
  · rw [GX h]
    refine ⟨?_, by unfold lC; rw [Gx h]; rfl⟩
    funext j
    unfold jI
    by_cases e : j = x
    · rw [if_pos e, e, Gx h]
    · rw [if_neg e]
def msP (s : aF) (n : Nat) (N : Nat -> ah) (x : Int) : Bool := !fD s.q s.dn x && !knB n N s.ch x
def OA (s : aF) (n : Nat) (N : Nat -> ah) (a : Nat -> Int) (l : List Int) : Nat -> List Int
  | 0 => l
  | k + 1 => if msP s n N (a k) = true then wF (OA s n N a l k) (a k) else OA s n N a l k
def CJ (s : aF) (n : Nat) (N : Nat -> ah) : Nat -> List Int
  | 0 => []
  | i + 1 => if rU s (N i) = true then OA s n N ((N i).p (jJ (N i) s.ch)).a (CJ s n N i) ((N i).p (jJ (N i) s.ch)).q else CJ s n N i
def Nl (l : List Int) : List Int := l.mergeSort fun x y => decide (x <= y)
def msL (s : aF) (n : Nat) (N : Nat -> ah) : List Int := Nl (CJ s n N n)
theorem jW (s : aF) (n : Nat) (N : Nat -> ah) (a : Nat -> Int) (l : List Int) : OA s n N a l 0 = l := rfl
theorem jX (s : aF) (n : Nat) (N : Nat -> ah) : CJ s n N 0 = [] := rfl
theorem ZR {s : aF} {n : Nat} {N : Nat -> ah} {a : Nat -> Int} {l : List Int} {k : Nat} (h : msP s n N (a k) = true) : OA s n N a l (k + 1) = wF (OA s n N a l k) (a k) := by show (if _ then _ else _) = _; rw [if_pos h]
theorem Ws {s : aF} {n : Nat} {N : Nat -> ah} {a : Nat -> Int} {l : List Int} {k : Nat} (h : msP s n N (a k) = false) : OA s n N a l (k + 1) = OA s n N a l k := by show (if _ then _ else _) = _; rw [if_neg (by rw [h]; simp)]
theorem Y7 {s : aF} {n : Nat} {N : Nat -> ah} {i : Nat} (h : rU s (N i) = true) : CJ s n N (i + 1) = OA s n N ((N i).p (jJ (N i) s.ch)).a (CJ s n N i) ((N i).p (jJ (N i) s.ch)).q := by show (if _ then _ else _) = _; rw [if_pos h]
theorem Vx {s : aF} {n : Nat} {N : Nat -> ah} {i : Nat} (h : rU s (N i) = false) : CJ s n N (i + 1) = CJ s n N i := by show (if _ then _ else _) = _; rw [if_neg (by rw [h]; simp)]
theorem Pf (s : aF) (n : Nat) (N : Nat -> ah) (a : Nat -> Int) (l : List Int) : ∀ k, (OA s n N a l k).length <= l.length + k
  | 0 => Nat.le_refl _
  | k + 1 => by
    have ih := Pf s n N a l k
    cases h : msP s n N (a k)
    · rw [Ws h]; omega
    · rw [ZR h]; have := U6 (OA s n N a l k) (a k); omega
theorem E5 {s : aF} {n : Nat} {N : Nat -> ah} {a : Nat -> Int} {l : List Int} (hl : l.Nodup) : ∀ k, (OA s n N a l k).Nodup
  | 0 => hl
  | k + 1 => by
    have ih := E5 (s := s) (n := n) (N := N) (a := a) hl k
    cases h : msP s n N (a k)
    · rw [Ws h]; exact ih
    · rw [ZR h]; exact K7 ih
theorem og (s : aF) (n : Nat) (N : Nat -> ah) : ∀ i, (CJ s n N i).Nodup
  | 0 => List.nodup_nil
  | i + 1 => by
    cases h : rU s (N i)
    · rw [Vx h]; exact og s n N i
    · rw [Y7 h]; exact E5 (og s n N i) _
theorem MB {s : aF} {N : ah} (h : rU s N = true) : iK N s.ch = true := by
  unfold rU kN at h; simp only [Bool.and_eq_true] at h; exact h.1.2
theorem Zq {N : ah} {ch : Int} (h : iK N ch = true) (hb : iy N = true) : (N.p (jJ N ch)).q <= 100 := by
  have h1 := (of_decide_eq_true hb).2 (jJ N ch) (of_decide_eq_true h)
  exact (of_decide_eq_true h1.2).1.2.1
theorem PW {s : aF} {n : Nat} {N : Nat -> ah} (hb : ∀ i, i < n -> iy (N i) = true) : ∀ i, i <= n -> (CJ s n N i).length <= 100 * i
  | 0, _ => Nat.le_refl _
  | i + 1, hi => by
    have ih := PW hb (s := s) i (by omega)
    cases h : rU s (N i)
    · rw [Vx h]; omega
    · rw [Y7 h]
      have h1 := Pf s n N ((N i).p (jJ (N i) s.ch)).a (CJ s n N i) ((N i).p (jJ (N i) s.ch)).q
      have h2 := Zq (MB h) (hb i (by omega))
      omega
theorem Nc {a b : List Int} (h : a.Perm b) (hs : a.Pairwise (fun x y => x <= y)) : a = Nl b := by
  refine (h.trans (List.mergeSort_perm b _).symm).eq_of_pairwise (le := fun x y => decide (x <= y)) (fun x y _ _ h1 h2 => ?_) (hs.imp fun h => decide_eq_true h) (List.pairwise_mergeSort (by intro a b c; simp only [decide_eq_true_eq]; omega) (by intro a b; simp only [Bool.or_eq_true, decide_eq_true_eq]; omega) _)
  have h1 := of_decide_eq_true h1; have h2 := of_decide_eq_true h2; omega
theorem abN (l : List Int) : (Nl l).length = l.length := List.length_mergeSort l
end Go.Proofs.YtcfechepbamhkaaGreat
set_option maxRecDepth 100000
set_option maxHeartbeats 4000000
namespace Go.Proofs.YtcfechepbamhkaaGreat
open Go.RowKit Go.Sea
open Nat renaming reduceAdd -> xA, reduceLT -> xL, reduceLeDiff -> xD, reduceEqDiff -> xE, reduceMul -> xM, reduceSub -> xS, reduceBEq -> xB
theorem UZ : aM Tryz.prog 124 = true := by kernel_rfl
theorem aeh : aM Tryz.prog 75 = true := by kernel_rfl
theorem acZ : aM Tryz.prog 76 = true := by kernel_rfl
attribute [go_sem] UZ aeh acZ
def stU (f : aj) (ch : Int) : Int := if iO f ch = 0 then UpV (f.S (iN f ch)) f.n f.N else 0
def Ep (f : aj) (ch : Int) : List Int := if iO f ch = 0 then msL (f.S (iN f ch)) f.n f.N else []
theorem an7 {f : aj} {ch : Int} (h : iO f ch ≠ 0) : stU f ch = 0 /\ Ep f ch = [] := by unfold stU Ep; rw [if_neg h, if_neg h]; exact ⟨rfl, rfl⟩
theorem ahU {f : aj} {ch : Int} (h : iO f ch = 0) : stU f ch = UpV (f.S (iN f ch)) f.n f.N /\ Ep f ch = msL (f.S (iN f ch)) f.n f.N := by unfold stU Ep; rw [if_pos h, if_pos h]; exact ⟨rfl, rfl⟩
theorem amA {f : aj} {ch : Int} (h : iO f ch = 0) : UpE (f.S (iN f ch)) f.n f.N = 0 := by
  have ha := rX h
  unfold UpE zw
  rw [((iJ ha.2.2.2).2.1 _ ha.2.1).1, (iJ ha.2.2.2).2.2]; rfl
end Go.Proofs.YtcfechepbamhkaaGreat
set_option maxRecDepth 100000
set_option maxHeartbeats 4000000
namespace Go.Proofs.YtcfechepbamhkaaGreat
open Go.RowKit Go.Sea
open Nat renaming reduceAdd -> xA, reduceLT -> xL, reduceLeDiff -> xD, reduceEqDiff -> xE, reduceMul -> xM, reduceSub -> xS, reduceBEq -> xB
theorem VE : aM Tryz.prog 122 = true := by kernel_rfl
theorem Pm : aM Tryz.prog 71 = true := by kernel_rfl
theorem OV : aM Tryz.prog 73 = true := by kernel_rfl
theorem Ui : JI Tryz.prog 112 = some 4 := by kernel_rfl
theorem ajx : lD Tryz.prog 112 = some (false, 1) := by kernel_rfl
theorem ahH : fO Tryz.prog 112 = some [.iv (.g (.map none))] := by kernel_rfl
attribute [go_sem] Pm OV Ui ajx ahH
def Ml (N : Nat -> ah) (ch : Int) : Nat -> List Int
  | 0 => []
  | i + 1 => if kN (N i) ch = true then wF (Ml N ch i) (N i).nu else Ml N ch i
def thB (l : List Int) (a : Nat -> Int) : Nat -> List Int
  | 0 => l
  | j + 1 => wF (thB l a j) (a j)
theorem jP (N : Nat -> ah) (ch : Int) : Ml N ch 0 = [] := rfl
theorem agu {N : Nat -> ah} {ch : Int} {i : Nat} (h : kN (N i) ch = true) : Ml N ch (i + 1) = wF (Ml N ch i) (N i).nu := by show (if _ then _ else _) = _; rw [if_pos h]
theorem agD {N : Nat -> ah} {ch : Int} {i : Nat} (h : kN (N i) ch = false) : Ml N ch (i + 1) = Ml N ch i := by show (if _ then _ else _) = _; rw [if_neg (by rw [h]; simp)]
theorem jU (l : List Int) (a : Nat -> Int) : thB l a 0 = l := rfl
theorem agH (l : List Int) (a : Nat -> Int) (j : Nat) : thB l a (j + 1) = wF (thB l a j) (a j) := rfl
theorem OX {N : Nat -> ah} {ch x : Int} : ∀ {i : Nat}, x ∈ Ml N ch i ↔ ∃ j, j < i /\ (N j).nu = x /\ kN (N j) ch = true
  | 0 => ⟨fun h => absurd h List.not_mem_nil, fun ⟨j, h, _⟩ => absurd h (Nat.not_lt_zero j)⟩
  | i + 1 => by
    have ih := @OX N ch x i
    cases h : kN (N i) ch
    · rw [agD h, ih]
      exact ⟨fun ⟨j, h1, h2⟩ => ⟨j, by omega, h2⟩, fun ⟨j, h1, h2⟩ => ⟨j, by
        by_cases e : j = i
        · rw [e, h] at h2; exact absurd h2.2 (by simp)
        · omega, h2⟩⟩
    · rw [agu h, JQ, ih]
      constructor
      · rintro (⟨j, h1, h2⟩ | e)
        · exact ⟨j, by omega, h2⟩
        · exact ⟨i, by omega, e.symm, h⟩
      · rintro ⟨j, h1, h2⟩
        by_cases e : j = i
        · subst e; exact Or.inr h2.1.symm
        · exact Or.inl ⟨j, by omega, h2⟩
theorem Ob {l : List Int} {a : Nat -> Int} {x : Int} : ∀ {q : Nat}, x ∈ thB l a q ↔ x ∈ l \/ ∃ j, j < q /\ a j = x
  | 0 => ⟨Or.inl, fun h => h.elim id fun ⟨j, h, _⟩ => absurd h (Nat.not_lt_zero j)⟩
  | q + 1 => by
    rw [agH, JQ, @Ob l a x q]
    constructor
    · rintro ((h | ⟨j, h1, h2⟩) | h)
      · exact Or.inl h
      · exact Or.inr ⟨j, by omega, h2⟩
      · exact Or.inr ⟨q, by omega, h.symm⟩
    · rintro (h | ⟨j, h1, h2⟩)
      · exact Or.inl (Or.inl h)
      · by_cases e : j = q
        · subst e; exact Or.inr h2.symm
        · exact Or.inl (Or.inr ⟨j, by omega, h2⟩)
theorem aga {s : aF} {n : Nat} {N : Nat -> ah} {ch x : Int} (hc : s.ch = ch) : msP s n N x = !(thB (Ml N ch n) s.dn s.q).contains x := by
  have h : (thB (Ml N ch n) s.dn s.q).contains x = (knB n N ch x || fD s.q s.dn x) := by
    rw [Bool.eq_iff_iff, List.contains_iff_mem, Bool.or_eq_true]
    rw [Ob, OX]
    refine or_congr ?_ ?_
    · unfold knB; simp only [List.any_eq_true, List.mem_range, Bool.and_eq_true, decide_eq_true_eq]
    · unfold fD; simp only [decide_eq_true_eq]
  rw [h]; unfold msP; rw [hc]
  cases knB n N ch x <;> cases fD s.q s.dn x <;> rfl
theorem Oq {l ks : List Int} (hl : l.Nodup) (hn : ks.Nodup) (hk : ∀ x, x ∈ ks -> kW l x ≠ none) (ha : ∀ x, (kW l x).isSome = true -> x ∈ ks) : ks.reverse.mergeSort (fun x y => decide (x <= y)) = Nl l /\ ks.length = l.length := by
  have hm : ∀ x, x ∈ ks ↔ x ∈ l := fun x => by
    constructor
    · intro h
      have := hk x h
      cases e : l.contains x
      · exact absurd (FU e) this
      · exact List.contains_iff_mem.1 e
    · intro h
      exact ha x (by rw [Gx (List.contains_iff_mem.2 h)]; rfl)
  have hp : ks.Perm l := (List.perm_ext_iff_of_nodup hn hl).2 hm
  refine ⟨?_, hp.length_eq⟩
  refine Nc (((List.mergeSort_perm _ _).trans (List.reverse_perm ks)).trans hp) ((List.pairwise_mergeSort (le := fun x y => decide (x <= y)) (by intro a b c; simp only [decide_eq_true_eq]; omega) (by intro a b; simp only [Bool.or_eq_true, decide_eq_true_eq]; omega) _).imp fun h => of_decide_eq_true h)
theorem abB {l ks : List Int} (hl : l.Nodup) (hn : ks.Nodup) (hk : ∀ x, x ∈ ks -> kW l x ≠ none) {kk : Int} {yy : PT} (hy : kW l kk = some yy) (hnn : ¬ kk ∈ ks) : (kk :: ks).Nodup /\ (∀ x, x ∈ kk :: ks -> kW l x ≠ none) /\ ks.length + 1 <= l.length := by
  have h1 : (kk :: ks).Nodup := List.nodup_cons.2 ⟨hnn, hn⟩
  have h2 : ∀ x, x ∈ kk :: ks -> kW l x ≠ none := fun x hx => by
    rcases List.mem_cons.1 hx with e | e
    · rw [e, hy]; simp
    · exact hk x e
  refine ⟨h1, h2, ?_⟩
  have := uL h1 (m := l) fun x hx => by
    cases e : l.contains x
    · exact absurd (FU e) (h2 x hx)
    · exact List.contains_iff_mem.1 e
  simpa using this
theorem ag9 {l ks : List Int} (hl : l.Nodup) (hll : l.length <= 100000) (hn : ks.Nodup) (hk : ∀ x, x ∈ ks -> kW l x ≠ none) (ha : ∀ x, (kW l x).isSome = true -> x ∈ ks) (i : Nat) {H : List (Option (List CV))} (hH : hget H i = some (dY ks.reverse)) : iD Tryz.prog 121 [.one (.slc i 0 ks.length 1)] H (.tup []) (hset H i (dY (Nl l))) := by
  have h0 := Oq hl hn hk ha
  have h1 := ZJ ks.reverse (by rw [List.length_reverse]; omega) i H hH
  rw [List.length_reverse, h0.1] at h1
  exact h1
theorem akQ (f : aj) (hf : f.Ok) (ch : Int) (h0 : iO f ch ≠ 0) : aA Tryz.prog 29 [j6 f, .one (.g (.int .i64 ch))] (.tup [.one (.g (.int .i64 (stU f ch))), .one (.lst 1 (Ep f ch).length (bC (zL (Ep f ch)))), .one (.g (.int .i64 (iO f ch)))]) := by
  refine ak Tryz.func29 rfl (by rw [Tryz.ntmps29]; simp) ?_
  simp only [Tryz.ntmps29, zM, PT.tv, au, Nat.zero_add, Nat.reduceAdd]
  repeat' (first
 | ((with_reducible show AW _ _ _ _); first
 | (with_reducible first | refine aS (fun K hK => ?_) | refine aT ?_ | refine aC ?_)
 | (first
 | (with_reducible first | refine aP 0 [0,1,66] ?_ | refine aP 1 [2,3,66] ?_ | refine aP 2 [2,3,7,8,66] ?_ | refine aP 3 [8] ?_)))
 | ((first | (with_reducible refine And.intro ?_ ?_) | (with_reducible refine Need.mk ?_)); focus (exact True.intro))
 | (with_reducible refine aK ?_)
 | ((with_reducible show bL _ _ _ _ _ _); first
 | ((with_reducible refine aN ?_ ?_) <;> (intro hc; (try simp only [zB, zC, reduceCtorEq] at hc); (try (exfalso; contradiction)))))
 | ((with_reducible show aZ _ _ _ _ _ _ _ _ _ _); first
 | (refine aG (k := 45) jD (mH f hf ch) ?_ ?_))
 | ((fail_if_success (with_reducible show AW _ _ _ _)); simp (maxSteps := 2000000) only [go_sem, reduceIte, reduceCtorEq, xA, xL, xD, xE, xM, xS, xB, Tryz.f29, dh, cB, cK, cO, cu, cZ, bZ, bY, bX, dw, bJ, bH, bI, bC, h0])
 | ((with_reducible refine hK _ ?_); clear hK K))
  all_goals (have e := an7 h0; rw [e.1, e.2]; (repeat' (first | exact rfl | (with_reducible refine And.intro ?_ ?_))))
theorem ak6 (f : aj) (hf : f.Ok) (ch : Int) (h0 : iO f ch = 0) : aA Tryz.prog 29 [j6 f, .one (.g (.int .i64 ch))] (.tup [.one (.g (.int .i64 (stU f ch))), .one (.lst 1 (Ep f ch).length (bC (zL (Ep f ch)))), .one (.g (.int .i64 (iO f ch)))]) := by
  have hn := hf.n
  have hk := hf.k
  have ha := rX h0
  have ha1 := ha.1
  have ha2 := ha.2.1
  have hn2 := (kP (iJ ha.2.2.2).2.2).1
  have hnt := (iJ ha.2.2.2).2.2
  have hnb := fun i hi => ((kP hnt).2 i hi).1
  have hso := hf.s _ ha2
  have hup := amA h0
  have hch := ha.2.2.1
  have hqq : (f.S (iN f ch)).q <= 200 := Jt ((iJ ha.2.2.2).2.1 _ ha2).1
  have hrl := fun i hi => PW (s := f.S (iN f ch)) hnb i hi
  have mk1 : True := trivial
  have hps : True := trivial
  have hlk : True := trivial
  have mk2 : True := trivial
  have hrn : (CJ (f.S (iN f ch)) f.n f.N f.n).length <= 20000 := by have := hrl f.n (Nat.le_refl _); omega
  refine ak Tryz.func29 rfl (by rw [Tryz.ntmps29]; simp) ?_
  simp only [Tryz.ntmps29, zM, PT.tv, au, Nat.zero_add, Nat.reduceAdd]
  repeat' (first
 | ((refine mJ ?_ ?_) <;> (intro hc; (try rw [hc]); (try simp only [zB, zC, reduceCtorEq] at hc); ((try (clear mk1; have hwt : rU (f.S (iN f ch)) (f.N i) = true := WA (by assumption); have hpb : iK (f.N i) ch = true := hch ▸ MB hwt; have hpj := of_decide_eq_true hpb; have hps : fQ (f.N i) ch = ((f.N i).p (jJ (f.N i) ch)) := oF hpb; have hpq : ((f.N i).p (jJ (f.N i) ch)).q <= 100 := Zq hpb (hnb i (by omega)); have hPo := (hf.nn i (by omega)).p _ hpj)); (try (have e0 : ((f.N i).p (jJ (f.N i) ch)).q = k := (by omega); subst e0)); (try (have e0 : f.n = i := (by omega); subst e0)); (try (have e0 : (f.S (iN f ch)).q = j := (by omega); subst e0))); (try (exfalso; contradiction))))
 | (clear mk2; have hkm := abB (og _ _ _ _) hnd hks hyy hnn)
 | ((with_reducible show AW _ _ _ _); first
 | (with_reducible first | refine aS (fun K hK => ?_) | refine aI ?_ | refine aX ?_ | refine aT ?_ | refine aC ?_ | refine aB ?_)
 | ((refine eT (k := 91) rfl Tryz.func91 rfl Aj (by rw [Tryz.ntmps91]; simp) ?_ ?_ (fun l hlne A B hA hB => ?_)); (focus (simp (maxSteps := 2000000) only [go_sem, reduceIte, reduceCtorEq, xA, xL, xD, xE, xM, xS, xB, Tryz.f29, Tryz.f91, Tryz.f122, Tryz.f46, Tryz.f73, Tryz.f72, Tryz.f120, Tryz.f157, dh, cB, cK, cO, cu, cZ, bZ, bY, bX, dw, bJ, bH, bI, bC, h0, ha1, hps, hlk, hup, jP, jU, jX, jW, eU, bf, List.length_reverse, bD, bV, maxLen]; try exact True.intro)); (focus (simp (maxSteps := 2000000) only [go_sem, reduceIte, reduceCtorEq, xA, xL, xD, xE, xM, xS, xB, Tryz.f29, Tryz.f91, Tryz.f122, Tryz.f46, Tryz.f73, Tryz.f72, Tryz.f120, Tryz.f157, dh, cB, cK, cO, cu, cZ, bZ, bY, bX, dw, bJ, bH, bI, bC, h0, ha1, hps, hlk, hup, jP, jU, jX, jW, eU, bf, List.length_reverse, bD, bV, maxLen]; try exact True.intro)); simp only [Tryz.ntmps91, List.map_cons, List.map_nil, LV.tv, au, yV, Nat.zero_add, Nat.reduceAdd]; clear hlne)
 | ((refine eT (k := 122) rfl Tryz.func122 rfl VE (by rw [Tryz.ntmps122]; simp) ?_ ?_ (fun l hlne A B hA hB => ?_)); (focus (simp (maxSteps := 2000000) only [go_sem, reduceIte, reduceCtorEq, xA, xL, xD, xE, xM, xS, xB, Tryz.f29, Tryz.f91, Tryz.f122, Tryz.f46, Tryz.f73, Tryz.f72, Tryz.f120, Tryz.f157, dh, cB, cK, cO, cu, cZ, bZ, bY, bX, dw, bJ, bH, bI, bC, h0, ha1, hps, hlk, hup, jP, jU, jX, jW, eU, bf, List.length_reverse, bD, bV, maxLen]; try exact True.intro)); (focus (simp (maxSteps := 2000000) only [go_sem, reduceIte, reduceCtorEq, xA, xL, xD, xE, xM, xS, xB, Tryz.f29, Tryz.f91, Tryz.f122, Tryz.f46, Tryz.f73, Tryz.f72, Tryz.f120, Tryz.f157, dh, cB, cK, cO, cu, cZ, bZ, bY, bX, dw, bJ, bH, bI, bC, h0, ha1, hps, hlk, hup, jP, jU, jX, jW, eU, bf, List.length_reverse, bD, bV, maxLen]; try exact True.intro)); simp only [Tryz.ntmps122, List.map_cons, List.map_nil, LV.tv, au, yV, Nat.zero_add, Nat.reduceAdd]; clear hlne)
 | (with_reducible refine vN (by assumption) ?_)
 | (first
 | (with_reducible first | refine aP 0 [0,1,2,7,66] ?_ | refine aP (ops := #[⟨some 23, _, _, _, _, _⟩, _, _, _, _, _, _, _]) 1 [2,3,66] ?_ | refine aP (ops := #[⟨some 9, _, _, _, _, _⟩]) 1 [0,2,6,7,8] ?_ | refine aP (ops := #[⟨some 6, _, _, _, _, _⟩, _]) 1 [0,5] ?_ | refine aP (ops := #[⟨some 5, _, _, _, _, _⟩, _]) 1 [2,3] ?_ | refine aP (ops := #[⟨some 3, _, _, _, _, _⟩, _]) 1 [1] ?_ | refine aP (ops := #[⟨some 4, _, _, _, _, _⟩, _, _]) 1 [0] ?_ | refine aP (ops := #[⟨some 3, _, _, _, _, _⟩, _, _]) 1 [0] ?_ | refine aP (ops := #[⟨some 6, _, _, _, _, _⟩]) 1 [1,2,7] ?_ | refine aP (ops := #[⟨some 28, _, _, _, _, _⟩, _]) 2 [2,3,7,8,66] ?_ | refine aP (ops := #[⟨some 10, _, _, _, _, _⟩, _, _, _]) 2 [0,2,6,7,8] ?_ | refine aP (ops := #[⟨some 8, _, _, _, _, _⟩, _, _]) 2 [0,5] ?_ | refine aP (ops := #[⟨some 6, _, _, _, _, _⟩, _]) 2 [3] ?_ | refine aP (ops := #[⟨some 5, _, _, _, _, _⟩]) 2 [2,7] ?_ | refine aP (ops := #[⟨some 12, _, _, _, _, _⟩, _, _, _, _, _, _, _, _, _, _, _, _, _, _, _, _, _]) 3 [0,2,5,6,7,8] ?_ | refine aP (ops := #[⟨some 10, _, _, _, _, _⟩, _, _, _]) 3 [0,3,5] ?_ | refine aP (ops := #[⟨some 8, _, _, _, _, _⟩, _]) 3 [3] ?_ | refine aP (ops := #[⟨some 8, _, _, _, _, _⟩, _, _, _, _]) 3 [2,5,7] ?_ | refine aP (ops := #[⟨some 31, _, _, _, _, _⟩, _, _, _, _, _, _]) 4 [2,3,7,66] ?_ | refine aP (ops := #[⟨some 30, _, _, _, _, _⟩, _]) 4 [0,2,6,7,8] ?_ | refine aP (ops := #[⟨some 12, _, _, _, _, _⟩, _]) 4 [2] ?_ | refine aP 5 [2,3,9,66] ?_ | refine aP 6 [2,3,9,10,66] ?_ | refine aP 7 [2,3,9,10,38,39,40,66] ?_ | refine aP 8 [2,3,9,10,38,39,40,66] ?_ | refine aP 9 [2,3,9,10,12,38,39,40,66] ?_ | refine aP 10 [2,3,9,10,12,38,39,40,66] ?_ | refine aP 11 [2,3,9,10,38,39,40,66] ?_ | refine aP 12 [2,3,9,10,66] ?_ | refine aP 13 [2,3,9,10,52,53,54,66] ?_ | refine aP 14 [2,3,9,10,52,53,54,66] ?_ | refine aP 15 [2,3,9,10,14,52,53,54,66] ?_ | refine aP 16 [2,3,9,10,52,53,54,66] ?_ | refine aP 17 [2,3,9,10,66] ?_ | refine aP 18 [2,3,9,10,15,66] ?_ | refine aP 19 [2,3,9,10,15,66] ?_ | refine aP 20 [2,3,9,10,15,16,66] ?_ | refine aP 21 [2,3,9,10,15,17,66] ?_ | refine aP 22 [2,3,9,10,15,66,74,75,76] ?_ | refine aP 23 [2,3,9,10,15,66,74,75,76] ?_ | refine aP 24 [2,3,9,10,15,20,66,74,75,76] ?_ | refine aP 25 [2,3,9,10,15,20,66,74,75,76] ?_ | refine aP 26 [2,3,9,10,15,66,74,75,76] ?_ | refine aP 27 [2,9,15] ?_ | refine aP 28 [8,15,21] ?_))
 | ((with_reducible show AW _ (Code.loop _) _ _); first
 | ((with_reducible refine aL (c := (Code.seq (Code.region 7 _ _) _)) (ι := Nat) [2,3,9,10,38,39,66] (fun i => [(40, iA .i64 (i : Int))]) (fun i => [(3, [.mi none (Ml f.N ch i).length (kW (Ml f.N ch i))])]) (fun i => i <= f.n) (fun i => f.n - i) 0 ?lg7 ?l17 ?l27 ?li7 ?lr7); (case' lg7 => rintro i _); (case' li7 => try (omega)); (case' lr7 => rintro i hi KR hR7; simp only [bG, dL, hset, lk, if_true, if_false, xE, reduceIte, zN, dh, cB, cK, cO, cu, cZ, bZ, bY, bX, dw, bJ, bH, bI, h0, ha1, hps, hlk, hup, jP, jU, jX, jW, eU, bf, List.length_reverse, bD, bV, maxLen]))
 | ((with_reducible refine aL (c := (Code.seq (Code.region 13 _ _) _)) (ι := Nat) [2,3,9,10,52,53,66] (fun j => [(54, iA .i64 (j : Int))]) (fun j => [(3, [.mi none (thB (Ml f.N ch f.n) (f.S (iN f ch)).dn j).length (kW (thB (Ml f.N ch f.n) (f.S (iN f ch)).dn j))])]) (fun j => j <= (f.S (iN f ch)).q) (fun j => (f.S (iN f ch)).q - j) 0 ?lg13 ?l113 ?l213 ?li13 ?lr13); (case' lg13 => rintro j _); (case' li13 => try (omega)); (case' lr13 => rintro j hj KR hR13; simp only [bG, dL, hset, lk, if_true, if_false, xE, reduceIte, zN, dh, cB, cK, cO, cu, cZ, bZ, bY, bX, dw, bJ, bH, bI, h0, ha1, hps, hlk, hup, jP, jU, jX, jW, eU, bf, List.length_reverse, bD, bV, maxLen]))
 | ((with_reducible refine aL (c := (Code.seq (Code.region 22 _ _) _)) (ι := Nat) [2,3,9,10,15,66,74,75] (fun k => [(76, iA .i64 (k : Int))]) (fun k => [(5, [.mi none (OA (f.S (iN f ch)) f.n f.N ((f.N i).p (jJ (f.N i) ch)).a (CJ (f.S (iN f ch)) f.n f.N i) k).length (kW (OA (f.S (iN f ch)) f.n f.N ((f.N i).p (jJ (f.N i) ch)).a (CJ (f.S (iN f ch)) f.n f.N i) k))])]) (fun k => k <= ((f.N i).p (jJ (f.N i) ch)).q) (fun k => ((f.N i).p (jJ (f.N i) ch)).q - k) 0 ?lg22 ?l122 ?l222 ?li22 ?lr22); (case' lg22 => rintro k _); (case' li22 => try (omega)); (case' lr22 => rintro k hk KR hR22; cases hth : (thB (Ml f.N ch f.n) (f.S (iN f ch)).dn (f.S (iN f ch)).q).contains (((f.N i).p (jJ (f.N i) ch)).a k); all_goals first | (have hlk := FU hth) | (have hlk := Gx hth); simp only [bG, dL, hset, lk, if_true, if_false, xE, reduceIte, zN, dh, cB, cK, cO, cu, cZ, bZ, bY, bX, dw, bJ, bH, bI, h0, ha1, hps, hlk, hup, jP, jU, jX, jW, eU, bf, List.length_reverse, bD, bV, maxLen]))))
 | ((first | (with_reducible refine And.intro ?_ ?_) | (with_reducible refine Need.mk ?_)); focus (first | exact True.intro | omega | (intro _; (with_reducible assumption))))
 | (with_reducible refine aK ?_)
 | ((with_reducible show bL _ _ _ _ _ _); first
 | ((with_reducible refine aN ?_ ?_) <;> (intro hc; (try simp only [zB, zC, reduceCtorEq] at hc); ((try (clear mk1; have hwt : rU (f.S (iN f ch)) (f.N i) = true := WA (by assumption); have hpb : iK (f.N i) ch = true := hch ▸ MB hwt; have hpj := of_decide_eq_true hpb; have hps : fQ (f.N i) ch = ((f.N i).p (jJ (f.N i) ch)) := oF hpb; have hpq : ((f.N i).p (jJ (f.N i) ch)).q <= 100 := Zq hpb (hnb i (by omega)); have hPo := (hf.nn i (by omega)).p _ hpj)); (try (have e0 : ((f.N i).p (jJ (f.N i) ch)).q = k := (by omega); subst e0)); (try (have e0 : f.n = i := (by omega); subst e0)); (try (have e0 : (f.S (iN f ch)).q = j := (by omega); subst e0))); (try (exfalso; contradiction)))))
 | ((with_reducible show aZ _ _ _ _ _ _ _ _ _ _); first
 | (refine aG (k := 45) jD (mH f hf ch) ?_ ?_)
 | (refine aG (k := 70) qP (Di (f.N i) ch (hf.nn i (by omega))) ?_ ?_)
 | (refine aG (k := 70) qP (Di (f.N i) (f.S (iN f ch)).ch (hf.nn i (by omega))) ?_ ?_)
 | (refine aG (k := 60) Al (Gh (f.N i) ch (hf.nn i (by omega))) ?_ ?_)
 | (refine aG (k := 71) Pm (aoX (f.S (iN f ch)) f.n f.N hso hf.n hf.nn) ?_ ?_)
 | (refine lV (k := 121) Du (ag9 (og _ _ _ _) (by have := hrl f.n (Nat.le_refl _); omega) hnd hks hall 12 rfl) ?_ ?_)
 | ((refine bW (k := 46) Tryz.func46 rfl uK (by rw [Tryz.ntmps46]; simp) ?_ ?_ (fun K hK => ?_)); (focus (exact True.intro)); (focus ((simp [iZ]; done))); simp only [Tryz.ntmps46, List.map_cons, List.map_nil, List.nil_append, List.cons_append, List.append_nil, LV.tv, au, Nat.zero_add, Nat.reduceAdd])
 | ((refine bW (k := 73) Tryz.func73 rfl OV (by rw [Tryz.ntmps73]; simp) ?_ ?_ (fun K hK => ?_)); (focus (exact True.intro)); (focus ((simp [iZ]; done))); simp only [Tryz.ntmps73, List.map_cons, List.map_nil, List.nil_append, List.cons_append, List.append_nil, LV.tv, au, Nat.zero_add, Nat.reduceAdd])
 | ((refine bW (k := 72) Tryz.func72 rfl FZ (by rw [Tryz.ntmps72]; simp) ?_ ?_ (fun K hK => ?_)); (focus (exact True.intro)); (focus ((simp [iZ]; done))); simp only [Tryz.ntmps72, List.map_cons, List.map_nil, List.nil_append, List.cons_append, List.append_nil, LV.tv, au, Nat.zero_add, Nat.reduceAdd])
 | ((refine bW (k := 120) Tryz.func120 rfl CF (by rw [Tryz.ntmps120]; simp) ?_ ?_ (fun K hK => ?_)); (focus (exact True.intro)); (focus ((simp [iZ]; done))); simp only [Tryz.ntmps120, List.map_cons, List.map_nil, List.nil_append, List.cons_append, List.append_nil, LV.tv, au, Nat.zero_add, Nat.reduceAdd])
 | ((refine bW (k := 157) Tryz.func157 rfl CQ (by rw [Tryz.ntmps157]; simp) ?_ ?_ (fun K hK => ?_)); (focus (exact True.intro)); (focus ((simp [iZ]; done))); simp only [Tryz.ntmps157, List.map_cons, List.map_nil, List.nil_append, List.cons_append, List.append_nil, LV.tv, au, Nat.zero_add, Nat.reduceAdd]))
 | ((with_reducible show bM _ _ _ _ _ _ _ _ _ _); first
 | (refine aV (k := 92) uV (fun hg => GK (f.S (iN f ch)).q (f.S (iN f ch)).dn (f.N i).nu hso.q) ?_ ?_))
 | ((with_reducible refine hR7 _ (i + 1) ?_); (try clear hR7 KR))
 | ((with_reducible refine hR13 _ (j + 1) ?_); (try clear hR13 KR))
 | (((with_reducible show AW _ (Code.loop (Code.seq (Code.region 1 #[⟨some 9, _, _, _, _, _⟩] _) _)) _ _); with_reducible refine aL (c := (Code.seq (Code.region 1 _ _) _)) (ι := Nat) [0,2,6,7] (fun i => [(8, iA .i64 (i : Int))]) (fun i => [(5, [.mi none (CJ (f.S (iN f ch)) f.n f.N i).length (kW (CJ (f.S (iN f ch)) f.n f.N i))])]) (fun i => i <= f.n) (fun i => f.n - i) 0 ?lg1 ?l11 ?l21 ?li1 ?lr1); (case' lg1 => rintro i _); (case' li1 => try (omega)); (case' lr1 => rintro i hi KR hR1; simp only [bG, dL, hset, lk, if_true, if_false, xE, reduceIte, zN, dh, cB, cK, cO, cu, cZ, bZ, bY, bX, dw, bJ, bH, bI, h0, ha1, hps, hlk, hup, jP, jU, jX, jW, eU, bf, List.length_reverse, bD, bV, maxLen]))
 | ((with_reducible refine hR1 _ (i + 1) ?_); (try clear hR1 KR))
 | ((with_reducible refine hR22 _ (k + 1) ?_); (try clear hR22 KR))
 | (((with_reducible show AW _ (Code.loop (Code.seq (Code.region 1 #[⟨some 6, _, _, _, _, _⟩, _] _) _)) _ _); (with_reducible refine af2 ?_); simp only [ddG, ddE, List.contains_cons, List.contains_nil, Nat.reduceBEq, Bool.or_false, Bool.false_or, Bool.or_true, Bool.true_or, if_true, if_false, Bool.false_eq_true, reduceIte]; with_reducible refine aL (c := (Code.seq (Code.region 1 _ _) _)) (ι := List Int) [0,5] (fun ks => []) (fun ks => [(10, [.slc 12 0 ks.length 1]), (12, dY ks.reverse), (11, [.mt 5 cc (fun q => q ∈ ks) ks.head?])]) (fun ks => ks.Nodup /\ ∀ x, x ∈ ks -> kW (CJ (f.S (iN f ch)) f.n f.N f.n) x ≠ none) (fun ks => (CJ (f.S (iN f ch)) f.n f.N f.n).length - ks.length) [] ?lg1k ?l11k ?l21k ?li1k ?lr1k); (case' lg1k => rintro ks _); (case' li1k => try (exact ⟨List.nodup_nil, fun x h => absurd h (List.not_mem_nil)⟩)); (case' lr1k => rintro ks ⟨hnd, hks⟩ KR hR1k; simp only [bG, dL, hset, lk, if_true, if_false, xE, reduceIte, zN, dh, cB, cK, cO, cu, cZ, bZ, bY, bX, dw, bJ, bH, bI, h0, ha1, hps, hlk, hup, jP, jU, jX, jW, eU, bf, List.length_reverse, bD, bV, maxLen]))
 | ((with_reducible refine hR1k _ (kk :: ks) ?_); (try clear hR1k KR))
 | ((with_reducible refine Told.mk ?_); simp only [go_sem, reduceIte, reduceCtorEq, xA, xL, xD, xE, xM, xS, xB, dh, cB, cK, cO, cu, cZ, bZ, bY, bX, dw, bJ, bH, bI, bC, h0, ha1, hps, hlk, hup, jP, jU, jX, jW, eU, bf, List.length_reverse, bD, bV, maxLen] <;> (first | (((try simp (disch := omega) only [aY, Int.natCast_add, Int.cast_ofNat_Int, and_true, true_and, and_self]); (repeat' (first | omega | rfl | (with_reducible refine And.intro ?_ ?_) | ((rw [agD (by assumption)]; exact Or.inl rfl)) | ((rw [agu (by assumption)]; exact Or.inr ⟨(oq _ _).2, fun k => by rw [(oq _ _).1]; exact oI _⟩)) | ((rw [agH]; exact Or.inr ⟨(oq _ _).2, fun k => by rw [(oq _ _).1]; exact oI _⟩)) | ((rw [Vx (amX (by assumption))]; exact Or.inl rfl)) | ((rw [Y7 (by assumption), hch]; exact Or.inl rfl)) | ((rw [ZR (by rw [aga hch, hth]; rfl)]; exact Or.inr ⟨(oq _ _).2, fun k => by rw [(oq _ _).1]; exact oI _⟩)) | ((rw [Ws (by rw [aga hch, hth]; rfl)]; exact Or.inl rfl)))); done)) | (((try simp (disch := omega) only [aY, Int.natCast_add, Int.cast_ofNat_Int, and_true, true_and, and_self]); (repeat' (first | omega | rfl | (with_reducible refine And.intro ?_ ?_) | ((exact hkm.1)) | ((exact fun e => by rw [hyy] at e; cases e)) | ((exact kZ rfl (iI _))))); done))))
 | ((with_reducible show kM _ _ (Oper.mk _ (Op.range _ _) _ _ _ _) _ _ _); refine zh (by first | exact Ui) (by simp (maxSteps := 2000000) only [go_sem, reduceIte, reduceCtorEq, xA, xL, xD, xE, xM, xS, xB, Tryz.f29, Tryz.f91, Tryz.f122, Tryz.f46, Tryz.f73, Tryz.f72, Tryz.f120, Tryz.f157, dh, cB, cK, cO, cu, cZ, bZ, bY, bX, dw, bJ, bH, bI, bC, h0, ha1, hps, hlk, hup, jP, jU, jX, jW, eU, bf, List.length_reverse, bD, bV, maxLen]; rfl) (by simp (maxSteps := 2000000) only [go_sem, reduceIte, reduceCtorEq, xA, xL, xD, xE, xM, xS, xB, Tryz.f29, Tryz.f91, Tryz.f122, Tryz.f46, Tryz.f73, Tryz.f72, Tryz.f120, Tryz.f157, dh, cB, cK, cO, cu, cZ, bZ, bY, bX, dw, bJ, bH, bI, bC, h0, ha1, hps, hlk, hup, jP, jU, jX, jW, eU, bf, List.length_reverse, bD, bV, maxLen]; rfl) (fun cc => ?_))
 | ((with_reducible show kM _ _ (Oper.mk _ (Op.next _ _) _ _ _ _) _ _ _); refine DV (by simp (maxSteps := 2000000) only [go_sem, reduceIte, reduceCtorEq, xA, xL, xD, xE, xM, xS, xB, Tryz.f29, Tryz.f91, Tryz.f122, Tryz.f46, Tryz.f73, Tryz.f72, Tryz.f120, Tryz.f157, dh, cB, cK, cO, cu, cZ, bZ, bY, bX, dw, bJ, bH, bI, bC, h0, ha1, hps, hlk, hup, jP, jU, jX, jW, eU, bf, List.length_reverse, bD, bV, maxLen]; rfl) (by simp (maxSteps := 2000000) only [go_sem, reduceIte, reduceCtorEq, xA, xL, xD, xE, xM, xS, xB, Tryz.f29, Tryz.f91, Tryz.f122, Tryz.f46, Tryz.f73, Tryz.f72, Tryz.f120, Tryz.f157, dh, cB, cK, cO, cu, cZ, bZ, bY, bX, dw, bJ, bH, bI, bC, h0, ha1, hps, hlk, hup, jP, jU, jX, jW, eU, bf, List.length_reverse, bD, bV, maxLen]; rfl) (by simp (maxSteps := 2000000) only [go_sem, reduceIte, reduceCtorEq, xA, xL, xD, xE, xM, xS, xB, Tryz.f29, Tryz.f91, Tryz.f122, Tryz.f46, Tryz.f73, Tryz.f72, Tryz.f120, Tryz.f157, dh, cB, cK, cO, cu, cZ, bZ, bY, bX, dw, bJ, bH, bI, bC, h0, ha1, hps, hlk, hup, jP, jU, jX, jW, eU, bf, List.length_reverse, bD, bV, maxLen]; rfl) (fun hall => ?_) (fun kk yy hyy hnn => ?_))
 | ((with_reducible show kM _ _ (Oper.mk _ (Op.entry _) _ _ _ _) _ _ _); refine zk (by simp (maxSteps := 2000000) only [go_sem, reduceIte, reduceCtorEq, xA, xL, xD, xE, xM, xS, xB, Tryz.f29, Tryz.f91, Tryz.f122, Tryz.f46, Tryz.f73, Tryz.f72, Tryz.f120, Tryz.f157, dh, cB, cK, cO, cu, cZ, bZ, bY, bX, dw, bJ, bH, bI, bC, h0, ha1, hps, hlk, hup, jP, jU, jX, jW, eU, bf, List.length_reverse, bD, bV, maxLen]; rfl) (by simp (maxSteps := 2000000) only [go_sem, reduceIte, reduceCtorEq, xA, xL, xD, xE, xM, xS, xB, Tryz.f29, Tryz.f91, Tryz.f122, Tryz.f46, Tryz.f73, Tryz.f72, Tryz.f120, Tryz.f157, dh, cB, cK, cO, cu, cZ, bZ, bY, bX, dw, bJ, bH, bI, bC, h0, ha1, hps, hlk, hup, jP, jU, jX, jW, eU, bf, List.length_reverse, bD, bV, maxLen]; rfl) (by simp (maxSteps := 2000000) only [go_sem, reduceIte, reduceCtorEq, xA, xL, xD, xE, xM, xS, xB, Tryz.f29, Tryz.f91, Tryz.f122, Tryz.f46, Tryz.f73, Tryz.f72, Tryz.f120, Tryz.f157, dh, cB, cK, cO, cu, cZ, bZ, bY, bX, dw, bJ, bH, bI, bC, h0, ha1, hps, hlk, hup, jP, jU, jX, jW, eU, bf, List.length_reverse, bD, bV, maxLen]; rfl) (by ((intros; simp_all; done))) (fun yy hyy => ?_))
 | ((fail_if_success (with_reducible show AW _ _ _ _)); simp (maxSteps := 2000000) only [go_sem, reduceIte, reduceCtorEq, xA, xL, xD, xE, xM, xS, xB, Tryz.f29, Tryz.f91, Tryz.f122, Tryz.f46, Tryz.f73, Tryz.f72, Tryz.f120, Tryz.f157, dh, cB, cK, cO, cu, cZ, bZ, bY, bX, dw, bJ, bH, bI, bC, h0, ha1, hps, hlk, hup, jP, jU, jX, jW, eU, bf, List.length_reverse, bD, bV, maxLen])
 | ((with_reducible show aZ _ _ _ _ _ _ (.yld _) _ _ _); (refine lG (by simp only [Fg, if_true]; exact rfl) ?_ (by simp) ?_ ?_ (fun K hK => ?_)); (focus (exact True.intro)); (focus (simp [nk])); (focus ((simp [iZ]; done))); simp only [jm, gf, if_true, Nat.reduceAdd])
 | ((with_reducible refine hK _ ?_); clear hK K)
 | (with_reducible apply_assumption -exfalso only [*]))
  all_goals (have e := ahU h0; rw [e.1, e.2]; have h8 := Oq (og _ _ _ _) hnd hks hall; have h9 := abN (CJ (f.S (iN f ch)) f.n f.N f.n); exact ⟨⟨by omega, fun c hc9 => (by have := iI _ c hc9; cases c <;> trivial)⟩, rfl, by unfold msL; omega, fun i o hi ho => FD _ i o (by omega) ho⟩)
theorem agp (f : aj) (hf : f.Ok) (ch : Int) : aA Tryz.prog 29 [j6 f, .one (.g (.int .i64 ch))] (.tup [.one (.g (.int .i64 (stU f ch))), .one (.lst 1 (Ep f ch).length (bC (zL (Ep f ch)))), .one (.g (.int .i64 (iO f ch)))]) := by
  by_cases h0 : iO f ch = 0
  · exact ak6 f hf ch h0
  · exact akQ f hf ch h0
end Go.Proofs.YtcfechepbamhkaaGreat
namespace Go.Proofs.YtcfechepbamhkaaGreat
open Go.RowKit Go.Sea
theorem agZ (n : Nat) (s : Nat -> Int) : rH n n s s = true := decide_eq_true ⟨rfl, fun _ _ => rfl⟩
theorem Yd (w n : Nat) (P : Nat -> Nat -> Int) : CK w n n P P = true := decide_eq_true ⟨rfl, fun _ _ _ _ => rfl⟩
theorem ahF (f : aW) : uM f f = true := by unfold uM; rw [Yd, Yd, decide_eq_true (by simp)]; rfl
theorem agK (n : Nat) (f : Nat -> aW) : AY n n f f = true := decide_eq_true ⟨rfl, fun i _ => ahF _⟩
theorem Zv (a : aF) : seqB a a = true := by unfold seqB; rw [agZ, agK, decide_eq_true (by simp)]; rfl
structure RcO (f : aj) (M : ah) : Prop where
  v : gy f = true
  m : iy M = true
  n : f.n < 200
  o : 0 < f.n -> (f.N 0).oc = M.oc
  j : ¬ (jr f M < f.n /\ (f.N (jr f M)).nu = M.nu)
theorem aoT {f : aj} {M : ah} (h : qj f M = 0) : RcO f M := ⟨(rC h).1, (rC h).2.1, (rC h).2.2.1, (rC h).2.2.2.1, (rC h).2.2.2.2⟩
theorem RcO.lo {f : aj} {M : ah} (h : RcO f M) {i : Nat} (hi : i < jr f M) : (f.N i).nu < M.nu := (EZ h.v (by have := p9 f M; omega)).2 hi
theorem RcO.hi {f : aj} {M : ah} (h : RcO f M) {i : Nat} (hi : jr f M <= i) (hn : i < f.n) : M.nu < (f.N i).nu := by
  have h1 := mt (EZ (M := M) h.v hn).1 (by omega)
  have h2 : (f.N i).nu ≠ M.nu := fun e => h.j (by have := agi h.v hn e; subst this; exact ⟨hn, e⟩)
  omega
theorem Dh {f : aj} {M : ah} {j i : Nat} (h : i < j) : zD f j M i = f.N i := if_pos h
theorem Hz (f : aj) (M : ah) (j : Nat) : zD f j M j = M := by unfold zD; rw [if_neg (by omega), if_pos rfl]
theorem DJ {f : aj} {M : ah} {j i : Nat} (h : j < i) : zD f j M i = f.N (i - 1) := by unfold zD; rw [if_neg (by omega), if_neg (by omega)]
theorem RcO.nts {f : aj} {M : ah} (h : RcO f M) : pq (f.n + 1) (zD f (jr f M) M) = true := by
  have hJ := p9 f M
  have hN := kP (iJ h.v).2.2
  have hoc : ∀ i, i < f.n + 1 -> (zD f (jr f M) M i).oc = M.oc := fun i hi => by
    rcases Nat.lt_trichotomy i (jr f M) with g | g | g
    · rw [Dh g, (hN.2 i (by omega)).2.1]; exact h.o (by omega)
    · rw [g, Hz]
    · rw [DJ g, (hN.2 (i - 1) (by omega)).2.1]; exact h.o (by omega)
  refine decide_eq_true ⟨by have := h.n; omega, fun i hi => ⟨?_, by rw [hoc i hi, hoc 0 (by omega)], fun h0 => ?_⟩⟩
  · rcases Nat.lt_trichotomy i (jr f M) with g | g | g
    · rw [Dh g]; exact (hN.2 i (by omega)).1
    · rw [g, Hz]; exact h.m
    · rw [DJ g]; exact (hN.2 (i - 1) (by omega)).1
  · rcases Nat.lt_trichotomy i (jr f M) with g | g | g
    · rw [Dh g, Dh (by omega)]; exact (hN.2 i (by omega)).2.2 h0
    · rw [g, Hz, Dh (by omega)]; exact h.lo (by omega)
    · by_cases g2 : i - 1 = jr f M
      · rw [DJ g, g2, Hz]; exact h.hi (Nat.le_refl _) (by omega)
      · rw [DJ g, DJ (by omega)]; exact (hN.2 (i - 1) (by omega)).2.2 (by omega)
theorem RcO.g {f : aj} {M : ah} (h : RcO f M) : gy (rcG f M) = true := by
  have hv := iJ h.v
  unfold gy
  rw [Bool.and_eq_true]
  exact ⟨decide_eq_true ⟨hv.1, hv.2.1⟩, h.nts⟩
theorem aiE {f : aj} (h : gy f = true) : gy (uz f) = true := by
  have hv := iJ h
  unfold gy
  rw [Bool.and_eq_true]
  refine ⟨decide_eq_true ⟨hv.1, fun i hi => ?_⟩, hv.2.2⟩
  have h1 := hv.2.1 i hi
  have h2 := agy (n := f.n) (N := f.N) h1.1
  refine ⟨h2.1, fun h0 => ?_⟩
  have h3 := agy (n := f.n) (N := f.N) (hv.2.1 (i - 1) (by have : i < f.k := hi; omega)).1
  show (rJ (f.S (i - 1)) f.n f.N).ch < (rJ (f.S i) f.n f.N).ch
  rw [h2.2.1, h3.2.1]; exact h1.2 h0
theorem alL {f : aj} {M : ah} (h : qj f M = 0) : gy (dJ f M) = true /\ dJ f M = uz (rcG f M) := ⟨by rw [EO h]; exact aiE (aoT h).g, EO h⟩
theorem aff (f : aj) (i : Nat) : dI ((uz f).S i) f.n f.N = f.n := (V7 (f.S i) f.n f.N).2
theorem ac1 (f : aj) (i : Nat) : (uz (uz f)).S i = (uz f).S i := Ov (aff f i)
end Go.Proofs.YtcfechepbamhkaaGreat
set_option maxRecDepth 100000
set_option maxHeartbeats 4000000
namespace Go.Proofs.YtcfechepbamhkaaGreat
open Go.RowKit Go.Sea
open Nat renaming reduceAdd -> xA, reduceLT -> xL, reduceLeDiff -> xD, reduceEqDiff -> xE, reduceMul -> xM, reduceSub -> xS, reduceBEq -> xB
theorem Ae : aM Tryz.prog 13 = true := by kernel_rfl
theorem Hu : aM Tryz.prog 20 = true := by kernel_rfl
theorem zY : aM Tryz.prog 21 = true := by kernel_rfl
theorem GU : aM Tryz.prog 29 = true := by kernel_rfl
theorem O4 : aM Tryz.prog 39 = true := by kernel_rfl
theorem akq : fM Tryz.prog 35 = true := by kernel_rfl
theorem adC : dA Tryz.prog 28 0 = some (0, 1) := by kernel_rfl
theorem ad1 : dA Tryz.prog 28 1 = some (1, 1) := by kernel_rfl
theorem afL : dA Tryz.prog 28 2 = some (2, 1) := by kernel_rfl
theorem ael : dA Tryz.prog 28 3 = some (3, 1) := by kernel_rfl
theorem ab6 : dA Tryz.prog 28 4 = some (4, 1) := by kernel_rfl
theorem acd : dA Tryz.prog 28 6 = some (6, 1) := by kernel_rfl
theorem afI : dA Tryz.prog 35 0 = some (0, 1) := by kernel_rfl
theorem ads : dA Tryz.prog 35 4 = some (4, 1) := by kernel_rfl
theorem aeI : dA Tryz.prog 39 0 = some (0, 1) := by kernel_rfl
theorem aeF : dA Tryz.prog 39 1 = some (1, 1) := by kernel_rfl
theorem aeL : dA Tryz.prog 39 2 = some (2, 1) := by kernel_rfl
theorem abh : dA Tryz.prog 39 3 = some (3, 7) := by kernel_rfl
theorem ad4 : dA Tryz.prog 39 4 = some (10, 1) := by kernel_rfl
theorem abj : dA Tryz.prog 39 5 = some (11, 1) := by kernel_rfl
theorem acR : dA Tryz.prog 39 6 = some (12, 1) := by kernel_rfl
theorem aeV : dA Tryz.prog 58 0 = some (0, 1) := by kernel_rfl
theorem acT : dA Tryz.prog 58 1 = some (1, 1) := by kernel_rfl
theorem adr : dA Tryz.prog 58 2 = some (2, 1) := by kernel_rfl
theorem ab3 : dA Tryz.prog 64 0 = some (0, 1) := by kernel_rfl
theorem acG : dA Tryz.prog 64 1 = some (1, 1) := by kernel_rfl
theorem abT : dA Tryz.prog 64 5 = some (6, 1) := by kernel_rfl
theorem acu : dA Tryz.prog 64 6 = some (7, 1) := by kernel_rfl
theorem ac5 : dA Tryz.prog 66 5 = some (14, 1) := by kernel_rfl
theorem acF : dA Tryz.prog 66 6 = some (15, 1) := by kernel_rfl
theorem ali : fO Tryz.prog 35 = some [.iv (.g (.int .i64 0)), .iv (.g (.int .i64 0)), .iv (.g (.int .i64 0)), .iv (.g (.int .i64 0)), .iv (.g (.int .i64 0)), .iv (.g (.int .i64 0)), .iv (.g (.int .i64 0))] := by kernel_rfl
attribute [go_sem] Ae Hu zY GU O4 akq adC ad1 afL ael ab6 acd afI ads aeI aeF aeL abh ad4 abj acR aeV acT adr ab3 acG abT acu ac5 acF ali
def opZ (kd d s : Int) : fG := ⟨kd, 1, eG, 0, 0, 0, d, s⟩
def Vq (ch af : Int) (op : fG) : fF := ⟨ch, if 0 < af then 1 else 0, fun _ => af, 1, fun _ => op⟩
def exS : aF := ⟨7, 1, 3, ⟨1000000, 0, 0, 0, 1000000, 0, 0⟩, 500, 1, fun _ => 4, 1, fun _ => ⟨1, 2, 0, 0, 0, 0, fun _ _ => 0, 30, 0, 0, fun _ _ => 0⟩⟩
def jA : Nat -> ah
  | 0 => ⟨1, 5, 1, 0, 0, 0, 1, fun _ => Vq 7 4 (opZ 4 20 0)⟩
  | 1 => ⟨1, 6, 2, 10, 20, 0, 1, fun _ => Vq 7 0 (opZ 4 5 0)⟩
  | 2 => ⟨1, 7, 1, 0, 0, 0, 1, fun _ => Vq 7 5 (opZ 5 0 2)⟩
  | _ => ⟨1, 9, 1, 0, 0, 0, 1, fun _ => Vq 7 8 (opZ 2 0 0)⟩
def exO : ah := { jA 0 with fr := 1 }
def exF : aj := ⟨1, fun _ => exS, 0, fun _ => Em⟩
def exA : aj := dJ exF (jA 2)
def sQ : aj := dJ exA (jA 3)
def nM : aj := dJ sQ (jA 0)
def ou : aj := dJ nM (jA 1)
def exW (d : Int) : Nat -> aW := fun _ => ⟨1, 2, 0, 0, 0, 0, fun _ _ => 0, d, 2, 0, fun _ _ => 0⟩
def g3 (x y z : Int) (i : Nat) : Int := if i = 0 then x else if i = 1 then y else z
theorem aoV : dW exS = true := by kernel_rfl
theorem anZ : qj exF (jA 2) = 0 := by kernel_rfl
theorem aoR : qj exA (jA 3) = 0 := by kernel_rfl
theorem ajA : stU sQ 7 = 0 /\ iO sQ 7 = 0 := ⟨by kernel_rfl, by kernel_rfl⟩
theorem al9 : (CJ (sQ.S 0) 2 sQ.N 2) = [5,8] := by kernel_rfl
theorem ao0 : qj sQ (jA 0) = 0 := by kernel_rfl
theorem Z7 : stU nM 7 = 7 /\ iO nM 7 = 0 := ⟨by kernel_rfl, by kernel_rfl⟩
theorem aoi : qj nM (jA 1) = 0 := by kernel_rfl
theorem amR : I4 ou 7 9 = 0 /\ I4 ou 7 10 = 0 := ⟨by kernel_rfl, by kernel_rfl⟩
theorem aac : qj ou (jA 0) = 5 /\ qj ou exO = 18 /\ iO ou 8 = 4 /\ gy ou = true := ⟨by kernel_rfl, by kernel_rfl, by kernel_rfl, by kernel_rfl⟩
theorem acU : wL sQ 7 = [7,9] /\ wL nM 7 = [9] := ⟨by kernel_rfl, by kernel_rfl⟩
theorem amg : rH (jK nM 7).q 3 (jK nM 7).dn (g3 4 5 7) = true := by kernel_rfl
theorem anr : AY (jK nM 7).n 1 (jK nM 7).f (exW 20) = true := by kernel_rfl
theorem anf : AY (Il ou 7 9) 1 (shF ou 7 9) (exW 20) = true := by kernel_rfl
theorem alV : AY (Il ou 7 10) 1 (shF ou 7 10) (exW 5) = true := by kernel_rfl
theorem an9  : aA Tryz.prog 39 [] (.tup [j6 exF, .one (.lst 7 4 (dX jA))]) := by
  refine ak Tryz.func39 rfl (by rw [Tryz.ntmps39]; simp) ?_
  simp only [Tryz.ntmps39, zM, PT.tv, au, Nat.zero_add, Nat.reduceAdd]
  repeat' (first
 | ((with_reducible show AW _ _ _ _); first
 | (with_reducible first | refine aS (fun K hK => ?_) | refine aT ?_)
 | (first
 | (with_reducible first | refine aP 0 [] ?_ | refine aP 1 [0] ?_ | refine aP 2 [0,2] ?_ | refine aP 3 [0,2,3] ?_ | refine aP 4 [0,2,3,4] ?_ | refine aP 5 [0,2,3,4,5] ?_)
 | ((with_reducible refine qx (c := Code.region 6 _ true) [1,2,4,5,6,8,9,11,12,13,15,16,17] ?nd (aR [0,2,3,4,5,6] ?mn)); (case' mn => ((with_reducible refine aD ?_ ?_ ?_ ?_); (focus kernel_rfl); (focus kernel_rfl); (focus kernel_rfl))))))
 | ((first | (with_reducible refine And.intro ?_ ?_) | (with_reducible refine Need.mk ?_)); focus (exact True.intro))
 | (with_reducible refine aK ?_)
 | ((with_reducible refine And.intro ?_ ?_); focus ((with_reducible show iL _ _ _ = true); kernel_rfl))
 | ((fail_if_success (with_reducible show AW _ _ _ _)); simp (maxSteps := 2000000) only [go_sem, reduceIte, reduceCtorEq, xA, xL, xD, xE, xM, xS, xB, Tryz.f39])
 | ((with_reducible refine hK _ ?_); clear hK K))
  all_goals (refine ⟨⟨⟨rfl, fun i o hi ho => ?_⟩, rfl⟩, fun i o hi ho => ?_⟩)
  · obtain rfl : i = 0 := (by omega)
    rcases (by omega : o = 0 \/ o = 1 \/ o = 2 \/ o = 3 \/ o = 4 \/ o = 5 \/ o = 6 \/ o = 7 \/ o = 8 \/ o = 9 \/ o = 10 \/ o = 11 \/ o = 12) with rfl | rfl | rfl | rfl | rfl | rfl | rfl | rfl | rfl | rfl | rfl | rfl | rfl
    · exact rfl
    · exact rfl
    · exact rfl
    · exact rfl
    · exact rfl
    · exact rfl
    · exact rfl
    · exact rfl
    · exact rfl
    · exact rfl
    · exact rfl
    · (refine ⟨rfl, rfl, fun a b ha hb => ?_⟩; obtain rfl : a = 0 := (by omega); obtain rfl : b = 0 := (by omega); rfl)
    · (refine ⟨rfl, rfl, fun a b ha hb => ?_⟩; obtain rfl : a = 0 := (by omega); rcases (by omega : b = 0 \/ b = 1 \/ b = 2 \/ b = 3 \/ b = 4 \/ b = 5 \/ b = 6 \/ b = 7 \/ b = 8) with rfl | rfl | rfl | rfl | rfl | rfl | rfl | rfl | rfl <;> first | rfl | exact ⟨rfl, rfl⟩)
  · rcases (by omega : i = 0 \/ i = 1 \/ i = 2 \/ i = 3) with rfl | rfl | rfl | rfl
    · rcases (by omega : o = 0 \/ o = 1 \/ o = 2 \/ o = 3 \/ o = 4 \/ o = 5 \/ o = 6) with rfl | rfl | rfl | rfl | rfl | rfl | rfl
      · exact rfl
      · exact rfl
      · exact rfl
      · exact rfl
      · exact rfl
      · exact rfl
      · (refine ⟨rfl, rfl, fun p u hp hu => ?_⟩; obtain rfl : p = 0 := (by omega); rcases (by omega : u = 0 \/ u = 1 \/ u = 2) with rfl | rfl | rfl; exact rfl; (refine ⟨rfl, rfl, fun a b ha hb => ?_⟩; obtain rfl : a = 0 := (by omega); obtain rfl : b = 0 := (by omega); rfl); (refine ⟨rfl, rfl, fun a b ha hb => ?_⟩; obtain rfl : a = 0 := (by omega); rcases (by omega : b = 0 \/ b = 1 \/ b = 2 \/ b = 3 \/ b = 4 \/ b = 5 \/ b = 6 \/ b = 7 \/ b = 8 \/ b = 9 \/ b = 10 \/ b = 11 \/ b = 12 \/ b = 13 \/ b = 14 \/ b = 15) with rfl | rfl | rfl | rfl | rfl | rfl | rfl | rfl | rfl | rfl | rfl | rfl | rfl | rfl | rfl | rfl <;> first | rfl | exact ⟨rfl, rfl⟩))
    · rcases (by omega : o = 0 \/ o = 1 \/ o = 2 \/ o = 3 \/ o = 4 \/ o = 5 \/ o = 6) with rfl | rfl | rfl | rfl | rfl | rfl | rfl
      · exact rfl
      · exact rfl
      · exact rfl
      · exact rfl
      · exact rfl
      · exact rfl
      · (refine ⟨rfl, rfl, fun p u hp hu => ?_⟩; obtain rfl : p = 0 := (by omega); rcases (by omega : u = 0 \/ u = 1 \/ u = 2) with rfl | rfl | rfl; exact rfl; exact ⟨rfl, rfl⟩; (refine ⟨rfl, rfl, fun a b ha hb => ?_⟩; obtain rfl : a = 0 := (by omega); rcases (by omega : b = 0 \/ b = 1 \/ b = 2 \/ b = 3 \/ b = 4 \/ b = 5 \/ b = 6 \/ b = 7 \/ b = 8 \/ b = 9 \/ b = 10 \/ b = 11 \/ b = 12 \/ b = 13 \/ b = 14 \/ b = 15) with rfl | rfl | rfl | rfl | rfl | rfl | rfl | rfl | rfl | rfl | rfl | rfl | rfl | rfl | rfl | rfl <;> first | rfl | exact ⟨rfl, rfl⟩))
    · rcases (by omega : o = 0 \/ o = 1 \/ o = 2 \/ o = 3 \/ o = 4 \/ o = 5 \/ o = 6) with rfl | rfl | rfl | rfl | rfl | rfl | rfl
      · exact rfl
      · exact rfl
      · exact rfl
      · exact rfl
      · exact rfl
      · exact rfl
      · (refine ⟨rfl, rfl, fun p u hp hu => ?_⟩; obtain rfl : p = 0 := (by omega); rcases (by omega : u = 0 \/ u = 1 \/ u = 2) with rfl | rfl | rfl; exact rfl; (refine ⟨rfl, rfl, fun a b ha hb => ?_⟩; obtain rfl : a = 0 := (by omega); obtain rfl : b = 0 := (by omega); rfl); (refine ⟨rfl, rfl, fun a b ha hb => ?_⟩; obtain rfl : a = 0 := (by omega); rcases (by omega : b = 0 \/ b = 1 \/ b = 2 \/ b = 3 \/ b = 4 \/ b = 5 \/ b = 6 \/ b = 7 \/ b = 8 \/ b = 9 \/ b = 10 \/ b = 11 \/ b = 12 \/ b = 13 \/ b = 14 \/ b = 15) with rfl | rfl | rfl | rfl | rfl | rfl | rfl | rfl | rfl | rfl | rfl | rfl | rfl | rfl | rfl | rfl <;> first | rfl | exact ⟨rfl, rfl⟩))
    · rcases (by omega : o = 0 \/ o = 1 \/ o = 2 \/ o = 3 \/ o = 4 \/ o = 5 \/ o = 6) with rfl | rfl | rfl | rfl | rfl | rfl | rfl
      · exact rfl
      · exact rfl
      · exact rfl
      · exact rfl
      · exact rfl
      · exact rfl
      · (refine ⟨rfl, rfl, fun p u hp hu => ?_⟩; obtain rfl : p = 0 := (by omega); rcases (by omega : u = 0 \/ u = 1 \/ u = 2) with rfl | rfl | rfl; exact rfl; (refine ⟨rfl, rfl, fun a b ha hb => ?_⟩; obtain rfl : a = 0 := (by omega); obtain rfl : b = 0 := (by omega); rfl); (refine ⟨rfl, rfl, fun a b ha hb => ?_⟩; obtain rfl : a = 0 := (by omega); rcases (by omega : b = 0 \/ b = 1 \/ b = 2 \/ b = 3 \/ b = 4 \/ b = 5 \/ b = 6 \/ b = 7 \/ b = 8 \/ b = 9 \/ b = 10 \/ b = 11 \/ b = 12 \/ b = 13 \/ b = 14 \/ b = 15) with rfl | rfl | rfl | rfl | rfl | rfl | rfl | rfl | rfl | rfl | rfl | rfl | rfl | rfl | rfl | rfl <;> first | rfl | exact ⟨rfl, rfl⟩))
theorem Ed (q : Nat) (a : Nat -> Int) (m : Nat) (G : Nat -> Int) (F : Nat -> Nat -> IV) (hq : q <= 9223372036854775807) (hm : m <= 9223372036854775807) (h : ∀ i o, i < m -> o < 1 -> (F i o).eqv (.g (.int .i64 (G i)))) : aA Tryz.prog 31 [.one (.lst 1 q (bC a)), .one (.lst 1 m F)] (.t (.one (.g (.bool (rH q m a G))))) :=
  (YI q m a G hq hm).eqv (args' := [.one (.lst 1 q (bC a)), .one (.lst 1 m F)]) ⟨IV.bn _, ⟨rfl, rfl, h⟩, trivial⟩ (PV.bn _)
theorem F4 (n m : Nat) (f g : Nat -> aW) (F : Nat -> Nat -> IV) (hn : n <= 9223372036854775807) (hm : m <= 9223372036854775807) (hf : ∀ i, i < n -> (f i).Ok) (hg : ∀ i, i < m -> (g i).Ok) (h : ∀ i o, i < m -> o < 9 -> (F i o).eqv (dN g i o)) : aA Tryz.prog 23 [.one (.lst 9 n (dN f)), .one (.lst 9 m F)] (.t (.one (.g (.bool (AY n m f g))))) :=
  (OO n m f g hn hm hf hg).eqv (args' := [.one (.lst 9 n (dN f)), .one (.lst 9 m F)]) ⟨IV.bn _, ⟨rfl, rfl, h⟩, trivial⟩ (PV.bn _)
theorem aiA : exS.Ok := wW aoV
theorem mg (i : Nat) : (jA i).Ok := by
  have hp : ∀ (kd d s af : Int), (Vq 7 af (opZ kd d s)).Ok := fun kd d s af => ⟨(show (if 0 < af then 1 else 0 : Nat) <= 9223372036854775807 from by split <;> decide), (show (1 : Nat) <= 9223372036854775807 from by decide), fun k hk => qy⟩
  rcases i with _ | _ | _ | i <;> exact ⟨(show (1 : Nat) <= 9223372036854775807 from by decide), fun j hj => hp _ _ _ _⟩
theorem aiJ : exO.Ok := ⟨(mg 0).n, (mg 0).p⟩
theorem aaT : exF.Ok := ⟨(show (1 : Nat) <= 9223372036854775807 from by decide), fun i _ => aiA, (show (0 : Nat) <= 9223372036854775807 from by decide), fun i h => absurd h (Nat.not_lt_zero i)⟩
theorem Zr : exA.Ok := wQ aaT (mg 2)
theorem Gp : sQ.Ok := wQ Zr (mg 3)
theorem wE : nM.Ok := wQ Gp (mg 0)
theorem tF : ou.Ok := wQ wE (mg 1)
theorem M9 (d : Int) (i : Nat) : (exW d i).Ok := ⟨(show (0 : Nat) <= 9223372036854775807 from by decide), (show (0 : Nat) <= 9223372036854775807 from by decide)⟩
theorem afV : Ep sQ 7 = [5,8] := by
  rw [(ahU ajA.2).2]
  show Nl (CJ (sQ.S (iN sQ 7)) sQ.n sQ.N sQ.n) = _
  have e1 : iN sQ 7 = 0 := by kernel_rfl
  have e2 : sQ.n = 2 := by kernel_rfl
  rw [e1, e2, al9]
  exact (Nc (List.Perm.refl _) (by decide)).symm
theorem ame : CJ (nM.S 0) 3 nM.N 3 = [8] := by kernel_rfl
theorem agC : Ep nM 7 = [8] := by
  rw [(ahU Z7.2).2]
  show Nl (CJ (nM.S (iN nM 7)) nM.n nM.N nM.n) = _
  have e1 : iN nM 7 = 0 := by kernel_rfl
  have e2 : nM.n = 3 := by kernel_rfl
  rw [e1, e2, ame]
  exact (Nc (List.Perm.refl _) (by decide)).symm
theorem alP : rH (Ep sQ 7).length 2 (zL (Ep sQ 7)) (g3 5 8 0) = true := by rw [afV]; decide
theorem akS : rH (Ep nM 7).length 1 (zL (Ep nM 7)) (g3 8 0 0) = true := by rw [agC]; decide
theorem aky : rH (wL sQ 7).length 2 (zL (wL sQ 7)) (g3 7 9 0) = true := by rw [acU.1]; decide
theorem akU : rH (wL nM 7).length 1 (zL (wL nM 7)) (g3 9 0 0) = true := by rw [acU.2]; decide
theorem Px : (Ep sQ 7).length <= 9223372036854775807 /\ (Ep nM 7).length <= 9223372036854775807 /\ (wL sQ 7).length <= 9223372036854775807 /\ (wL nM 7).length <= 9223372036854775807 := by rw [afV, agC, acU.1, acU.2]; decide
theorem Nu : (jK nM 7).Ok := by rw [OM Z7.2]; exact wE.s _ (rX Z7.2).2.1
theorem G9 (t : Int) : Il ou 7 t <= 9223372036854775807 /\ ∀ i, i < Il ou 7 t -> (shF ou 7 t i).Ok := by
  by_cases h : I4 ou 7 t = 0
  · have ha : iO ou 7 = 0 := by kernel_rfl
    have := Mk (f := ou) (ch := 7) (l := mO ou.n ou.N t) (tF.s _ (rX ha).2.1) (mO ou.n ou.N t).length
    unfold Il shF; rw [if_pos h]; exact this
  · unfold Il; rw [if_neg h]; exact ⟨Nat.zero_le _, fun i h => absurd h (Nat.not_lt_zero i)⟩
theorem aij : aA Tryz.prog 12 [j6 exF, .agg [.g (.int .i64 (jA 2).oc), .g (.int .i64 (jA 2).nu), .g (.int .i64 (jA 2).kd), .g (.int .i64 (jA 2).fr), .g (.int .i64 (jA 2).un), .g (.int .i64 (jA 2).ca), .lst 3 (jA 2).n (dZ (jA 2).p)]] (.tup [j6 exA, .one (.g (.int .i64 (0)))]) := by
  have := rY exF aaT (jA 2) (mg 2); rw [anZ] at this; exact this
theorem ai3 : aA Tryz.prog 12 [j6 exA, .agg [.g (.int .i64 (jA 3).oc), .g (.int .i64 (jA 3).nu), .g (.int .i64 (jA 3).kd), .g (.int .i64 (jA 3).fr), .g (.int .i64 (jA 3).un), .g (.int .i64 (jA 3).ca), .lst 3 (jA 3).n (dZ (jA 3).p)]] (.tup [j6 sQ, .one (.g (.int .i64 (0)))]) := by
  have := rY exA Zr (jA 3) (mg 3); rw [aoR] at this; exact this
theorem ajX : aA Tryz.prog 12 [j6 sQ, .agg [.g (.int .i64 (jA 0).oc), .g (.int .i64 (jA 0).nu), .g (.int .i64 (jA 0).kd), .g (.int .i64 (jA 0).fr), .g (.int .i64 (jA 0).un), .g (.int .i64 (jA 0).ca), .lst 3 (jA 0).n (dZ (jA 0).p)]] (.tup [j6 nM, .one (.g (.int .i64 (0)))]) := by
  have := rY sQ Gp (jA 0) (mg 0); rw [ao0] at this; exact this
theorem aiR : aA Tryz.prog 12 [j6 nM, .agg [.g (.int .i64 (jA 1).oc), .g (.int .i64 (jA 1).nu), .g (.int .i64 (jA 1).kd), .g (.int .i64 (jA 1).fr), .g (.int .i64 (jA 1).un), .g (.int .i64 (jA 1).ca), .lst 3 (jA 1).n (dZ (jA 1).p)]] (.tup [j6 ou, .one (.g (.int .i64 (0)))]) := by
  have := rY nM wE (jA 1) (mg 1); rw [aoi] at this; exact this
theorem aoK : aA Tryz.prog 12 [j6 ou, .agg [.g (.int .i64 (jA 0).oc), .g (.int .i64 (jA 0).nu), .g (.int .i64 (jA 0).kd), .g (.int .i64 1), .g (.int .i64 (jA 0).un), .g (.int .i64 (jA 0).ca), .lst 3 (jA 0).n (dZ (jA 0).p)]] (.tup [j6 (dJ ou exO), .one (.g (.int .i64 (18)))]) := by
  have := rY ou tF exO aiJ; rw [aac.2.1] at this; exact this
theorem aoN : aA Tryz.prog 12 [j6 ou, .agg [.g (.int .i64 (jA 0).oc), .g (.int .i64 (jA 0).nu), .g (.int .i64 (jA 0).kd), .g (.int .i64 (jA 0).fr), .g (.int .i64 (jA 0).un), .g (.int .i64 (jA 0).ca), .lst 3 (jA 0).n (dZ (jA 0).p)]] (.tup [j6 (dJ ou (jA 0)), .one (.g (.int .i64 (5)))]) := by
  have := rY ou tF (jA 0) (mg 0); rw [aac.1] at this; exact this
theorem aoA : aA Tryz.prog 26 [.agg [.lst 13 ou.k (iR ou.S), .lst 7 ou.n (dX ou.N)]] (.t (.one (.g (.bool (true))))) := by
  have := KF ou tF; rw [aac.2.2.2] at this; exact this
set_option maxHeartbeats 16000000 in
theorem yB  : aA Tryz.prog 10 [] (.t (.one (.g (.bool (true))))) := by
  refine ak Tryz.func10 rfl (by rw [Tryz.ntmps10]; simp) ?_
  simp only [Tryz.ntmps10, zM, PT.tv, au, Nat.zero_add, Nat.reduceAdd]
  repeat' (first
 | ((with_reducible show eP _ _ _ _ (some 45) _ _ _ _ _ _ _ _); (refine bR (k := 12) jT (aij) ?_ ?_))
 | ((with_reducible show eP _ _ _ _ (some 53) _ _ _ _ _ _ _ _); (refine bR (k := 12) jT (ai3) ?_ ?_))
 | ((with_reducible show aZ _ _ (some 58) _ _ _ _ _ _ _); (refine aG (k := 29) GU (agp sQ Gp 7) ?_ ?_))
 | ((with_reducible show aZ _ _ (some 64) _ _ _ _ _ _ _); (refine aG (k := 13) Ae (Zp sQ Gp 7) ?_ ?_))
 | ((with_reducible show eP _ _ _ _ (some 72) _ _ _ _ _ _ _ _); (refine bR (k := 12) jT (ajX) ?_ ?_))
 | ((with_reducible show aZ _ _ (some 77) _ _ _ _ _ _ _); (refine aG (k := 29) GU (agp nM wE 7) ?_ ?_))
 | ((with_reducible show aZ _ _ (some 83) _ _ _ _ _ _ _); (refine aG (k := 13) Ae (Zp nM wE 7) ?_ ?_))
 | ((with_reducible show aZ _ _ (some 88) _ _ _ _ _ _ _); (refine aG (k := 21) zY (Uc nM wE 7) ?_ ?_))
 | ((with_reducible show eP _ _ _ _ (some 96) _ _ _ _ _ _ _ _); (refine bR (k := 12) jT (aiR) ?_ ?_))
 | ((with_reducible show aZ _ _ (some 101) _ _ _ _ _ _ _); (refine aG (k := 20) Hu (af6 ou tF 7 9) ?_ ?_))
 | ((with_reducible show aZ _ _ (some 106) _ _ _ _ _ _ _); (refine aG (k := 20) Hu (af6 ou tF 7 10) ?_ ?_))
 | ((with_reducible show eP _ _ _ _ (some 114) _ _ _ _ _ _ _ _); (refine bR (k := 12) jT (aoN) ?_ ?_))
 | ((with_reducible show aZ _ _ (some 124) _ _ _ _ _ _ _); (refine aG (k := 12) jT (aoK) ?_ ?_))
 | ((with_reducible show aZ _ _ (some 129) _ _ _ _ _ _ _); (refine aG (k := 21) zY (Uc ou tF 8) ?_ ?_))
 | ((with_reducible show bM _ _ _ (some 194) _ _ _ _ _ _); (refine aV (k := 31) qR (fun hg => Ed (Ep sQ 7).length (zL (Ep sQ 7)) 2 (g3 5 8 0) _ Px.1 (by omega) (fun i o hi ho => by obtain rfl : o = 0 := (by omega); rcases (by omega : i = 0 \/ i = 1) with rfl | rfl <;> rfl)) ?_ ?_))
 | ((with_reducible show bM _ _ _ (some 199) _ _ _ _ _ _); (refine aV (k := 31) qR (fun hg => Ed (wL sQ 7).length (zL (wL sQ 7)) 2 (g3 7 9 0) _ Px.2.2.1 (by omega) (fun i o hi ho => by obtain rfl : o = 0 := (by omega); rcases (by omega : i = 0 \/ i = 1) with rfl | rfl <;> rfl)) ?_ ?_))
 | ((with_reducible show bM _ _ _ (some 208) _ _ _ _ _ _); (refine aV (k := 31) qR (fun hg => Ed (Ep nM 7).length (zL (Ep nM 7)) 1 (g3 8 0 0) _ Px.2.1 (by omega) (fun i o hi ho => by obtain rfl : i = 0 := (by omega); obtain rfl : o = 0 := (by omega); rfl)) ?_ ?_))
 | ((with_reducible show bM _ _ _ (some 213) _ _ _ _ _ _); (refine aV (k := 31) qR (fun hg => Ed (wL nM 7).length (zL (wL nM 7)) 1 (g3 9 0 0) _ Px.2.2.2 (by omega) (fun i o hi ho => by obtain rfl : i = 0 := (by omega); obtain rfl : o = 0 := (by omega); rfl)) ?_ ?_))
 | ((with_reducible show bM _ _ _ (some 219) _ _ _ _ _ _); (refine aV (k := 31) qR (fun hg => Ed (jK nM 7).q (jK nM 7).dn 3 (g3 4 5 7) _ Nu.q (by omega) (fun i o hi ho => by obtain rfl : o = 0 := (by omega); rcases (by omega : i = 0 \/ i = 1 \/ i = 2) with rfl | rfl | rfl <;> rfl)) ?_ ?_))
 | ((with_reducible show bM _ _ _ (some 230) _ _ _ _ _ _); (refine aV (k := 23) vE (fun hg => F4 (jK nM 7).n 1 (jK nM 7).f (exW 20) _ Nu.n (by omega) Nu.f (fun i _ => M9 20 i) (fun i b hi ho => by obtain rfl : i = 0 := (by omega); rcases (by omega : b = 0 \/ b = 1 \/ b = 2 \/ b = 3 \/ b = 4 \/ b = 5 \/ b = 6 \/ b = 7 \/ b = 8) with rfl | rfl | rfl | rfl | rfl | rfl | rfl | rfl | rfl <;> first | rfl | exact ⟨rfl, rfl⟩)) ?_ ?_))
 | ((with_reducible show bM _ _ _ (some 236) _ _ _ _ _ _); (refine aV (k := 23) vE (fun hg => F4 (Il ou 7 9) 1 (shF ou 7 9) (exW 20) _ (G9 9).1 (by omega) (G9 9).2 (fun i _ => M9 20 i) (fun i b hi ho => by obtain rfl : i = 0 := (by omega); rcases (by omega : b = 0 \/ b = 1 \/ b = 2 \/ b = 3 \/ b = 4 \/ b = 5 \/ b = 6 \/ b = 7 \/ b = 8) with rfl | rfl | rfl | rfl | rfl | rfl | rfl | rfl | rfl <;> first | rfl | exact ⟨rfl, rfl⟩)) ?_ ?_))
 | ((with_reducible show bM _ _ _ (some 242) _ _ _ _ _ _); (refine aV (k := 23) vE (fun hg => F4 (Il ou 7 10) 1 (shF ou 7 10) (exW 5) _ (G9 10).1 (by omega) (G9 10).2 (fun i _ => M9 5 i) (fun i b hi ho => by obtain rfl : i = 0 := (by omega); rcases (by omega : b = 0 \/ b = 1 \/ b = 2 \/ b = 3 \/ b = 4 \/ b = 5 \/ b = 6 \/ b = 7 \/ b = 8) with rfl | rfl | rfl | rfl | rfl | rfl | rfl | rfl | rfl <;> first | rfl | exact ⟨rfl, rfl⟩)) ?_ ?_))
 | ((with_reducible show bM _ _ _ (some 246) _ _ _ _ _ _); (refine aV (k := 26) rA (fun hg => aoA) ?_ ?_))
 | ((with_reducible show AW _ _ _ _); first
 | (with_reducible first | refine aS (fun K hK => ?_) | refine aT ?_)
 | (first
 | (with_reducible first | refine aP 0 [] ?_ | refine aP 1 [] ?_)
 | ((with_reducible refine aR (c := Code.region 2 _ true) [1,2] ?_); (with_reducible refine aD ?_ ?_ ?_ ?_); (focus kernel_rfl); (focus kernel_rfl); (focus kernel_rfl))
 | ((with_reducible refine aR (c := Code.region 3 _ true) [2,3,4] ?_); (with_reducible refine aD ?_ ?_ ?_ ?_); (focus kernel_rfl); (focus kernel_rfl); (focus kernel_rfl))
 | (with_reducible first | refine aP 4 [2,3,4,5] ?_ | refine aP 5 [2,3,4,5,6,7,8] ?_)
 | ((with_reducible refine aR (c := Code.region 6 _ true) [2,3,4,5,6,7,8,9,10] ?_); (with_reducible refine aD ?_ ?_ ?_ ?_); (focus kernel_rfl); (focus kernel_rfl); (focus kernel_rfl))
 | (with_reducible first | refine aP 7 [2,4,5,6,7,8,9,10,11,12] ?_ | refine aP 8 [2,4,5,6,7,8,9,10,11,12,13,14,15] ?_ | refine aP 9 [2,4,5,6,7,8,9,10,11,12,13,14,15,16,17] ?_)
 | ((with_reducible refine aR (c := Code.region 10 _ true) [2,4,5,6,7,8,9,10,11,12,13,14,15,16,17,18,19] ?_); (with_reducible refine aD ?_ ?_ ?_ ?_); (focus kernel_rfl); (focus kernel_rfl); (focus kernel_rfl))
 | (with_reducible first | refine aP 11 [2,4,5,6,7,8,9,10,12,13,14,15,16,17,18,19,20,21] ?_ | refine aP 12 [2,4,5,6,7,8,9,10,12,13,14,15,16,17,18,19,20,21,22,23] ?_)
 | ((with_reducible refine aR (c := Code.region 13 _ true) [2,4,5,6,7,8,9,10,12,13,14,15,16,17,18,19,20,21,22,23,24,25] ?_); (with_reducible refine aD ?_ ?_ ?_ ?_); (focus kernel_rfl); (focus kernel_rfl); (focus kernel_rfl))
 | (with_reducible first | refine aP 14 [2,4,5,6,7,8,9,10,12,13,14,15,16,17,18,19,20,21,22,23,24,25,27] ?_ | refine aP 15 [4,5,6,7,8,9,10,12,13,14,15,16,17,18,19,20,21,22,23,24,25,27,28] ?_ | refine aP 16 [4,5,6,7,8,9,10,12,13,14,15,16,17,18,19,20,21,22,23,24,25,27,28] ?_ | refine aP 17 [4,5,6,7,8,9,10,12,13,14,15,16,17,18,19,20,21,22,23,24,25,27,30] ?_ | refine aP 18 [4,5,6,7,8,9,10,12,13,14,15,16,17,18,19,20,21,22,23,24,25,27,30,32] ?_ | refine aP 19 [6,7,9,13,14,16,18,20,22,24,33] ?_ | refine aP 20 [18,20,22,24,33] ?_ | refine aP 21 [18,20,22,24,33,34] ?_ | refine aP 22 [18,20,22,24,33,34,35] ?_ | refine aP 23 [18,20,22,24,33,34,35] ?_)))
 | ((first | (with_reducible refine And.intro ?_ ?_) | (with_reducible refine Need.mk ?_)); focus (first | exact True.intro | omega | (intro _; exact True.intro)))
 | (with_reducible refine aK ?_)
 | ((with_reducible refine And.intro ?_ ?_); focus ((with_reducible show iL _ _ _ = true); kernel_rfl))
 | ((with_reducible show aZ _ _ _ _ _ _ _ _ _ _); first
 | (refine aG (k := 39) O4 (an9) ?_ ?_))
 | ((fail_if_success (with_reducible show AW _ _ _ _)); simp (maxSteps := 2000000) only [go_sem, reduceIte, reduceCtorEq, xA, xL, xD, xE, xM, xS, xB, Tryz.f10, dh, cB, cK, cO, cu, cZ, bZ, bY, bX, dw, bJ, bH, bI, bC, Int.reduceToNat, Int.cast_ofNat_Int, Bool.and_self, Int.natCast_zero, Int.ofNat_zero, ajA.1, ajA.2, Z7.1, Z7.2, amR.1, amR.2, aac.2.2.1, aac.2.2.2, amg, anr, anf, alV, alP, akS, aky, akU])
 | ((with_reducible refine hK _ ?_); clear hK K))
end Go.Proofs.YtcfechepbamhkaaGreat
set_option maxRecDepth 100000
set_option maxHeartbeats 4000000
namespace Go.Proofs.YtcfechepbamhkaaGreat
open Go.RowKit Go.Sea
open Nat renaming reduceAdd -> xA, reduceLT -> xL, reduceLeDiff -> xD, reduceEqDiff -> xE, reduceMul -> xM, reduceSub -> xS, reduceBEq -> xB
theorem pz : aM Tryz.prog 10 = true := by kernel_rfl
theorem jC : aM Tryz.prog 11 = true := by kernel_rfl
theorem abz : aM Tryz.prog 17 = true := by kernel_rfl
theorem aeW : aM Tryz.prog 25 = true := by kernel_rfl
theorem aeZ : aM Tryz.prog 30 = true := by kernel_rfl
theorem aco : aM Tryz.prog 32 = true := by kernel_rfl
theorem aeD : aM Tryz.prog 33 = true := by kernel_rfl
theorem ae5 : aM Tryz.prog 34 = true := by kernel_rfl
theorem FL : aM Tryz.prog 35 = true := by kernel_rfl
theorem acJ : aM Tryz.prog 36 = true := by kernel_rfl
theorem adi : aM Tryz.prog 37 = true := by kernel_rfl
attribute [go_sem] pz jC abz aeW aeZ aco aeD ae5 FL acJ adi
theorem ajC (f : aj) (hf : f.Ok) (ch : Int) : (jK f ch).Ok := by
  by_cases h : iO f ch = 0
  · rw [OM h]; exact hf.s _ (rX h).2.1
  · rw [afY h]; exact Ka
theorem ajU (f : aj) (hf : f.Ok) (s : aF) (hs : s.Ok) : (nW f s).Ok := by
  unfold nW; split
  · rename_i h
    have h0 : iO f s.ch = 0 := by
      unfold ER at h; split at h
      · split at h
        · assumption
        · exact h
      · cases h
    exact Qb (WM hf (rX h0).2.1 hs)
  · exact Po
end Go.Proofs.YtcfechepbamhkaaGreat
set_option maxRecDepth 100000
set_option maxHeartbeats 4000000
namespace Go.Proofs.YtcfechepbamhkaaGreat
open Go.RowKit Go.Sea
open Nat renaming reduceAdd -> xA, reduceLT -> xL, reduceLeDiff -> xD, reduceEqDiff -> xE, reduceMul -> xM, reduceSub -> xS, reduceBEq -> xB
theorem abw (M : ah) (ho : M.Ok) : (aj.mk 0 (fun _ => bg) 1 (fun _ => M)).Ok := ⟨(show (0 : Nat) <= 9223372036854775807 from by decide), fun i h => absurd h (Nat.not_lt_zero i), (show (1 : Nat) <= 9223372036854775807 from by decide), fun _ _ => ho⟩
theorem BJ (M : ah) (ho : M.Ok) (G : Nat -> Nat -> IV) (hG : ∀ i o, i < 1 -> o < 7 -> (G i o).eqv (dX (fun _ => M) i o)) : aA Tryz.prog 11 [.agg [.g (.slice none 0 0), .lst 7 1 G]] (.t (.one (.g (.bool (oJ (aj.mk 0 (fun _ => bg) 1 (fun _ => M))))))) :=
  (sJ (aj.mk 0 (fun _ => bg) 1 (fun _ => M)) (abw M ho)).eqv (args' := [.agg [.g (.slice none 0 0), .lst 7 1 G]]) ⟨⟨⟨rfl, rfl⟩, ⟨rfl, rfl, hG⟩, trivial⟩, trivial⟩ (PV.bn _)
end Go.Proofs.YtcfechepbamhkaaGreat
set_option maxRecDepth 100000
set_option maxHeartbeats 4000000
namespace Go.Proofs.YtcfechepbamhkaaGreat
open Go.RowKit Go.Sea
open Nat renaming reduceAdd -> xA, reduceLT -> xL, reduceLeDiff -> xD, reduceEqDiff -> xE, reduceMul -> xM, reduceSub -> xS, reduceBEq -> xB
theorem aoL : lD Tryz.prog 5 = some (false, 1) := by kernel_rfl
attribute [go_sem] aoL
end Go.Proofs.YtcfechepbamhkaaGreat
