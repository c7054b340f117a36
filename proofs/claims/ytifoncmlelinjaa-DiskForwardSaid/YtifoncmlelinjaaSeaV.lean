/- Side goals of the walk behind names, so that a driver's arm meets each kind once. -/
import Derived.Test.YtifoncmlelinjaaSeaT
import Derived.Test.YtifoncmlelinjaaSeaW
set_option linter.unusedVariables false
set_option linter.unusedSimpArgs false
namespace Go.Sea
open Go.RowKit
/-- A value's definedness, and what else a call asks. -/
structure Need (p : Prop) : Prop where
  out : p
/-- What is told at a loop's head. -/
structure Told (p : Prop) : Prop where
  out : p
section
variable {P : Program} {gs : List (Option Nat)} {n0 i : Nat} {d : Option Tmp} {os : List Oper} {s : AS} {lg : Lg} {K : AS → Prop} {K' : Lg → AS → Prop} {b : Bool} {k : FuncId} {nd : Prop} {ps : List PT} {own : Bool} {r : PV} {ft : List Nat}
theorem callN_q {F : Prop} {t : Option (Prop × List TV)} (h3 : fnOk P k = true) (h5 : CallsP P k ps r) (h4 : Need nd) (h7 : arun P gs os (s.put d r.av) K) (h6 : own = true → r.flat = true := by first | (intro h; cases h; done) | (intro _; rfl)) : callN P gs d os s K (.pure k) (some (nd, ps, own)) t F := callN_p h3 h5 h4.out h6 h7
theorem callGN_q {F : Prop} (h3 : fnOk P k = true) (h5 : b = true → CallsP P k ps r) (h4 : Need (b = true → nd)) (h7 : arun P gs os (s.put d (r.av.mbOf b)) K) (h6 : own = true → r.flat = true := by first | (intro h; cases h; done) | (intro _; rfl)) : callGN P gs b d os s K (.pure k) (some (nd, ps, own)) F := callGN_p h3 h5 h4.out h6 h7
theorem callDN_q {t : Option (Prop × List TV)} (h3 : fnOk P k = true) (h5 : CallsP P k ps r) (h4 : Need nd) (h7 : arunD P gs n0 (i + 1) os (s.put d r.av) ((none, ft) :: lg) K') (h6 : own = true → r.flat = true := by first | (intro h; cases h; done) | (intro _; rfl)) : callDN P gs n0 i d os s lg K' (.pure k) (some (nd, ps, own)) t ft := callDN_p h3 h5 h4.out h6 h7
theorem callDGN_q (h3 : fnOk P k = true) (h5 : b = true → CallsP P k ps r) (h4 : Need (b = true → nd)) (h7 : arunD P gs n0 (i + 1) os (s.put d (r.av.mbOf b)) ((none, ft) :: lg) K') (h6 : own = true → r.flat = true := by first | (intro h; cases h; done) | (intro _; rfl)) : callDGN P gs n0 i b d os s lg K' (.pure k) (some (nd, ps, own)) ft := callDGN_p h3 h5 h4.out h6 h7
theorem callN_hq {F : Prop} {a : ArgR} {l m : List LV} {ps : List TV} {r : AV} {H' : List (Option (List CV))} (h3 : fnOk P k = true) (h5 : CallsH P k (l.map LV.tv ++ ps ++ m.map LV.tv) s.heap r H') (h4 : Need nd) (h7 : arun P gs os ({ s with heap := H' }.put d r) K) : callN P gs d os s K (.clo k l m) a (some (nd, ps)) F := callN_h h3 h5 h4.out h7
theorem callN_hpq {F : Prop} {a : ArgR} {ps : List TV} {r : AV} {H' : List (Option (List CV))} (h3 : fnOk P k = true) (h5 : CallsH P k ps s.heap r H') (h4 : Need nd) (h7 : arun P gs os ({ s with heap := H' }.put d r) K) : callN P gs d os s K (.pure k) a (some (nd, ps)) F := callN_hp h3 h5 h4.out h7
theorem callDN_tq {a : ArgR} {ts : List TV} {r : AV} {j : Nat} {cs cs' : List CV} (h3 : fnOk P k = true) (h5 : CallsT P k ts j cs r cs') (h4 : Need nd) (h1 : hget s.heap j = some cs) (h2 : Need (j ∈ ts.flatMap TV.refs)) (h7 : arunD P gs n0 (i + 1) os (s.ent d (n0 + i) r (.set j cs')) ((some j, ft) :: lg) K') : callDN P gs n0 i d os s lg K' (.pure k) a (some (nd, ts)) ft := callDN_t h3 h5 h4.out h1 h2.out h7
theorem callDN_nq {a : ArgR} {ts : List TV} {r : Nat → AV} {cs : List CV} (h3 : fnOk P k = true) (h5 : CallsN P k ts cs r) (h4 : Need nd) (h7 : arunD P gs n0 (i + 1) os (s.ent d (n0 + i) (r (n0 + i)) (.new cs)) ((some (n0 + i), ft) :: lg) K') : callDN P gs n0 i d os s lg K' (.pure k) a (some (nd, ts)) ft := callDN_n h3 h5 h4.out h7
theorem callGN_sq {a : ArgR} {o : Oper} (h1 : b = true → callK P gs o os s K) (h2 : b = false → arun P gs os (s.put o.dst .any) K) : callGN P gs b d os s K (.pure k) a (splitK P gs b o os s K) := callGN_s h1 h2
theorem callN_zq {a : ArgR} {t : Option (Prop × List TV)} {o : Oper} (L : List Nat) (h1 : Need (frzsOk L s)) (h2 : callZ P gs o os (frzs L s) K) : callN P gs d os s K (.pure k) a t (frzK P gs o os s K) := callN_z L h1.out h2
end
theorem AW_frz {P : Program} {c : Code} {s : AS} {Q : Exit → AS → Prop} (L : List Nat) (h1 : Need (frzsOk L s)) (h2 : AW P c (frzs L s) Q) : AW P c s Q := fun w0 Z0 a w n R => h2 w0 Z0 a w n (Rep.frzs L R h1.out)
theorem AW_loopQ {P : Program} {s : AS} {Q : Exit → AS → Prop} {c : Code} {ι : Type} (U : List Nat) (C : ι → List (Nat × AV)) (HC : ι → List (Nat × List CV)) (I : ι → Prop) (μ : ι → Nat) (i0 : ι)
    (hg : ∀ i, I i → Told (okGL (hupd s.heap (HC i)) s.gh s.gh))
    (h1 : Told (okL (hupd s.heap (HC i0)) s.env (C i0 ++ keepE s.env U))) (h2 : Told (wkH (okB (hupd s.heap (HC i0))) s.heap (hupd s.heap (HC i0)))) (hi : I i0)
    (round : ∀ i, I i → ∀ K : AS → Prop, (∀ s' j, Told (nextL s.N s.lp s.gh C HC I μ s.env s.heap U i j s') → K s') → AW P c ⟨C i ++ keepE s.env U, hupd s.heap (HC i), s.N, s.gh, s.lp⟩ (thenA K Q)) : AW P (.loop c) s Q :=
  AW_loopC U C HC I μ i0 (fun i h => (hg i h).out) h1.out h2.out hi fun i h K hK => round i h K fun s' j h' => hK s' j h'.out
end Go.Sea
