/- Part 15 of 18: contracts of functions and plain laws for the root text. No condition. -/
import Derived.Test.YtmnejmpjmniiiaaGreatDoorV01
import Derived.Test.YtmnejmpjmniiiaaGreatDoorV02
import Derived.Test.YtmnejmpjmniiiaaGreatDoorV03
import Derived.Test.YtmnejmpjmniiiaaGreatDoorV04
import Derived.Test.YtmnejmpjmniiiaaGreatDoorV05
import Derived.Test.YtmnejmpjmniiiaaGreatDoorV06
import Derived.Test.YtmnejmpjmniiiaaGreatDoorV07
import Derived.Test.YtmnejmpjmniiiaaGreatDoorV08
import Derived.Test.YtmnejmpjmniiiaaGreatDoorV09
import Derived.Test.YtmnejmpjmniiiaaGreatDoorV10
import Derived.Test.YtmnejmpjmniiiaaGreatDoorV11
import Derived.Test.YtmnejmpjmniiiaaGreatDoorV12
import Derived.Test.YtmnejmpjmniiiaaGreatDoorV13
import Derived.Test.YtmnejmpjmniiiaaGreatDoorV14
set_option linter.unusedVariables false
set_option linter.unusedSimpArgs false
set_option linter.unusedSectionVars false
set_option linter.deprecated false
set_option maxRecDepth 100000
set_option maxHeartbeats 4000000
namespace Go.Proofs.YtmnejmpjmniiiaaGreatDoor
open Go.RowKit Go.Sea
open Nat renaming reduceAdd -> xA, reduceLT -> xL, reduceLeDiff -> xD, reduceEqDiff -> xE, reduceMul -> xM, reduceSub -> xS, reduceBEq -> xB
theorem afe : BP Tryz.prog 29 = none := by kernel_rfl
theorem ahZ : Xq Tryz.prog 50 = false := by kernel_rfl
theorem aht : ZN Tryz.prog 50 = some (true, [.int .i64, .int .i64, .int .i64, .int .i64]) := by kernel_rfl
theorem yg : aM Tryz.prog 36 = true := by kernel_rfl
theorem afz : fF Tryz.prog 26 = true := by kernel_rfl
theorem ae4 : fF Tryz.prog 48 = true := by kernel_rfl
theorem aia : uY Tryz.prog 29 = some true := by kernel_rfl
theorem Vf : cZ Tryz.prog 112 5 = some (14, 1) := by kernel_rfl
theorem Uq : cZ Tryz.prog 112 6 = some (15, 1) := by kernel_rfl
theorem XL : cZ Tryz.prog 26 0 = some (0, 1) := by kernel_rfl
theorem XJ : cZ Tryz.prog 26 1 = some (1, 1) := by kernel_rfl
theorem Ym : cZ Tryz.prog 26 2 = some (2, 1) := by kernel_rfl
theorem YQ : cZ Tryz.prog 48 0 = some (0, 1) := by kernel_rfl
theorem WX : cZ Tryz.prog 48 1 = some (1, 1) := by kernel_rfl
theorem Wd : cZ Tryz.prog 66 0 = some (0, 1) := by kernel_rfl
theorem Xv : cZ Tryz.prog 66 1 = some (1, 1) := by kernel_rfl
theorem Ws : cZ Tryz.prog 66 5 = some (6, 1) := by kernel_rfl
theorem Yf : cZ Tryz.prog 66 6 = some (7, 1) := by kernel_rfl
theorem aij : mU Tryz.prog 26 = some (true, 3) := by kernel_rfl
theorem aeQ : mU Tryz.prog 50 = some (true, 4) := by kernel_rfl
theorem agI : eX Tryz.prog 26 = some [.iv (.g (.slice none 0 0)), .iv (.g (.slice none 0 0)), .iv (.g (.slice none 0 0))] := by kernel_rfl
theorem ae0 : eX Tryz.prog 54 = some [.iv (.g (.slice none 0 0))] := by kernel_rfl
attribute [go_sem] afe ahZ aht yg afz ae4 aia Vf Uq XL XJ Ym YQ WX Wd Xv Ws Yf aij aeQ agI ae0
def kF (V : Nat -> Nat -> Int) (i o : Nat) : IV := .g (.int .i64 (V i o))
theorem MI (V : Nat -> Nat -> Int) (i o : Nat) : kF V i o = .g (.int .i64 (V i o)) := rfl
abbrev keP (V W : Nat -> Nat -> Int) (i : Nat) : Prop := V i 0 = W i 0 /\ V i 1 = W i 1 /\ V i 2 = W i 2 /\ V i 3 = W i 3
def Jw (n m : Nat) (V W : Nat -> Nat -> Int) : Bool := decide (n = m /\ ∀ i, i < n -> keP V W i)
theorem af5 {n m : Nat} {V W : Nat -> Nat -> Int} (h : (n : Int) ≠ m) : false = Jw n m V W := (decide_eq_false fun g => h (by rw [g.1])).symm
theorem aeR {n m : Nat} {V W : Nat -> Nat -> Int} {i : Nat} (hi : (i : Int) < n) (h : ¬ keP V W i) : false = Jw n m V W := (decide_eq_false fun g => h (g.2 i (by omega))).symm
theorem ahM {n m : Nat} {V W : Nat -> Nat -> Int} {i : Nat} (h : (n : Int) = m) (hi : (n : Int) <= i) (g : ∀ j, j < i -> keP V W j) : true = Jw n m V W := (decide_eq_true ⟨by omega, fun j hj => g j (by omega)⟩).symm
def Ck (x : bF) (p : Nat × Nat) : Nat -> Int
  | 0 => (x.S p.1).nu
  | 1 => (x.S p.2).nu
  | 2 => mR (x.O p.1).k (x.O p.1).o (x.O p.2).k (x.O p.2).o
  | _ + 3 => vF (x.O p.1).k (x.O p.1).o (x.O p.2).k (x.O p.2).o
def BL (x : bF) (i o : Nat) : Int := Ck x ((mg x).getD i (0, 0)) o
theorem aey (x : bF) (i o : Nat) : prC x i o = kF (BL x) i o := by
  unfold prC BL kF
  rcases o with _ | _ | _ | o <;> rfl
theorem iC : mG.Ok := ⟨by decide, fun i _ => ⟨by show (0 : Nat) <= _; decide, by show (0 : Nat) <= _; decide⟩, by decide, fun i _ => by show (exS i).q <= _; rcases i with _ | _ | _ | _ | i <;> first | decide | (show (1 : Nat) <= _; decide), by decide, fun i _ => by show (exO i).k <= _; rcases i with _ | _ | _ | _ | i <;> first | decide | (show (1 : Nat) <= _; decide), fun i _ j _ => by
  show ((exO i).o j).f.Ok
  rcases i with _ | _ | _ | _ | i
  · exact jm
  · exact jm
  · exact jm
  · exact jm
  · exact ⟨by show (0 : Nat) <= _; decide, by show (0 : Nat) <= _; decide⟩⟩
theorem aa5 : ex0.Ok := ⟨by decide, fun i h => absurd h (Nat.not_lt_zero i), iC.m, iC.q, iC.mo, iC.k, iC.o⟩
theorem U4 : Fp.Ok := ⟨by decide, fun i h => absurd h (Nat.not_lt_zero i), by decide, fun i h => iC.q i (by show i < 5; have : i < 1 := h; omega), by decide, fun i h => iC.k i (by show i < 5; have : i < 1 := h; omega), fun i h => iC.o i (by show i < 5; have : i < 1 := h; omega)⟩
theorem xG (S : Nat -> aK) (m : Nat) (hm : m <= 9223372036854775807) (hq : ∀ i, i < m -> (S i).q <= 9223372036854775807) (y : Int) : au Tryz.prog 32 [.one (.lst 2 m (fA S)), .one (.g (.int .i64 y))] (.t (.one (.g (.int .i64 (Cj S m y))))) := by
  refine ah Tryz.func32 rfl (by rw [Tryz.ntmps32]; simp) ?_
  simp only [Tryz.ntmps32, zM, PT.tv, ak, Nat.zero_add, Nat.reduceAdd]
  repeat' (first
 | ((with_reducible show AW _ _ _ _); first
 | (with_reducible first | refine aS (fun K hK => ?_) | refine aI ?_ | refine aX ?_ | refine aT ?_ | refine aC ?_ | refine aB ?_)
 | (first
 | (with_reducible first | refine aP 0 [0,1] ?_ | refine aP 1 [0,1] ?_ | refine aP 2 [0,1,5] ?_ | refine aP 3 [0,1,5] ?_ | refine aP 4 [0,1,5] ?_ | refine aP 5 [5] ?_ | refine aP 6 [] ?_))
 | ((with_reducible show AW _ (Code.loop _) _ _); first
 | ((with_reducible refine aL (c := (Code.seq (Code.seq (Code.region 2 _ _) _) _)) (ι := Nat) [0,1] (fun t => [(5, iA .i64 (t : Int))]) (fun t => []) (fun t => t <= m /\ (∀ t', t' < t -> (S t').nu ≠ y)) (fun t => m - t) 0 ?lg2 ?l12 ?l22 ?li2 ?lr2); (case' lg2 => rintro t _); (case' li2 => try (exact ⟨Nat.zero_le _, fun i hi => absurd hi (Nat.not_lt_zero _)⟩)); (case' lr2 => rintro t ⟨hi, hai⟩ KR hR2; simp only [bf, bN, hset, lk, if_true, if_false, xE, reduceIte, zN, bJ, bI]))))
 | (((with_reducible refine And.intro ?_ ?_)); focus (omega))
 | (with_reducible refine aA ?_)
 | ((with_reducible show aY _ _ _ _ _ _); first
 | ((with_reducible refine aH ?_ ?_) <;> (intro hc; (try simp only [zB, zC, reduceCtorEq] at hc); (try (exfalso; contradiction)))))
 | ((with_reducible refine hR2 _ (t + 1) ?_); (try clear hR2 KR))
 | ((with_reducible refine Told.mk ?_); simp only [go_sem, reduceIte, reduceCtorEq, xA, xL, xD, xE, xM, xS, xB, bJ, bI, bG] <;> ((((try simp (disch := omega) only [aJ, Int.natCast_add, Int.cast_ofNat_Int, and_true, true_and, and_self]); (repeat' (first | omega | (with_reducible refine And.intro ?_ ?_) | (exact all_succ (by assumption) (by assumption)) )); done))))
 | ((fail_if_success (with_reducible show AW _ _ _ _)); simp (maxSteps := 2000000) only [go_sem, reduceIte, reduceCtorEq, xA, xL, xD, xE, xM, xS, xB, Tryz.f32, bJ, bI, bG])
 | ((with_reducible refine hK _ ?_); clear hK K)
 | (with_reducible apply_assumption -exfalso only [*]))
  all_goals (first | exact ZO (by omega) hc hai | exact aat (by omega) hai)
theorem Zu (n m : Nat) (V W : Nat -> Nat -> Int) (hn : n <= 9223372036854775807) (hm : m <= 9223372036854775807) : au Tryz.prog 14 [.one (.lst 4 n (kF V)), .one (.lst 4 m (kF W))] (.t (.one (.g (.bool (Jw n m V W))))) := by
  refine ah Tryz.func14 rfl (by rw [Tryz.ntmps14]; simp) ?_
  simp only [Tryz.ntmps14, zM, PT.tv, ak, Nat.zero_add, Nat.reduceAdd]
  repeat' (first
 | ((with_reducible show AW _ _ _ _); first
 | (with_reducible first | refine aS (fun K hK => ?_) | refine aI ?_ | refine aX ?_ | refine aT ?_ | refine aC ?_ | refine aB ?_)
 | (first
 | (with_reducible first | refine aP 0 [0,1] ?_ | refine aP 1 [0,1] ?_ | refine aP 2 [] ?_ | refine aP 3 [0,1] ?_ | refine aP 4 [0,1,5] ?_ | refine aP 5 [0,1,5] ?_)
 | ((with_reducible refine aR (c := Code.region 6 _ true) [0,1,5] ?_); (with_reducible refine aD ?_ ?_ ?_ ?_); (focus kernel_rfl); (focus kernel_rfl); (focus kernel_rfl))
 | (with_reducible first | refine aP 7 [] ?_ | refine aP 8 [] ?_))
 | ((with_reducible show AW _ (Code.loop _) _ _); first
 | ((with_reducible refine aL (c := (Code.seq (Code.seq (Code.region 4 _ _) _) _)) (ι := Nat) [0,1] (fun i => [(5, iA .i64 (i : Int))]) (fun i => []) (fun i => i <= n /\ (∀ j, j < i -> keP V W j)) (fun i => n - i) 0 ?lg4 ?l14 ?l24 ?li4 ?lr4); (case' lg4 => rintro i _); (case' li4 => try (exact ⟨Nat.zero_le _, fun i hi => absurd hi (Nat.not_lt_zero _)⟩)); (case' lr4 => rintro i ⟨hi, hai⟩ KR hR4; simp only [bf, bN, hset, lk, if_true, if_false, xE, reduceIte, zN, MI]))))
 | (((with_reducible refine And.intro ?_ ?_)); focus (omega))
 | (with_reducible refine aA ?_)
 | ((with_reducible show aY _ _ _ _ _ _); first
 | ((with_reducible refine aH ?_ ?_) <;> (intro hc; (try simp only [zB, zC, reduceCtorEq] at hc); (try (exfalso; contradiction)))))
 | ((with_reducible refine And.intro ?_ ?_); focus ((with_reducible show fB _ _ _ = true); kernel_rfl))
 | ((with_reducible refine hR4 _ (i + 1) ?_); (try clear hR4 KR))
 | ((with_reducible refine Told.mk ?_); simp only [go_sem, reduceIte, reduceCtorEq, xA, xL, xD, xE, xM, xS, xB, MI] <;> ((((try simp (disch := omega) only [aJ, Int.natCast_add, Int.cast_ofNat_Int, and_true, true_and, and_self]); (repeat' (first | omega | (with_reducible refine And.intro ?_ ?_) | (exact all_succ (by assumption) (by assumption)))); done))))
 | ((fail_if_success (with_reducible show AW _ _ _ _)); simp (maxSteps := 2000000) only [go_sem, reduceIte, reduceCtorEq, xA, xL, xD, xE, xM, xS, xB, Tryz.f14, MI])
 | ((with_reducible refine hK _ ?_); clear hK K)
 | (with_reducible apply_assumption -exfalso only [*]))
  all_goals (first | exact af5 (by assumption) | exact aeR (by assumption) (by unfold keP; omega) | exact ahM (by omega) (by omega) hai)
theorem QF (d s : Int) : au Tryz.prog 36 [.one (.g (.int .i64 d)), .one (.g (.int .i64 s))] (.t (.agg [.g (.int .i64 ((rZ d s).id)), .g (.int .i64 ((rZ d s).kd)), .g (.int .i64 ((rZ d s).x)), .g (.int .i64 ((rZ d s).y)), .g (.int .i64 ((rZ d s).r)), .lst 2 (rZ d s).n (bX (rZ d s).P), .g (.int .i64 ((rZ d s).d)), .g (.int .i64 ((rZ d s).s)), .lst 6 (rZ d s).m (bX (rZ d s).S)])) := by
  refine ah Tryz.func36 rfl (by rw [Tryz.ntmps36]; simp) ?_
  simp only [Tryz.ntmps36, zM, PT.tv, ak, Nat.zero_add, Nat.reduceAdd]
  repeat' (first
 | ((with_reducible show AW _ _ _ _); first
 | (with_reducible first | refine aS (fun K hK => ?_) | refine aT ?_)
 | (first
 | (with_reducible first | refine aP 0 [0,1] ?_ | refine aP 1 [0,1,4] ?_)))
 | (with_reducible refine aA ?_)
 | ((fail_if_success (with_reducible show AW _ _ _ _)); simp (maxSteps := 2000000) only [go_sem, reduceIte, reduceCtorEq, xA, xL, xD, xE, xM, xS, xB, Tryz.f36])
 | ((with_reducible refine hK _ ?_); clear hK K))
  all_goals ((repeat' (first | rfl | exact ⟨rfl, rfl⟩ | (with_reducible refine And.intro ?_ ?_))))
theorem afg  : au Tryz.prog 35 [] (.t (.agg [.lst 9 1 (bq exF), .lst 2 5 (fA exS), .lst 1 5 (iJ exO)])) := by
  refine ah Tryz.func35 rfl (by rw [Tryz.ntmps35]; simp) ?_
  simp only [Tryz.ntmps35, zM, PT.tv, ak, Nat.zero_add, Nat.reduceAdd]
  repeat' (first
 | ((with_reducible show AW _ _ _ _); first
 | (with_reducible first | refine aS (fun K hK => ?_) | refine aT ?_)
 | (first
 | (with_reducible first | refine aP 0 [] ?_ | refine aP 1 [0] ?_ | refine aP 2 [0,1] ?_ | refine Dr (c := Code.region 3 _ false) [1,2,3,4,5,6,7,8,9] ?_ (aP 3 [0,1,2] ?_))))
 | ((first | (with_reducible refine And.intro ?_ ?_) | (with_reducible refine Need.mk ?_)); focus (exact True.intro))
 | (with_reducible refine aA ?_)
 | ((with_reducible show aN _ _ _ _ _ _ _ _ _ _); first
 | (refine aj (k := 36) yg (QF 10 0) ?_ ?_)
 | (refine aj (k := 36) yg (QF 30 0) ?_ ?_))
 | ((fail_if_success (with_reducible show AW _ _ _ _)); simp (maxSteps := 2000000) only [go_sem, reduceIte, reduceCtorEq, xA, xL, xD, xE, xM, xS, xB, Tryz.f35])
 | ((with_reducible refine hK _ ?_); clear hK K))
  all_goals ((refine ⟨fun i u hi hu => ?_, fun i u hi hu => ?_, fun i u hi hu => ?_⟩; (obtain rfl : i = 0 := (by omega); rcases (by omega : u = 0 \/ u = 1 \/ u = 2 \/ u = 3 \/ u = 4 \/ u = 5 \/ u = 6 \/ u = 7 \/ u = 8) with rfl | rfl | rfl | rfl | rfl | rfl | rfl | rfl | rfl <;> first | rfl | exact IV.aG _); (rcases (by omega : i = 0 \/ i = 1 \/ i = 2 \/ i = 3 \/ i = 4) with rfl | rfl | rfl | rfl | rfl <;> rcases (by omega : u = 0 \/ u = 1) with rfl | rfl <;> first | rfl | exact ⟨rfl, rfl⟩ | exact ⟨rfl, rfl, fun p q hp hq => (by obtain rfl : p = 0 := (by omega); obtain rfl : q = 0 := (by omega); rfl)⟩); (rcases (by omega : i = 0 \/ i = 1 \/ i = 2 \/ i = 3 \/ i = 4) with rfl | rfl | rfl | rfl | rfl <;> (obtain rfl : u = 0 := (by omega); refine ⟨rfl, rfl, fun p q hp hq => ?_⟩; obtain rfl : p = 0 := (by omega); rcases (by omega : q = 0 \/ q = 1 \/ q = 2 \/ q = 3 \/ q = 4 \/ q = 5 \/ q = 6 \/ q = 7 \/ q = 8 \/ q = 9 \/ q = 10 \/ q = 11 \/ q = 12 \/ q = 13 \/ q = 14 \/ q = 15) with rfl | rfl | rfl | rfl | rfl | rfl | rfl | rfl | rfl | rfl | rfl | rfl | rfl | rfl | rfl | rfl <;> first | rfl | exact ⟨rfl, rfl⟩ | exact IV.aG _))))
end Go.Proofs.YtmnejmpjmniiiaaGreatDoor
namespace Go.Proofs.YtmnejmpjmniiiaaGreatDoor
open Go.RowKit Go.Sea
def zR (q : Nat) (a : Nat -> Int) : List Int := (List.range q).map a
theorem EO {q : Nat} {a : Nat -> Int} {y : Int} : y ∈ zR q a ↔ ∃ u, u < q /\ a u = y := by unfold zR; simp
theorem Kg {q : Nat} {a : Nat -> Int} {y : Int} : y ∈ zR q a ↔ iX q a y = true := by
  rw [EO]; unfold iX; rw [decide_eq_true_eq]
theorem MX {S : Nat -> aK} {m i : Nat} (hv : vsB S m = true) (hi : i < m) : (S i).q <= m := by
  refine yH (a := (S i).a) hv (decide_eq_true fun j hj => ?_)
  obtain ⟨h1, h2, h3, h4⟩ := (of_decide_eq_true hv).2 i hi
  refine ⟨Nat.lt_trans (FE hv hi hj) hi, ?_⟩
  unfold lsA
  split
  · rename_i e; subst e
    obtain ⟨t, g1, g2⟩ := CF hv hi hj
    have g3 := of_decide_eq_true ((of_decide_eq_true hv).2 t (by omega)).1
    rw [<- g2]; omega
  · have := of_decide_eq_true h3
    first
    | (have := this j (by omega) hj; omega)
    | (have := this j hj (by omega); omega)
    | (have := this j hj; omega)
    | (have := this (j - 1) (by omega); rw [show j - 1 + 1 = j by omega] at this; omega)
def ajE (S : Nat -> aK) (q : Nat) (a : Nat -> Int) (i : Nat) : Bool := iX q a (S i).nu
theorem Q8 {S : Nat -> aK} {m q : Nat} {a : Nat -> Int} (hv : vsB S m = true) (hs : fK S m q a = true) : JO S m a q = Ji (ajE S q a) m := by
  apply Nat.eq_of_testBit_eq
  intro t
  rw [Bool.eq_iff_iff, jS, mX]
  constructor
  · rintro ⟨u, h1, h2⟩
    have h3 := (of_decide_eq_true hs u h1).1
    have h4 := pE h3
    rw [h2] at h3 h4
    exact ⟨h3, Kg.1 (EO.2 ⟨u, h1, h4.symm⟩)⟩
  · rintro ⟨h1, h2⟩
    obtain ⟨u, h3, h4⟩ := EO.1 (Kg.2 h2)
    exact ⟨u, h3, by rw [h4]; exact zI hv h1⟩
def KQ (P : Nat -> Nat) (i : Nat) : Nat := 2 ^ i ||| P i
theorem uR {P : Nat -> Nat} {i t : Nat} : (KQ P i).testBit t = true ↔ t = i \/ (P i).testBit t = true := by
  unfold KQ; rw [Nat.testBit_or, Bool.or_eq_true, Nat.testBit_two_pow, decide_eq_true_eq]
  constructor
  · rintro (h | h)
    · exact Or.inl h.symm
    · exact Or.inr h
  · rintro (h | h)
    · exact Or.inl h.symm
    · exact Or.inr h
theorem WY {x : bF} (he : cB x = 0) {i : Nat} (hi : i < x.m) : iV x.m (KQ (dU x) i) := by
  obtain ⟨hv, _, _, _, hm, _⟩ := cK he
  refine Nat.or_lt_two_pow (Nat.pow_lt_pow_right (by decide) hi) (Nat.lt_of_lt_of_le (qV hv hm hi) (Nat.pow_le_pow_right (by decide) (by omega)))
theorem IZ {x : bF} (he : cB x = 0) {s : Nat} (hs : iV x.m s) (hc : Ij x s) (hf : NY x s) (h : ∀ i, s.testBit i = true -> jB x (KQ (dU x) i)) : jB x s := by
  obtain ⟨hv, hfe, hmo, hop, hm, hsum⟩ := cK he
  refine ⟨hc, hf, ?_⟩
  have h10 := dP hm hs
  rw [Tg (n := x.m) (fun i hi => mH hs hi) h10]
  have key : ∀ n, n <= x.m -> (eU (((List.range n).filter s.testBit).map (stM x)) (M0 x)).isSome = true := by
    intro n
    induction n with
    | zero => intro _; rfl
    | succ n ih =>
      intro hn
      have ih := ih (by omega)
      rw [List.range_succ, List.filter_append]
      cases hb : s.testBit n with
      | false => rw [List.filter_cons_of_neg (by rw [hb]; simp)]; simpa using ih
      | true =>
        rw [List.filter_cons_of_pos hb, List.filter_nil]
        refine Uk (stM x) (fun k => (dU x n).testBit k) ?_ ?_ ih ?_
        · refine List.Pairwise.imp_of_mem ?_ (List.Pairwise.sublist List.filter_sublist List.pairwise_lt_range : ((List.range n).filter s.testBit).Pairwise (· < ·))
          intro a b ha hb' hab h1 h2
          obtain ⟨ha1, ha2⟩ := List.mem_filter.1 ha
          obtain ⟨hb1, hb2⟩ := List.mem_filter.1 hb'
          have hb3 : b < n := List.mem_range.1 hb1
          refine M7 hab (by omega) ?_ (hf a b ha2 hb2)
          cases e : (dU x b).testBit a with
          | false => rfl
          | true =>
            have := Bc hv hm (n + 1) n (Nat.lt_succ_self n) (by omega) h1 e
            have h2 : (dU x n).testBit a = false := h2
            rw [show (dU x n).testBit a = true from this] at h2; cases h2
        · intro a ha h2
          obtain ⟨ha1, ha2⟩ := List.mem_filter.1 ha
          exact M7 (List.mem_range.1 ha1) (by omega) h2 (hf a n ha2 hb)
        · have h3 := (h n hb).2.2
          have hin := WY he (by omega : n < x.m)
          rw [Tg (n := n + 1) (fun i hi => by
            rcases uR.1 hi with rfl | g
            · exact Nat.lt_succ_self _
            · have := nK hv hm (by omega : n < x.m) g; omega) (dP hm hin), List.range_succ, List.filter_append, List.filter_cons_of_pos (uR.2 (Or.inl rfl)), List.filter_nil] at h3
          have e : ((List.range n).filter s.testBit).filter (fun k => (dU x n).testBit k) = (List.range n).filter (KQ (dU x) n).testBit := by
            rw [List.filter_filter]
            apply List.filter_congr
            intro i hi
            have hin : i < n := List.mem_range.1 hi
            rw [Bool.eq_iff_iff, Bool.and_eq_true, uR]
            constructor
            · rintro ⟨g, _⟩; exact Or.inr g
            · rintro (rfl | g)
              · omega
              · exact ⟨g, hc n hb i g⟩
          rw [e]; exact h3
  exact key x.m (Nat.le_refl _)
end Go.Proofs.YtmnejmpjmniiiaaGreatDoor
namespace Go.Proofs.YtmnejmpjmniiiaaGreatDoor
open Go.RowKit Go.Sea
open Nat renaming reduceAdd -> xA, reduceLT -> xL, reduceLeDiff -> xD, reduceEqDiff -> xE, reduceMul -> xM, reduceSub -> xS, reduceBEq -> xB
theorem Dl : aM Tryz.prog 12 = true := by kernel_rfl
theorem DI : aM Tryz.prog 14 = true := by kernel_rfl
theorem q9 : aM Tryz.prog 15 = true := by kernel_rfl
theorem yM : aM Tryz.prog 17 = true := by kernel_rfl
theorem yh : aM Tryz.prog 19 = true := by kernel_rfl
theorem yF : aM Tryz.prog 21 = true := by kernel_rfl
theorem kI : aM Tryz.prog 23 = true := by kernel_rfl
theorem D7 : aM Tryz.prog 24 = true := by kernel_rfl
theorem yD : aM Tryz.prog 26 = true := by kernel_rfl
theorem Oe : aM Tryz.prog 35 = true := by kernel_rfl
theorem Wj : dB Tryz.prog 26 0 = some 0 := by kernel_rfl
theorem YO : dB Tryz.prog 26 1 = some 1 := by kernel_rfl
theorem XF : dB Tryz.prog 26 2 = some 2 := by kernel_rfl
attribute [go_sem] Dl DI q9 yM yh yF kI D7 yD Oe Wj YO XF
theorem zA (q : Nat) (a : Nat -> Int) (m : Nat) (G : Nat -> Int) (F : Nat -> Nat -> IV) (hq : q <= 9223372036854775807) (hm : m <= 9223372036854775807) (h : ∀ i o, i < m -> o < 1 -> (F i o).eqv (.g (.int .i64 (G i)))) : au Tryz.prog 23 [.one (.lst 1 q (bG a)), .one (.lst 1 m F)] (.t (.one (.g (.bool (ze q m a G))))) :=
  (vD q m a G hq hm).eqv (args' := [.one (.lst 1 q (bG a)), .one (.lst 1 m F)]) ⟨IV.aG _, ⟨rfl, rfl, h⟩, trivial⟩ (PV.aG _)
theorem NC (x : bF) (hx : x.Ok) (q : Nat) (a : Nat -> Int) (hqq : q <= 9223372036854775807) (F : Nat -> Nat -> IV) (h : ∀ i o, i < q -> o < 1 -> (F i o).eqv (.g (.int .i64 (a i)))) : au Tryz.prog 15 [.one (.lst 9 x.n (bq x.f)), .one (.lst 2 x.m (fA x.S)), .one (.lst 1 x.mo (iJ x.O)), .one (.lst 1 q F)] (.tup [.one (.g (.bool (iN x q a))), .one (.g (.int .i64 (fH x q a)))]) :=
  (aav x hx q a hqq).eqv ⟨PT.aG _, PT.aG _, PT.aG _, ⟨rfl, rfl, h⟩, trivial⟩ (PV.aG _)
theorem ZJ (x : bF) (hx : x.Ok) (q : Nat) (a : Nat -> Int) (hqq : q <= 9223372036854775807) (F : Nat -> Nat -> IV) (h : ∀ i o, i < q -> o < 1 -> (F i o).eqv (.g (.int .i64 (a i)))) : au Tryz.prog 17 [.one (.lst 9 x.n (bq x.f)), .one (.lst 2 x.m (fA x.S)), .one (.lst 1 x.mo (iJ x.O)), .one (.lst 1 q F)] (.tup [.one (.lst 9 (GL x q a) (bq (pW x q a))), .one (.g (.int .i64 (K7 x q a)))]) :=
  (Zm x hx q a hqq).eqv ⟨PT.aG _, PT.aG _, PT.aG _, ⟨rfl, rfl, h⟩, trivial⟩ (PV.aG _)
theorem aal (x : bF) (hx : x.Ok) (h0 : x.n = 0) : au Tryz.prog 12 [.one (.lst 2 x.m (fA x.S)), .one (.lst 1 x.mo (iJ x.O))] (.tup [.one (.lst 4 (Kl x) (kF (BL x))), .one (.g (.int .i64 (cB x)))]) :=
  (af7 x hx h0).eqv ⟨PT.aG _, PT.aG _, trivial⟩ ⟨⟨rfl, rfl, fun i o _ _ => by rw [aey]; exact IV.aG _⟩, IV.aG _, trivial⟩
theorem aeh (x : bF) (hx : x.Ok) (h0 : x.n = 0) (F G : Nat -> Nat -> IV) (hF : ∀ i o, i < x.m -> o < 2 -> (F i o).eqv (fA x.S i o)) (hG : ∀ i o, i < x.mo -> o < 1 -> (G i o).eqv (iJ x.O i o)) : au Tryz.prog 21 [.one (.g (.slice none 0 0)), .one (.lst 2 x.m F), .one (.lst 1 x.mo G)] (.tup [.one (.lst 1 (kM x).length (bG (zL (kM x)))), .one (.g (.int .i64 (xX x)))]) :=
  (KC x hx).eqv ⟨by rw [h0]; exact vQ _, ⟨rfl, rfl, hF⟩, ⟨rfl, rfl, hG⟩, trivial⟩ (PV.aG _)
theorem ahF (x : bF) (hx : x.Ok) (h0 : x.n = 0) (F G : Nat -> Nat -> IV) (hF : ∀ i o, i < x.m -> o < 2 -> (F i o).eqv (fA x.S i o)) (hG : ∀ i o, i < x.mo -> o < 1 -> (G i o).eqv (iJ x.O i o)) : au Tryz.prog 26 [.one (.g (.slice none 0 0)), .one (.lst 2 x.m F), .one (.lst 1 x.mo G)] (.tup [.one (.lst 1 (oJ x).length (bG (zL (oJ x)))), .one (.g (.int .i64 (Kw x)))]) :=
  (Rw x hx).eqv ⟨by rw [h0]; exact vQ _, ⟨rfl, rfl, hF⟩, ⟨rfl, rfl, hG⟩, trivial⟩ (PV.aG _)
theorem agD (nn m : Nat) (V W : Nat -> Nat -> Int) (F : Nat -> Nat -> IV) (hn : nn <= 9223372036854775807) (hm : m <= 9223372036854775807) (h : ∀ i o, i < m -> o < 4 -> (F i o).eqv (kF W i o)) : au Tryz.prog 14 [.one (.lst 4 nn (kF V)), .one (.lst 4 m F)] (.t (.one (.g (.bool (Jw nn m V W))))) :=
  (Zu nn m V W hn hm).eqv ⟨IV.aG _, ⟨rfl, rfl, h⟩, trivial⟩ (PV.aG _)
theorem ahh (nn m : Nat) (f g : Nat -> aF) (F : Nat -> Nat -> IV) (hn : nn <= 9223372036854775807) (hm : m <= 9223372036854775807) (hf : ∀ i, i < nn -> (f i).Ok) (hg : ∀ i, i < m -> (g i).Ok) (h : ∀ i o, i < m -> o < 9 -> (F i o).eqv (bq g i o)) : au Tryz.prog 19 [.one (.lst 9 nn (bq f)), .one (.lst 9 m F)] (.t (.one (.g (.bool (JC nn m f g))))) :=
  (OB nn m f g hn hm hf hg).eqv ⟨IV.aG _, ⟨rfl, rfl, h⟩, trivial⟩ (PV.aG _)
def exV (i o : Nat) : Int := if o = 0 then (if i < 2 then 1 else if i < 4 then 2 else 3) else if o = 1 then (if i % 2 = 0 then 4 else 5) else 0
theorem ZV : Kl ex0 = 6 /\ Jw 6 6 (BL ex0) exV = true := ⟨by decide +kernel, by decide +kernel⟩
theorem aga : JC 1 1 (pW mG 3 (g3 1 2 3)) (fun _ => rZ 25 5) = true := by decide +kernel
theorem aiC : ze (kM mG).length 2 (zL (kM mG)) (g2 1 4) = true := by decide +kernel
theorem ael : ze (qw mG).length 3 (zL (qw mG)) (g3 1 2 3) = true := by decide +kernel
theorem aa1 : ze (oJ mG).length 1 (zL (oJ mG)) (g1 4) = true := by decide +kernel
theorem aie : ze (kM Fp).length 1 (zL (kM Fp)) (g1 1) = true := by decide +kernel
theorem ahq : ze (oJ Fp).length 1 (zL (oJ Fp)) (g1 1) = true := by decide +kernel
theorem BG : (kM mG).length = 2 /\ (qw mG).length = 3 /\ (oJ mG).length = 1 /\ (kM Fp).length = 1 /\ (oJ Fp).length = 1 := ⟨by decide +kernel, by decide +kernel, by decide +kernel, by decide +kernel, by decide +kernel⟩
theorem aby : ∀ i, i < 1 -> (pW mG 3 (g3 1 2 3) i).Ok := fun i hi => by
  obtain rfl : i = 0 := by omega
  exact yc (by decide +kernel)
theorem VD (d s : Int) : (rZ d s).Ok := ⟨by show (0 : Nat) <= _; decide, by show (0 : Nat) <= _; decide⟩
def L6 : List CV := [.iv (.g (.int .i64 1)), .iv (.g (.int .i64 4)), .iv (.g (.int .i64 0)), .iv (.g (.int .i64 0)), .iv (.g (.int .i64 1)), .iv (.g (.int .i64 5)), .iv (.g (.int .i64 0)), .iv (.g (.int .i64 0)), .iv (.g (.int .i64 2)), .iv (.g (.int .i64 4)), .iv (.g (.int .i64 0)), .iv (.g (.int .i64 0)), .iv (.g (.int .i64 2)), .iv (.g (.int .i64 5)), .iv (.g (.int .i64 0)), .iv (.g (.int .i64 0)), .iv (.g (.int .i64 3)), .iv (.g (.int .i64 4)), .iv (.g (.int .i64 0)), .iv (.g (.int .i64 0)), .iv (.g (.int .i64 3)), .iv (.g (.int .i64 5)), .iv (.g (.int .i64 0)), .iv (.g (.int .i64 0))]
theorem afs : ∀ i o, i < 6 -> o < 4 -> (Fu (L6.getD (i * 4 + o) .any)).eqv (kF exV i o) := fun i o hi ho => by
  rcases (by omega : i = 0 \/ i = 1 \/ i = 2 \/ i = 3 \/ i = 4 \/ i = 5) with rfl | rfl | rfl | rfl | rfl | rfl <;> rcases (by omega : o = 0 \/ o = 1 \/ o = 2 \/ o = 3) with rfl | rfl | rfl | rfl <;> exact rfl
set_option maxRecDepth 100000 in
set_option maxHeartbeats 16000000 in
theorem aaU  : au Tryz.prog 11 [] (.t (.one (.g (.bool true)))) := by
  refine ah Tryz.func11 rfl (by rw [Tryz.ntmps11]; simp) ?_
  simp only [Tryz.ntmps11, zM, PT.tv, ak, Nat.zero_add, Nat.reduceAdd]
  repeat' (first
 | ((with_reducible show bK _ _ true _ _ _ _ _ _ _); (with_reducible refine eO (fun _ => ?_) (fun h => by cases h)))
 | ((with_reducible show aN _ _ (some 234) _ _ _ _ _ _ _); (refine aj (k := 23) kI (zA (kM mG).length (zL (kM mG)) 2 (g2 1 4) _ (by rw [BG.1]; decide) (by decide) (fun i o hi ho => by obtain rfl : o = 0 := (by omega); rcases (by omega : i = 0 \/ i = 1) with rfl | rfl <;> rfl)) ?_ ?_))
 | ((with_reducible show aN _ _ (some 239) _ _ _ _ _ _ _); (refine aj (k := 23) kI (zA (qw mG).length (zL (qw mG)) 3 (g3 1 2 3) _ (by rw [BG.2.1]; decide) (by decide) (fun i o hi ho => by obtain rfl : o = 0 := (by omega); rcases (by omega : i = 0 \/ i = 1 \/ i = 2) with rfl | rfl | rfl <;> rfl)) ?_ ?_))
 | ((with_reducible show aN _ _ (some 244) _ _ _ _ _ _ _); (refine aj (k := 23) kI (zA (oJ mG).length (zL (oJ mG)) 1 (g1 4) _ (by rw [BG.2.2.1]; decide) (by decide) (fun i o hi ho => by obtain rfl : i = 0 := (by omega); obtain rfl : o = 0 := (by omega); rfl)) ?_ ?_))
 | ((with_reducible show aN _ _ (some 250) _ _ _ _ _ _ _); (refine aj (k := 23) kI (zA (kM Fp).length (zL (kM Fp)) 1 (g1 1) _ (by rw [BG.2.2.2.1]; decide) (by decide) (fun i o hi ho => by obtain rfl : i = 0 := (by omega); obtain rfl : o = 0 := (by omega); rfl)) ?_ ?_))
 | ((with_reducible show aN _ _ (some 255) _ _ _ _ _ _ _); (refine aj (k := 23) kI (zA (oJ Fp).length (zL (oJ Fp)) 1 (g1 1) _ (by rw [BG.2.2.2.2]; decide) (by decide) (fun i o hi ho => by obtain rfl : i = 0 := (by omega); obtain rfl : o = 0 := (by omega); rfl)) ?_ ?_))
 | ((with_reducible show aN _ _ (some 88) _ _ _ _ _ _ _); (refine GA (k := 17) [5] ?_ ?_))
 | ((with_reducible show aN _ _ (some 99) _ _ _ _ _ _ _); (refine GA (k := 17) [6] ?_ ?_))
 | ((with_reducible show aN _ _ (some 77) _ _ _ _ _ _ _); (refine aj (k := 15) q9 (NC mG iC 2 (g2 1 4) (by decide) _ (fun i o hi ho => by obtain rfl : o = 0 := (by omega); rcases (by omega : i = 0 \/ i = 1) with rfl | rfl <;> rfl)) ?_ ?_))
 | ((with_reducible show AW _ _ _ _); first
 | (with_reducible first | refine aS (fun K hK => ?_) | refine aT ?_)
 | (first
 | (with_reducible first | refine aP 0 [] ?_ | refine aP 1 [] ?_ | refine aP 2 [1] ?_ | refine aP 3 [1,2,3] ?_ | refine aP 4 [1,2,3,4,5] ?_ | refine aP 5 [1,2,3,4,5,6,7] ?_ | refine aP 6 [1,2,3,4,5,6,7,8,9] ?_ | refine aP 7 [1,2,3,4,5,6,7,8,9,10,11] ?_ | refine aP 8 [1,2,3,4,5,6,7,8,9,10,11,12,13] ?_ | refine aP 9 [1,2,3,4,5,6,7,8,9,10,11,12,13,15] ?_ | refine aP 10 [1,2,3,4,5,6,7,8,9,10,11,12,13,15,16,17] ?_ | refine aP 11 [1,2,3,4,5,6,7,8,9,10,11,12,13,15,16,17,18,19] ?_)
 | ((with_reducible refine aR (c := Code.region 12 _ true) [1,2,3,4,5,6,7,8,9,10,11,12,13,15,16,17,18,19,20,21] ?_); (with_reducible refine aD ?_ ?_ ?_ ?_); (focus kernel_rfl); (focus kernel_rfl); (focus kernel_rfl))
 | ((with_reducible refine aR (c := Code.region 13 _ true) [1,2,3,4,5,6,7,8,9,10,11,12,13,15,16,17,18,19,20,21,22,23] ?_); (with_reducible refine aD ?_ ?_ ?_ ?_); (focus kernel_rfl); (focus kernel_rfl); (focus kernel_rfl))
 | (with_reducible first | refine aP 14 [2,3,4,5,6,7,8,9,10,11,12,13,15,16,17,18,19,20,21,22,23,24,25] ?_ | refine aP 15 [2,4,6,8,10,12,16,18,20,22,24,26] ?_ | refine aP 16 [12,16,18,20,22,24,26] ?_ | refine aP 17 [22,24,26] ?_)))
 | ((first | (with_reducible refine And.intro ?_ ?_) | (with_reducible refine Need.mk ?_)); focus (first | exact True.intro | omega))
 | (with_reducible refine aA ?_)
 | ((with_reducible refine And.intro ?_ ?_); focus ((with_reducible show fB _ _ _ = true); kernel_rfl))
 | ((with_reducible show aN _ _ _ _ _ _ _ _ _ _); first
 | (refine aj (k := 35) Oe (afg) ?_ ?_)
 | (refine aj (k := 36) yg (QF 25 5) ?_ ?_)
 | (refine aj (k := 12) Dl (aal ex0 aa5 rfl) ?_ ?_)
 | (refine aj (k := 15) q9 (NC mG iC 3 (g3 1 2 3) (by decide) _ (fun i o hi ho => by obtain rfl : o = 0 := (by omega); rcases (by omega : i = 0 \/ i = 1 \/ i = 2) with rfl | rfl | rfl <;> rfl)) ?_ ?_)
 | (refine aj (k := 15) q9 (NC mG iC 2 (g2 4 5) (by decide) _ (fun i o hi ho => by obtain rfl : o = 0 := (by omega); rcases (by omega : i = 0 \/ i = 1) with rfl | rfl <;> rfl)) ?_ ?_)
 | (refine aj (k := 15) q9 (NC mG iC 1 (g1 3) (by decide) _ (fun i o hi ho => by obtain rfl : i = 0 := (by omega); obtain rfl : o = 0 := (by omega); rfl)) ?_ ?_)
 | (refine aj (k := 17) yM (ZJ mG iC 3 (g3 1 2 3) (by decide) _ (fun i o hi ho => by obtain rfl : o = 0 := (by omega); rcases (by omega : i = 0 \/ i = 1 \/ i = 2) with rfl | rfl | rfl <;> rfl)) ?_ ?_)
 | (refine aj (k := 17) yM (ZJ mG iC 1 (g1 3) (by decide) _ (fun i o hi ho => by obtain rfl : i = 0 := (by omega); obtain rfl : o = 0 := (by omega); rfl)) ?_ ?_)
 | (refine aj (k := 21) yF (KC mG iC) ?_ ?_)
 | (refine aj (k := 24) D7 (aar mG iC) ?_ ?_)
 | (refine aj (k := 26) yD (Rw mG iC) ?_ ?_)
 | (refine aj (k := 14) DI (agD 6 6 (BL ex0) exV (fun p o => Fu (L6.getD (p * 4 + o) .any)) (by decide) (by decide) afs) ?_ ?_)
 | (refine aj (k := 19) yh (ahh 1 1 (pW mG 3 (g3 1 2 3)) (fun _ => rZ 25 5) _ (by decide) (by decide) aby (fun _ _ => VD 25 5) (fun i u hi hu => by obtain rfl : i = 0 := (by omega); rcases (by omega : u = 0 \/ u = 1 \/ u = 2 \/ u = 3 \/ u = 4 \/ u = 5 \/ u = 6 \/ u = 7 \/ u = 8) with rfl | rfl | rfl | rfl | rfl | rfl | rfl | rfl | rfl <;> first | rfl | exact IV.aG _)) ?_ ?_))
 | ((with_reducible show dA _ _ _ _ _ _ _ _ _ _ _ _ _); first
 | (refine aV (k := 21) yF (aeh Fp U4 rfl _ _ (fun i o hi ho => IV.aG _) (fun i o hi ho => IV.aG _)) ?_ ?_)
 | (refine aV (k := 26) yD (ahF Fp U4 rfl _ _ (fun i o hi ho => IV.aG _) (fun i o hi ho => IV.aG _)) ?_ ?_))
 | ((fail_if_success (with_reducible show AW _ _ _ _)); simp (maxSteps := 2000000) only [go_sem, reduceIte, reduceCtorEq, xA, xL, xD, xE, xM, xS, xB, Tryz.f11, aaI.1, aaI.2.1, aaI.2.2, ZV.1, ZV.2, Zn.1, Zn.2, ZG.1, ZG.2, ZU.1, ZU.2, Z6.1, Z6.2, Z7.1, Z7.2, ahc, aga, afI.1, aiv.1, aiR.1, aiL.1, aiC, ael, aa1, aie, ahq, Bool.and_self, Int.reduceToNat])
 | ((with_reducible refine hK _ ?_); clear hK K))
end Go.Proofs.YtmnejmpjmniiiaaGreatDoor
set_option maxRecDepth 100000
set_option maxHeartbeats 4000000
namespace Go.Proofs.YtmnejmpjmniiiaaGreatDoor
open Go.RowKit Go.Sea
open Nat renaming reduceAdd -> xA, reduceLT -> xL, reduceLeDiff -> xD, reduceEqDiff -> xE, reduceMul -> xM, reduceSub -> xS, reduceBEq -> xB
theorem Mr : aM Tryz.prog 11 = true := by kernel_rfl
theorem kJ : aM Tryz.prog 28 = true := by kernel_rfl
theorem V5 : aM Tryz.prog 29 = true := by kernel_rfl
attribute [go_sem] Mr kJ V5
end Go.Proofs.YtmnejmpjmniiiaaGreatDoor
set_option maxRecDepth 100000
set_option maxHeartbeats 4000000
namespace Go.Proofs.YtmnejmpjmniiiaaGreatDoor
open Go.RowKit Go.Sea
open Nat renaming reduceAdd -> xA, reduceLT -> xL, reduceLeDiff -> xD, reduceEqDiff -> xE, reduceMul -> xM, reduceSub -> xS, reduceBEq -> xB
theorem XM : aM Tryz.prog 61 = true := by kernel_rfl
theorem VR : aM Tryz.prog 86 = true := by kernel_rfl
theorem ag4 : inD Tryz.prog 88 = some .u64 := by kernel_rfl
attribute [go_sem] XM VR ag4
def ajk : aK := ⟨0, 0, fun _ => 0⟩
def fnB (S : Nat -> aK) (m : Nat) (y : Int) : Bool := decide (eT S m y < m)
def fnS (S : Nat -> aK) (m : Nat) (y : Int) : aK := if fnB S m y = true then S (eT S m y) else ajk
def tkM (b : Nat -> Int) (i : Nat) : List Int := (List.range i).map b
def okO (S : Nat -> aK) (m : Nat) (b : Nat -> Int) (i : Nat) : Prop := fnB S m (b i) = true /\ (tkM b i).contains (b i) = false /\ Xk (tkM b i) (fnS S m (b i)).q (fnS S m (b i)).a = true
instance (S : Nat -> aK) (m : Nat) (b : Nat -> Int) (i : Nat) : Decidable (okO S m b i) := by unfold okO; infer_instance
end Go.Proofs.YtmnejmpjmniiiaaGreatDoor
namespace Go.Proofs.YtmnejmpjmniiiaaGreatDoor
open Go.RowKit Go.Sea
def lI (c : Nat -> Nat) (i : Nat) : List Nat := (List.range i).map c
theorem XR (c : Nat -> Nat) (i : Nat) : lI c (i + 1) = lI c i ++ [c i] := by unfold lI; rw [List.range_succ, List.map_append]; rfl
theorem Qi {c : Nat -> Nat} {i t : Nat} : t ∈ lI c i ↔ ∃ j, j < i /\ c j = t := by unfold lI; simp
theorem MC (w n : Nat) (P : Nat -> Nat -> Int) : zy w n n P P = true := decide_eq_true ⟨rfl, fun _ _ _ _ => rfl⟩
theorem WM (f : aF) : tF f f = true := by unfold tF; rw [MC, MC, decide_eq_true (by simp)]; rfl
end Go.Proofs.YtmnejmpjmniiiaaGreatDoor
namespace Go.Proofs.YtmnejmpjmniiiaaGreatDoor
open Go.RowKit Go.Sea
open Nat renaming reduceAdd -> xA, reduceLT -> xL, reduceLeDiff -> xD, reduceEqDiff -> xE, reduceMul -> xM, reduceSub -> xS, reduceBEq -> xB
theorem kG : aM Tryz.prog 32 = true := by kernel_rfl
theorem XB : aM Tryz.prog 33 = true := by kernel_rfl
attribute [go_sem] kG XB
theorem aiT {x : bF} {q : Nat} {a : Nat -> Int} (h : K7 x q a ≠ 0) : GL x q a = 0 := by
  by_cases h1 : fH x q a = 0
  · cases h2 : iN x q a with
    | true => exact absurd (YM h1 h2).1 h
    | false => exact (Y9 h1 h2).2
  · exact (Xu h1).2
theorem afd {x : bF} {q : Nat} {a : Nat -> Int} (h : K7 x q a = 0) : fH x q a = 0 /\ iN x q a = true /\ GL x q a = rX x q a := by
  by_cases h1 : fH x q a = 0
  · cases h2 : iN x q a with
    | true => exact ⟨h1, rfl, (YM h1 h2).2⟩
    | false => have := (Y9 h1 h2).1; omega
  · have := (Xu h1).1; omega
theorem abD (x : bF) (c : Nat -> Nat) (i : Nat) : zQ (gD x.O (j3 x) (lI c i)) (x.O (c i)) = gD x.O (j3 x) (lI c (i + 1)) := by rw [XR, Ti]
theorem XH {x : bF} (hx : x.Ok) {q : Nat} {a : Nat -> Int} (h : fH x q a = 0) (hb : iN x q a = true) : rX x q a <= 300 /\ ∀ i, i < rX x q a -> (pW x q a i).Ok := by
  obtain ⟨he, hs, hin, hB⟩ := uh h
  rw [hB] at hb
  have e : rX x q a = (gD x.O (j3 x) (bl (eG x q a))).n := by
    unfold rX Ht; rw [if_pos h, if_pos hb]; rfl
  have hr : gu x.O (j3 x) (bl (eG x q a)) = true := by
    unfold dS at hb; rw [Bool.and_eq_true] at hb; exact hb.2
  have := yG (X := j3 x) ⟨(of_decide_eq_true (cK he).2.1).1, hx.f⟩ hr
  rw [e]; exact ⟨this.n, this.f⟩
def cI (x : bF) (b : Nat -> Int) (k : Nat) : Nat := eT x.S x.m (b k)
end Go.Proofs.YtmnejmpjmniiiaaGreatDoor
namespace Go.Proofs.YtmnejmpjmniiiaaGreatDoor
open Go.RowKit Go.Sea
open Nat renaming reduceAdd -> xA, reduceLT -> xL, reduceLeDiff -> xD, reduceEqDiff -> xE, reduceMul -> xM, reduceSub -> xS, reduceBEq -> xB
theorem Xl : aM Tryz.prog 30 = true := by kernel_rfl
theorem WC : dB Tryz.prog 50 0 = some 0 := by kernel_rfl
theorem Wt : dB Tryz.prog 50 1 = some 1 := by kernel_rfl
attribute [go_sem] Xl WC Wt
def x0 (x : bF) : bF := { x with n := 0 }
theorem aao {x : bF} (hx : x.Ok) : (x0 x).Ok := ⟨Nat.zero_le _, fun i h => absurd h (Nat.not_lt_zero i), hx.m, hx.q, hx.mo, hx.k, hx.o⟩
theorem ajc {x : bF} (h : cB x = 0) : cB (x0 x) = 0 := by
  obtain ⟨hv, hf, hmo, hop, hm, hs⟩ := cK h
  have h0 : ¬ Fb (x0 x) := by
    rintro (g | g | g | ⟨i, hi, g⟩)
    · exact absurd (g.symm.trans hv) (by decide)
    · exact absurd g (by show ¬ gM 0 x.f = false; simp [gM])
    · exact g hmo
    · exact absurd (g.symm.trans (hop i hi)) (by decide)
  unfold cB
  rw [if_neg h0, if_neg (by show ¬ (x.m > 10 \/ 0 + O7 x.O x.mo > 300); omega)]
theorem RP (x : bF) (hm : x.m <= 10) : (mg x).length <= 100 :=
  Nat.le_trans (vR _ _ _ x.m) (show x.m * x.m <= 10 * 10 from Nat.mul_le_mul hm hm)
theorem aif (x : bF) (hx : x.Ok) : au Tryz.prog 12 [.one (.lst 2 x.m (fA x.S)), .one (.lst 1 x.mo (iJ x.O))] (.tup [.one (.lst 4 (Kl (x0 x)) (kF (BL x))), .one (.g (.int .i64 (cB (x0 x))))]) := aal (x0 x) (aao hx) rfl
end Go.Proofs.YtmnejmpjmniiiaaGreatDoor
namespace Go.Proofs.YtmnejmpjmniiiaaGreatDoor
open Go.RowKit Go.Sea
theorem Qh : ∀ d, d < 1024 -> 0 < d -> d.testBit (cz d) = true /\ cz d < 10 /\ ∀ e, e < cz d -> d.testBit e = false := by decide +kernel
def vk (s t : Nat) : Prop := ∃ d, s.testBit d = true /\ t.testBit d = false /\ ∀ e, e < d -> s.testBit e = t.testBit e
theorem K8 {s t : Nat} (hs : s < 1024) (ht : t < 1024) (h : vk s t) : xU s t = true := by
  obtain ⟨d, h1, h2, h3⟩ := h
  have hx := J8 hs ht
  have hd : (s ^^^ t).testBit d = true := by rw [Nat.testBit_xor, h1, h2]; rfl
  have h0 : 0 < s ^^^ t := Nat.pos_of_ne_zero fun e => by rw [e] at hd; simp at hd
  obtain ⟨g1, g2, g3⟩ := Qh _ hx h0
  have e : cz (s ^^^ t) = d := by
    rcases Nat.lt_trichotomy (cz (s ^^^ t)) d with g | g | g
    · rw [Nat.testBit_xor, h3 _ g] at g1; simp at g1
    · exact g
    · rw [g3 d g] at hd; cases hd
  unfold xU lb
  rw [decide_eq_true_eq, if_neg (by omega), e]
  intro z
  have : (s &&& 2 ^ d).testBit d = true := by rw [Nat.testBit_and, h1, Nat.testBit_two_pow]; simp
  rw [z] at this; simp at this
theorem Li {s t : Nat} (hs : s < 1024) (ht : t < 1024) (h : xU s t = true) : vk s t := by
  have hx := J8 hs ht
  unfold xU lb at h
  rw [decide_eq_true_eq] at h
  have h0 : s ^^^ t ≠ 0 := fun e => by rw [if_pos e] at h; simp at h
  rw [if_neg h0] at h
  obtain ⟨g1, g2, g3⟩ := Qh _ hx (by omega)
  have h1 : s.testBit (cz (s ^^^ t)) = true := by
    cases e : s.testBit (cz (s ^^^ t)) with
    | true => rfl
    | false =>
      refine absurd ?_ h
      apply Nat.eq_of_testBit_eq
      intro i
      rw [Nat.testBit_and, Nat.testBit_two_pow, Nat.zero_testBit]
      by_cases hi : cz (s ^^^ t) = i
      · rw [<- hi, e]; rfl
      · rw [decide_eq_false hi]; simp
  refine ⟨cz (s ^^^ t), h1, ?_, fun e he => ?_⟩
  · rw [Nat.testBit_xor, h1] at g1
    cases e : t.testBit (cz (s ^^^ t)) with
    | false => rfl
    | true => rw [e] at g1; cases g1
  · have := g3 e he
    rw [Nat.testBit_xor] at this
    cases a : s.testBit e <;> cases b : t.testBit e <;> rw [a, b] at this <;> first | rfl | cases this
theorem vk.trans {a b c : Nat} (h : vk a b) (g : vk b c) : vk a c := by
  obtain ⟨d, h1, h2, h3⟩ := h
  obtain ⟨e, g1, g2, g3⟩ := g
  rcases Nat.lt_trichotomy d e with q | q | q
  · exact ⟨d, h1, by rw [<- g3 d q]; exact h2, fun k hk => (h3 k hk).trans (g3 k (by omega))⟩
  · subst q; rw [h2] at g1; cases g1
  · exact ⟨e, by rw [h3 e q]; exact g1, g2, fun k hk => (h3 k (by omega)).trans (g3 k hk)⟩
theorem KF {w : Nat -> Nat -> Bool} {g : Nat -> Bool} {M : Nat} (ir : ∀ a, a < M -> w a a = false) (tr : ∀ a b c, a < M -> b < M -> c < M -> w a b = true -> w b c = true -> w a c = true) : ∀ n, n <= M ->
    ((iK w g n).2 = true -> (iK w g n).1 < n /\ g (iK w g n).1 = true /\ ∀ s, s < n -> g s = true -> w (iK w g n).1 s = false) /\ ((iK w g n).2 = false -> ∀ s, s < n -> g s = false)
  | 0, _ => ⟨fun h => Bool.noConfusion (h : false = true), fun _ s hs => absurd hs (Nat.not_lt_zero s)⟩
  | n + 1, hn => by
    obtain ⟨ih1, ih2⟩ := KF (g := g) ir tr n (by omega)
    rcases EH w g n with ⟨e1, _, e3, e4⟩ | ⟨e1, _, e3, e4⟩ | ⟨e1, e2, _, e4⟩ | ⟨e1, e2, e3, e4⟩ | ⟨e1, e2, e3, e4⟩ <;> rw [e4]
    · refine ⟨fun _ => ⟨Nat.lt_succ_self n, e3, fun s hs hg => ?_⟩, fun h => Bool.noConfusion (h : true = false)⟩
      rcases (by omega : s < n \/ s = n) with q | q
      · exact absurd (hg.symm.trans (ih2 e1 s q)) (by decide)
      · rw [q]; exact ir n (by omega)
    · refine ⟨fun h => absurd (h.symm.trans e1) (by decide), fun _ s hs => ?_⟩
      rcases (by omega : s < n \/ s = n) with q | q
      · exact ih2 e1 s q
      · rw [q]; exact e3
    · refine ⟨fun h => ?_, fun h => absurd (h.symm.trans e1) (by decide)⟩
      obtain ⟨a1, a2, a3⟩ := ih1 e1
      refine ⟨by omega, a2, fun s hs hg => ?_⟩
      rcases (by omega : s < n \/ s = n) with q | q
      · exact a3 s q hg
      · rw [q]; exact e2
    · obtain ⟨a1, a2, a3⟩ := ih1 e1
      refine ⟨fun _ => ⟨Nat.lt_succ_self n, e3, fun s hs hg => ?_⟩, fun h => Bool.noConfusion (h : true = false)⟩
      show w n s = false
      rcases (by omega : s < n \/ s = n) with q | q
      · cases h : w n s with
        | false => rfl
        | true => exact absurd ((tr _ n s (by omega) (by omega) (by omega) e2 h).symm.trans (a3 s q hg)) (by decide)
      · rw [q]; exact ir n (by omega)
    · refine ⟨fun h => ?_, fun h => absurd (h.symm.trans e1) (by decide)⟩
      obtain ⟨a1, a2, a3⟩ := ih1 e1
      refine ⟨by omega, a2, fun s hs hg => ?_⟩
      rcases (by omega : s < n \/ s = n) with q | q
      · exact a3 s q hg
      · rw [q] at hg; exact absurd (hg.symm.trans e3) (by decide)
theorem vk.irr {a : Nat} (h : vk a a) : False := by
  obtain ⟨d, h1, h2, _⟩ := h; rw [h1] at h2; cases h2
theorem qH {s t : Nat} (hs : s < 1024) (ht : t < 1024) : gT s t = true ↔ cnt t < cnt s \/ cnt t = cnt s /\ vk t s := by
  unfold gT
  rw [Bool.or_eq_true, Bool.and_eq_true, decide_eq_true_eq, decide_eq_true_eq]
  exact or_congr Iff.rfl (and_congr Iff.rfl ⟨Li ht hs, K8 ht hs⟩)
theorem qG {s t : Nat} (hs : s < 1024) (ht : t < 1024) : iY s t = true ↔ cnt s < cnt t \/ cnt t = cnt s /\ vk t s := by
  unfold iY
  rw [Bool.or_eq_true, Bool.and_eq_true, decide_eq_true_eq, decide_eq_true_eq]
  exact or_congr Iff.rfl (and_congr Iff.rfl ⟨Li ht hs, K8 ht hs⟩)
theorem Vy (a : Nat) (h : a < 1024) : gT a a = false := by
  cases e : gT a a with
  | false => rfl
  | true => rcases (qH h h).1 e with g | g
            · omega
            · exact g.2.irr.elim
theorem YJ (a : Nat) (h : a < 1024) : iY a a = false := by
  cases e : iY a a with
  | false => rfl
  | true => rcases (qG h h).1 e with g | g
            · omega
            · exact g.2.irr.elim
theorem VU (a b c : Nat) (ha : a < 1024) (hb : b < 1024) (hc : c < 1024) (h : gT a b = true) (g : gT b c = true) : gT a c = true := by
  refine (qH ha hc).2 ?_
  rcases (qH ha hb).1 h with h | ⟨h, h2⟩ <;> rcases (qH hb hc).1 g with g | ⟨g, g2⟩
  · exact Or.inl (by omega)
  · exact Or.inl (by omega)
  · exact Or.inl (by omega)
  · exact Or.inr ⟨by omega, g2.trans h2⟩
theorem X6 (a b c : Nat) (ha : a < 1024) (hb : b < 1024) (hc : c < 1024) (h : iY a b = true) (g : iY b c = true) : iY a c = true := by
  refine (qG ha hc).2 ?_
  rcases (qG ha hb).1 h with h | ⟨h, h2⟩ <;> rcases (qG hb hc).1 g with g | ⟨g, g2⟩
  · exact Or.inl (by omega)
  · exact Or.inl (by omega)
  · exact Or.inl (by omega)
  · exact Or.inr ⟨by omega, g2.trans h2⟩
theorem j4 {m : Nat} (hm : m <= 10) : 2 ^ m <= 1024 := Nat.pow_le_pow_right (n := 2) (by decide) hm
structure Ut (x : bF) (b : Nat) : Prop where
  s : iV x.m b
  n : ¬ jB x (iR (dU x) b)
  m : ∀ s, iV x.m s -> ¬ jB x (iR (dU x) s) -> ¬ (cnt s < cnt b \/ cnt s = cnt b /\ vk s b)
theorem Nz {x : bF} (he : cB x = 0) {s : Nat} (hs : iV x.m s) : pq x s = true ↔ ¬ jB x (iR (dU x) s) := by
  unfold pq
  rw [<- mD he (Br he hs)]; simp
theorem ahG {x : bF} (he : cB x = 0) (h : (Jq x).2 = true) : Ut x (Jq x).1 := by
  have hm := (cK he).2.2.2.2.1
  obtain ⟨h1, h2, h3⟩ := (KF (w := gT) (g := pq x) Vy VU (2 ^ x.m) (j4 hm)).1 h
  have hin : iV x.m (Jq x).1 := h1
  refine ⟨hin, (Nz he hin).1 h2, fun s hs hn hw => ?_⟩
  have := h3 s hs ((Nz he hs).2 hn)
  have e := (qH (dP hm hin) (dP hm hs)).2 hw
  exact absurd (e.symm.trans this) (by decide)
theorem M6 {x : bF} (he : cB x = 0) {s : Nat} (hs : iV x.m s) {i : Nat} (hi : s.testBit i = true) : (iR (dU x) s).testBit i = true :=
  (ow (dP (cK he).2.2.2.2.1 hs) i).2 (Or.inl hi)
theorem aa7 {x : bF} (he : cB x = 0) {s : Nat} (hs : iV x.m s) : Ij x (iR (dU x) s) := by
  obtain ⟨hv, _, _, _, hm, _⟩ := cK he
  intro i hi k hk
  refine (ow (dP hm hs) k).2 (Or.inr ?_)
  rcases (ow (dP hm hs) i).1 hi with h | ⟨j, h1, h2⟩
  · exact ⟨i, h, hk⟩
  · exact ⟨j, h1, Bc hv hm (j + 1) j (Nat.lt_succ_self j) (mH hs h1) h2 hk⟩
theorem ahT : ∀ i, i < 10 -> bl (2 ^ i) = [i] := by decide +kernel
theorem acA : ∀ i, i < 10 -> ∀ k, k < 10 -> i < k -> bl (2 ^ i ||| 2 ^ k) = [i, k] := by decide +kernel
theorem Oj {m i : Nat} (h : i < m) : iV m (2 ^ i) := Nat.pow_lt_pow_right (by decide) h
theorem Ls {m i k : Nat} (h : i < m) (g : k < m) : iV m (2 ^ i ||| 2 ^ k) := Nat.or_lt_two_pow (Oj h) (Oj g)
theorem A8 {i t : Nat} : (2 ^ i).testBit t = true ↔ t = i := by rw [Nat.testBit_two_pow, decide_eq_true_eq]; exact eq_comm
theorem MK {i k t : Nat} : (2 ^ i ||| 2 ^ k).testBit t = true ↔ t = i \/ t = k := by rw [Nat.testBit_or, Bool.or_eq_true, A8, A8]
theorem Ze {x : bF} (he : cB x = 0) {c : Nat} (hc : iV x.m c) (hcl : Ij x c) (h : ¬ jB x c) : (∃ i, c.testBit i = true /\ ¬ jB x (KQ (dU x) i)) \/ ∃ i k, c.testBit i = true /\ c.testBit k = true /\ (i, k) ∈ mg x := by
  refine Classical.byContradiction fun g => h (IZ he hc hcl (fun i k hi hk => ?_) fun i hi => ?_)
  · cases e : (fP (mg x) i).testBit k with
    | false => rfl
    | true =>
      rcases (yE (x := x) i k).1 e with q | q
      · exact (g (Or.inr ⟨i, k, hi, hk, q⟩)).elim
      · exact (g (Or.inr ⟨k, i, hk, hi, q⟩)).elim
  · exact Classical.byContradiction fun q => g (Or.inl ⟨i, hi, q⟩)
theorem QJ {x : bF} (he : cB x = 0) {i : Nat} (hi : i < x.m) : iR (dU x) (2 ^ i) = KQ (dU x) i := by
  apply Nat.eq_of_testBit_eq
  intro t
  rw [Bool.eq_iff_iff, ow (dP (cK he).2.2.2.2.1 (Oj hi)), uR, A8]
  refine or_congr Iff.rfl ⟨fun ⟨j, h1, h2⟩ => ?_, fun h => ⟨i, A8.2 rfl, h⟩⟩
  rw [A8.1 h1] at h2; exact h2
theorem M9 {x : bF} (he : cB x = 0) {i k : Nat} (h : (i, k) ∈ mg x) {c : Nat} (hi : c.testBit i = true) (hk : c.testBit k = true) : ¬ jB x c := fun g => by
  have := g.2.1 i k hi hk
  rw [(yE (x := x) i k).2 (Or.inl h)] at this; cases this
theorem Y5 {x : bF} (he : cB x = 0) {b : Nat} (h : Ut x b) : 1 <= cnt b /\ cnt b <= 2 := by
  obtain ⟨hv, _, _, _, hm, _⟩ := cK he
  constructor
  · refine Nat.pos_of_ne_zero fun e => h.n ?_
    have e2 : bl b = [] := List.length_eq_zero_iff.1 e
    have e3 : b = 0 := by
      refine Nn (dP hm h.s) (by decide) fun i hi => ?_
      cases g : b.testBit i with
      | false => simp
      | true => have := Aj.2 ⟨hi, g⟩; rw [e2] at this; simp at this
    subst e3
    have e4 : iR (dU x) 0 = 0 := rfl
    rw [e4]
    exact ⟨fun i hi => by simp at hi, fun i k hi => by simp at hi, rfl⟩
  · rcases Ze he (Br he h.s) (aa7 he h.s) h.n with ⟨i, h1, h2⟩ | ⟨i, k, h1, h2, h3⟩
    · have hi := mH (Br he h.s) h1
      have := h.m (2 ^ i) (Oj hi) (by rw [QJ he hi]; exact h2)
      have e : cnt (2 ^ i) = 1 := by unfold cnt; rw [ahT i (by omega)]; rfl
      omega
    · have hp := vw.1 h3
      have hk : k < x.m := hp.2.1
      have hik : i < k := hp.1
      have := h.m (2 ^ i ||| 2 ^ k) (Ls (by omega) hk) (M9 he h3 (M6 he (Ls (by omega) hk) (MK.2 (Or.inl rfl))) (M6 he (Ls (by omega) hk) (MK.2 (Or.inr rfl))))
      have e : cnt (2 ^ i ||| 2 ^ k) = 2 := by unfold cnt; rw [acA i (by omega) k (by omega) hik]; rfl
      omega
theorem adJ {l : List Int} {y : Int} : iX l.length (zL l) y = true ↔ y ∈ l := TD
theorem JH {S : Nat -> aK} {m i k : Nat} (hv : vsB S m = true) (hi : i < m) (hk : k < m) (h : (S i).nu = (S k).nu) : i = k := by
  rcases Nat.lt_trichotomy i k with g | g | g
  · have := vL hv g hk; omega
  · exact g
  · have := vL hv g hi; omega
theorem YX {S : Nat -> aK} {T : Nat -> Bool} {m : Nat} (hv : vsB S m = true) {i : Nat} (hi : i < m) : (S i).nu ∈ jE S T m ↔ T i = true := by
  unfold jE
  rw [List.mem_map]
  constructor
  · rintro ⟨k, h1, h2⟩
    obtain ⟨g1, g2⟩ := u6.1 h1
    rw [JH hv hi g1 h2.symm]; exact g2
  · intro h; exact ⟨i, u6.2 ⟨hi, h⟩, rfl⟩
theorem FJ {m s : Nat} (h : iV m s) : Ji s.testBit m = s := by
  apply Nat.eq_of_testBit_eq
  intro t
  rw [Bool.eq_iff_iff, mX]
  exact ⟨fun g => g.2, fun g => ⟨mH h g, g⟩⟩
theorem Vn {S : Nat -> aK} {m s : Nat} (hm : m <= 10) (h : iV m s) : xR S (bl s) = jE S s.testBit m := by
  unfold xR jE xY
  rw [Tg (n := m) (fun i hi => mH h hi) (dP hm h)]
theorem aeX {x : bF} (he : cB x = 0) {s : Nat} (h : iV x.m s) : fH x (xR x.S (bl s)).length (zL (xR x.S (bl s))) = 0 /\ iN x (xR x.S (bl s)).length (zL (xR x.S (bl s))) = dS (iU x) s := by
  have hm := (cK he).2.2.2.2.1
  rw [Vn hm h]
  have := ag8 he s.testBit
  rwa [FJ h] at this
theorem aa4 {x : bF} (he : cB x = 0) {s : Nat} (h : iV x.m s) (g : ¬ jB x s) : dS (iU x) s = false := by
  cases e : dS (iU x) s with
  | false => rfl
  | true => exact (g ((mD he h).1 e)).elim
def og (q : Nat) (a : Nat -> Int) (r : Nat) (c : Nat -> Int) : Bool :=
  if fQ (fun j => decide (a j ≠ c j)) (min q r) < min q r then decide (a (fQ (fun j => decide (a j ≠ c j)) (min q r)) < c (fQ (fun j => decide (a j ≠ c j)) (min q r))) else false
theorem agT {q r i : Nat} {a c : Nat -> Int} (hi : (i : Int) < q) (hr : (i : Int) < r) (h : a i ≠ c i) (g : ∀ k, k < i -> a k = c k) : decide (a i < c i) = og q a r c := by
  have e : fQ (fun j => decide (a j ≠ c j)) (min q r) = i := ku (b := fun j => decide (a j ≠ c j)) (decide_eq_true h) (fun j hj => decide_eq_false (fun n => n (g j hj))) _ (by omega)
  unfold og; rw [e, if_pos (by omega)]
theorem ahj {q r i : Nat} {a c : Nat -> Int} (hi : (q : Int) <= i \/ (r : Int) <= i) (g : ∀ k, k < i -> a k = c k) : false = og q a r c := by
  have e : fQ (fun j => decide (a j ≠ c j)) (min q r) = min q r := mO _ fun j hj => decide_eq_false (fun n => n (g j (by omega)))
  unfold og; rw [e, if_neg (by omega)]
theorem ahz {q r : Nat} {a c : Nat -> Int} (h : og q a r c = true) : ∃ j, j < q /\ j < r /\ a j < c j /\ ∀ k, k < j -> a k = c k := by
  unfold og at h
  split at h
  · rename_i g
    refine ⟨_, by omega, by omega, of_decide_eq_true h, fun k hk => ?_⟩
    have := rR (b := fun j => decide (a j ≠ c j)) (min q r) k hk
    exact Classical.byContradiction fun n => by
      have := of_decide_eq_false this
      exact this n
  · cases h
theorem wz {S : Nat -> aK} {m q : Nat} {a : Nat -> Int} (hv : vsB S m = true) (h : fK S m q a = true) : (∀ j, j < q -> eT S m (a j) < m /\ (S (eT S m (a j))).nu = a j) /\ ∀ j k, j < k -> k < q -> eT S m (a j) < eT S m (a k) := by
  have hs := of_decide_eq_true h
  have h1 : ∀ j, j < q -> eT S m (a j) < m /\ (S (eT S m (a j))).nu = a j := fun j hj => ⟨(hs j hj).1, pE (hs j hj).1⟩
  have up : ∀ k j, j < k -> k < q -> a j < a k := by
    intro k
    induction k with
    | zero => intro j h; omega
    | succ k ih =>
      intro j hj hk
      have h2 := (hs (k + 1) hk).2
      rw [oG] at h2
      rcases (by omega : j < k \/ j = k) with g | g
      · have := ih j g (by omega); omega
      · rw [g]; exact h2
  refine ⟨h1, fun j k hjk hk => ?_⟩
  have := up k j hjk hk
  rcases Nat.lt_trichotomy (eT S m (a j)) (eT S m (a k)) with g | g | g
  · exact g
  · have e1 := (h1 j (by omega)).2; have e2 := (h1 k hk).2; rw [g, e2] at e1; omega
  · have := vL hv g (h1 j (by omega)).1; rw [(h1 j (by omega)).2, (h1 k hk).2] at this; omega
theorem VX {x : bF} {q : Nat} {a : Nat -> Int} (h : fH x q a = 0) {b : Nat} (hb : iV x.m b) (hf : og q a (xR x.S (bl b)).length (zL (xR x.S (bl b))) = true) : vk (eG x q a) b := by
  obtain ⟨he, hs, hin, _⟩ := uh h
  obtain ⟨hv, _, _, _, hm, _⟩ := cK he
  obtain ⟨h1, h2⟩ := wz hv hs
  obtain ⟨j, g1, g2, g3, g4⟩ := ahz hf
  rw [kQ] at g2
  have hc : ∀ k (hk : k < (bl b).length), zL (xR x.S (bl b)) k = (x.S (bl b)[k]).nu := fun k hk => by
    unfold zL xR; simp [List.getD_eq_getElem?_getD, List.getElem?_eq_getElem hk]
  have hcm : ∀ k (hk : k < (bl b).length), (bl b)[k] < x.m := fun k hk => rP hb (List.getElem_mem hk)
  have hup : ∀ i k (hi : i < (bl b).length) (hk : k < (bl b).length), i < k -> (bl b)[i] < (bl b)[k] := fun i k hi hk hik => List.pairwise_iff_getElem.1 (aam b) i k hi hk hik
  have heq : ∀ k (hk : k < j), eT x.S x.m (a k) = (bl b)[k]'(by omega) := fun k hk => by
    have := g4 k hk
    rw [hc k (by omega), <- (h1 k (by omega)).2] at this
    exact JH hv (h1 k (by omega)).1 (hcm k (by omega)) this
  have hlt : eT x.S x.m (a j) < (bl b)[j] := by
    rw [hc j g2, <- (h1 j g1).2] at g3
    rcases Nat.lt_or_ge (eT x.S x.m (a j)) (bl b)[j] with q | q
    · exact q
    · rcases Nat.lt_or_eq_of_le q with q | q
      · have := vL hv q (h1 j g1).1; omega
      · rw [q] at g3; omega
  have hbm : ∀ t, b.testBit t = true ↔ ∃ k, ∃ hk : k < (bl b).length, (bl b)[k] = t := fun t => by
    rw [<- Af (dP hm hb), List.mem_iff_getElem]
  refine ⟨eT x.S x.m (a j), (jS q).2 ⟨j, g1, rfl⟩, ?_, fun e hlt2 => ?_⟩
  · cases g : b.testBit (eT x.S x.m (a j)) with
    | false => rfl
    | true =>
      obtain ⟨k, hk, e⟩ := (hbm _).1 g
      rcases Nat.lt_trichotomy k j with q | q | q
      · have := h2 k j q g1; rw [heq k q] at this; omega
      · subst q; omega
      · have := hup j k g2 hk q; omega
  · rw [Bool.eq_iff_iff, hbm]
    constructor
    · intro h
      obtain ⟨k, hk, e2⟩ := (jS q).1 h
      have hkj : k < j := by
        rcases Nat.lt_trichotomy k j with q | q | q
        · exact q
        · subst q; omega
        · have := h2 j k q hk; omega
      exact ⟨k, by omega, by rw [<- heq k hkj]; exact e2⟩
    · rintro ⟨k, hk, e2⟩
      have hkj : k < j := by
        rcases Nat.lt_trichotomy k j with q | q | q
        · exact q
        · subst q; omega
        · have := hup j k g2 hk q; omega
      exact (jS q).2 ⟨k, by omega, by rw [heq k hkj]; exact e2⟩
def fwS (n : Nat) (O : Nat -> wB) : Nat -> Int
  | 0 => n
  | i + 1 => IntKind.i64.wrap (fwS n O i + ((O i).k : Int))
theorem Sb (n : Nat) (O : Nat -> wB) : fwS n O 0 = n := rfl
def ajw (x : bF) : Bool := decide (x.m <= 6) && decide (x.mo <= 20) && decide (fwS x.n x.O (min x.mo 20) <= 60)
theorem ai8 {x : bF} (he : cB x = 0) (h : xX x = 0) : Ut x (Jq x).1 /\ kM x = xR x.S (bl (Jq x).1) /\ (Jq x).2 = true := by
  unfold xX at h
  rw [if_pos he] at h
  split at h
  · rename_i g
    exact ⟨ahG he g, by unfold kM; rw [if_pos he, if_pos g], g⟩
  · exact absurd h (by decide)
theorem aaM {x : bF} (he : cB x = 0) (h : xX x = 0) : 1 <= (kM x).length /\ (kM x).length <= 2 := by
  obtain ⟨hc, hL, _⟩ := ai8 he h
  rw [hL, kQ]; exact Y5 he hc
structure ai4 (x : bF) (b : Nat) : Prop where
  s : iV x.m b
  n : jB x b
  m : ∀ s, iV x.m s -> jB x s -> ¬ (cnt b < cnt s \/ cnt s = cnt b /\ vk s b)
theorem Eo (x : bF) : jB x 0 := ⟨fun i hi => by simp at hi, fun i k hi => by simp at hi, rfl⟩
theorem ajH {x : bF} (he : cB x = 0) : ai4 x (rpB x).1 /\ qw x = xR x.S (bl (rpB x).1) := by
  have hm := (cK he).2.2.2.2.1
  have ok := KF (w := iY) (g := vW x) YJ X6 (2 ^ x.m) (j4 hm)
  have h0 : iV x.m 0 := Nat.pow_pos (by decide)
  have hf : (rpB x).2 = true := by
    cases e : (rpB x).2 with
    | true => rfl
    | false =>
      have := ok.2 e 0 h0
      rw [show vW x 0 = true from (mD he h0).2 (Eo x)] at this; cases this
  obtain ⟨h1, h2, h3⟩ := ok.1 hf
  have hin : iV x.m (rpB x).1 := h1
  refine ⟨⟨hin, (mD he hin).1 h2, fun s hs hn hw => ?_⟩, by unfold qw; rw [if_pos he]⟩
  have := h3 s hs ((mD he hs).2 hn)
  exact absurd (((qG (dP hm hin) (dP hm hs)).2 hw).symm.trans this) (by decide)
theorem afw {x : bF} (he : cB x ≠ 0) : xX x = cB x /\ (qw x).length = 0 := by unfold xX qw; rw [if_neg he, if_neg he]; exact ⟨rfl, rfl⟩
theorem aej {x : bF} (he : cB x = 0) : fH x (qw x).length (zL (qw x)) = 0 /\ iN x (qw x).length (zL (qw x)) = true := by
  obtain ⟨hr, hL⟩ := ajH he
  rw [hL]
  have := aeX he hr.s
  exact ⟨this.1, this.2.trans ((mD he hr.s).2 hr.n)⟩
theorem Nw {P : Nat -> Nat} {m i t : Nat} : ∀ k, k <= m -> ((nk P m i k).testBit t = true ↔ t < m /\ t ≠ i /\ ¬ (t < k /\ (P t).testBit i = true))
  | 0, _ => by
    show ((2 ^ m - 1) ^^^ ((2 ^ m - 1) &&& 2 ^ i)).testBit t = true ↔ _
    rw [Nat.testBit_xor, Nat.testBit_and, Nat.testBit_two_pow, Nat.testBit_two_pow_sub_one]
    by_cases h1 : t < m <;> by_cases h2 : i = t
    · simp [h1, h2]
    · simp [h1, h2, Ne.symm h2]
    · simp [h1]
    · simp [h1]
  | k + 1, hk => by
    have ih := Nw (P := P) (m := m) (i := i) (t := t) k (by omega)
    cases h : (P k).testBit i with
    | false =>
      rw [aap h, ih]
      refine and_congr_right fun _ => and_congr_right fun _ => not_congr ⟨fun g => ⟨by omega, g.2⟩, fun g => ⟨?_, g.2⟩⟩
      rcases (by omega : t < k \/ t = k) with q | q
      · exact q
      · rw [q, h] at g; exact absurd g.2 (by decide)
    | true =>
      rw [ZC h, Nat.testBit_xor, Nat.testBit_and, Nat.testBit_two_pow]
      by_cases e : k = t
      · subst e
        simp [h]
      · have e2 : decide (k = t) = false := decide_eq_false e
        rw [e2, Bool.and_false, Bool.xor_false, ih]
        refine and_congr_right fun _ => and_congr_right fun _ => not_congr ⟨fun g => ⟨by omega, g.2⟩, fun g => ⟨by omega, g.2⟩⟩
end Go.Proofs.YtmnejmpjmniiiaaGreatDoor
set_option maxRecDepth 100000
set_option maxHeartbeats 4000000
namespace Go.Proofs.YtmnejmpjmniiiaaGreatDoor
open Go.RowKit Go.Sea
open Nat renaming reduceAdd -> xA, reduceLT -> xL, reduceLeDiff -> xD, reduceEqDiff -> xE, reduceMul -> xM, reduceSub -> xS, reduceBEq -> xB
theorem aay (q : Nat) (a : Nat -> Int) (r : Nat) (c : Nat -> Int) (hq : q <= 9223372036854775807) (hr : r <= 9223372036854775807) : au Tryz.prog 31 [.one (.lst 1 q (bG a)), .one (.lst 1 r (bG c))] (.t (.one (.g (.bool (og q a r c))))) := by
  refine ah Tryz.func31 rfl (by rw [Tryz.ntmps31]; simp) ?_
  simp only [Tryz.ntmps31, zM, PT.tv, ak, Nat.zero_add, Nat.reduceAdd]
  repeat' (first
 | ((with_reducible show AW _ _ _ _); first
 | (with_reducible first | refine aS (fun K hK => ?_) | refine aI ?_ | refine aX ?_ | refine aT ?_ | refine aC ?_ | refine aB ?_)
 | (first
 | (with_reducible first | refine aP 0 [0,1] ?_ | refine aP 1 [0,1] ?_ | refine aP 2 [0,1,5] ?_ | refine aP 3 [0,1,5] ?_)
 | ((with_reducible refine aR (c := Code.region 4 _ true) [0,1,5] ?_); (with_reducible refine aD ?_ ?_ ?_ ?_); (focus kernel_rfl); (focus kernel_rfl); (focus kernel_rfl))
 | ((with_reducible refine aR (c := Code.region 5 _ true) [0,1,5] ?_); (with_reducible refine aD ?_ ?_ ?_ ?_); (focus kernel_rfl); (focus kernel_rfl); (focus kernel_rfl))
 | (with_reducible refine aP 6 [] ?_))
 | ((with_reducible show AW _ (Code.loop _) _ _); first
 | ((with_reducible refine aL (c := (Code.seq (Code.seq (Code.region 2 _ _) _) _)) (ι := Nat) [0,1] (fun i => [(5, iA .i64 (i : Int))]) (fun i => []) (fun i => i <= q /\ i <= r /\ (∀ k, k < i -> a k = c k)) (fun i => q - i) 0 ?lg2 ?l12 ?l22 ?li2 ?lr2); (case' lg2 => rintro i _); (case' li2 => try (exact ⟨Nat.zero_le _, Nat.zero_le _, fun _ h => absurd h (Nat.not_lt_zero _)⟩)); (case' lr2 => rintro i ⟨hi, hi2, hai⟩ KR hR2; simp only [bf, bN, hset, lk, if_true, if_false, xE, reduceIte, zN]))))
 | (((with_reducible refine And.intro ?_ ?_)); focus (omega))
 | (with_reducible refine aA ?_)
 | ((with_reducible show aY _ _ _ _ _ _); first
 | ((with_reducible refine aH ?_ ?_) <;> (intro hc; (try simp only [zB, zC, reduceCtorEq] at hc); ((try (exfalso; omega))); (try (exfalso; contradiction)))))
 | ((with_reducible refine And.intro ?_ ?_); focus ((with_reducible show fB _ _ _ = true); kernel_rfl))
 | ((with_reducible refine hR2 _ (i + 1) ?_); (try clear hR2 KR))
 | ((with_reducible refine Told.mk ?_); simp only [go_sem, reduceIte, reduceCtorEq, xA, xL, xD, xE, xM, xS, xB, bG] <;> ((((try simp (disch := omega) only [aJ, Int.natCast_add, Int.cast_ofNat_Int, and_true, true_and, and_self]); (repeat' (first | omega | (with_reducible refine And.intro ?_ ?_) | (exact all_succ (by assumption) (by assumption)))); done))))
 | ((fail_if_success (with_reducible show AW _ _ _ _)); simp (maxSteps := 2000000) only [go_sem, reduceIte, reduceCtorEq, xA, xL, xD, xE, xM, xS, xB, Tryz.f31, bG])
 | ((with_reducible refine hK _ ?_); clear hK K)
 | (with_reducible apply_assumption -exfalso only [*]))
  all_goals (first | exact agT (by omega) (by omega) (by assumption) hai | exact ahj (by omega) hai)
theorem afl (x : bF) (hx : x.Ok) : au Tryz.prog 20 [.one (.lst 9 x.n (bq x.f)), .one (.lst 2 x.m (fA x.S)), .one (.lst 1 x.mo (iJ x.O))] (.t (.one (.g (.bool (ajw x))))) := by
  have hxm := hx.m
  have hxo := hx.mo
  have mk0 : True := trivial
  have hfe : True := trivial
  refine ah Tryz.func20 rfl (by rw [Tryz.ntmps20]; simp) ?_
  simp only [Tryz.ntmps20, zM, PT.tv, ak, Nat.zero_add, Nat.reduceAdd]
  repeat' (first
 | ((with_reducible show AW _ _ _ _); first
 | (with_reducible first | refine aS (fun K hK => ?_) | refine aI ?_ | refine aX ?_ | refine aT ?_ | refine aC ?_ | refine aB ?_)
 | (first
 | (with_reducible first | refine aP 0 [0,1,2] ?_ | refine aP 1 [0,1,2] ?_ | refine aP 2 [1,2,7] ?_ | refine aP 3 [1,2,7,8] ?_ | refine aP 4 [1,2,7,8] ?_ | refine aP 5 [1,2,7,8] ?_ | refine aP 6 [1,2,7] ?_))
 | ((with_reducible show AW _ (Code.loop _) _ _); first
 | ((with_reducible refine aL (c := (Code.seq (Code.seq (Code.region 3 _ _) _) _)) (ι := Nat) [1,2] (fun i => [(7, iA .i64 (fwS x.n x.O i)), (8, iA .i64 (i : Int))]) (fun i => []) (fun i => i <= x.mo /\ i <= 20) (fun i => x.mo - i) 0 ?lg3 ?l13 ?l23 ?li3 ?lr3); (case' lg3 => rintro i _); (case' li3 => try (exact ⟨Nat.zero_le _, Nat.zero_le _⟩)); (case' lr3 => rintro i ⟨hi, hi2⟩ KR hR3; simp only [bf, bN, hset, lk, if_true, if_false, xE, reduceIte, zN, bJ, bI, dD, Sb, hfe]))))
 | (((with_reducible refine And.intro ?_ ?_)); focus (omega))
 | (with_reducible refine aA ?_)
 | ((with_reducible show aY _ _ _ _ _ _); first
 | ((with_reducible refine aH ?_ ?_) <;> (intro hc; (try simp only [zB, zC, reduceCtorEq] at hc); ((try (exfalso; omega)); (try (clear mk0; have ei : i = min x.mo 20 := (by omega)))); (try (exfalso; contradiction)))))
 | ((with_reducible refine hR3 _ (i + 1) ?_); (try clear hR3 KR))
 | ((with_reducible refine Told.mk ?_); simp only [go_sem, reduceIte, reduceCtorEq, xA, xL, xD, xE, xM, xS, xB, bJ, bI, dD, Sb, hfe] <;> ((((try simp (disch := omega) only [aJ, Int.natCast_add, Int.cast_ofNat_Int, and_true, true_and, and_self]); (repeat' (first | omega | rfl | (with_reducible refine And.intro ?_ ?_))); done))))
 | ((fail_if_success (with_reducible show AW _ _ _ _)); simp (maxSteps := 2000000) only [go_sem, reduceIte, reduceCtorEq, xA, xL, xD, xE, xM, xS, xB, Tryz.f20, bJ, bI, dD, Sb, hfe])
 | ((with_reducible refine hK _ ?_); clear hK K)
 | (with_reducible apply_assumption -exfalso only [*]))
  all_goals ((have ei : i = min x.mo 20 := (by omega); have e1 : decide ((x.m : Int) <= 6) = decide (x.m <= 6) := decide_eq_decide.2 (by omega); have e2 : decide ((x.mo : Int) <= 20) = decide (x.mo <= 20) := decide_eq_decide.2 (by omega); rw [ei, e1, e2]; rfl))
end Go.Proofs.YtmnejmpjmniiiaaGreatDoor
namespace Go.Proofs.YtmnejmpjmniiiaaGreatDoor
open Go.RowKit Go.Sea
open Nat renaming reduceAdd -> xA, reduceLT -> xL, reduceLeDiff -> xD, reduceEqDiff -> xE, reduceMul -> xM, reduceSub -> xS, reduceBEq -> xB
theorem MU : aM Tryz.prog 20 = true := by kernel_rfl
theorem D6 : aM Tryz.prog 31 = true := by kernel_rfl
attribute [go_sem] MU D6
theorem acK (x : bF) : (kM x).length <= 2 := by
  by_cases hv : cB x = 0
  · by_cases h2 : (Jq x).2 = true
    · have h0 : xX x = 0 := by unfold xX; rw [if_pos hv, if_pos h2]
      exact (aaM hv h0).2
    · have : kM x = [] := by unfold kM; rw [if_pos hv, if_neg h2]
      rw [this]; decide
  · have : kM x = [] := by unfold kM; rw [if_neg hv]
    rw [this]; decide
end Go.Proofs.YtmnejmpjmniiiaaGreatDoor
set_option maxRecDepth 100000
set_option maxHeartbeats 4000000
namespace Go.Proofs.YtmnejmpjmniiiaaGreatDoor
open Go.RowKit Go.Sea
open Nat renaming reduceAdd -> xA, reduceLT -> xL, reduceLeDiff -> xD, reduceEqDiff -> xE, reduceMul -> xM, reduceSub -> xS, reduceBEq -> xB
theorem Gb : aM Tryz.prog 106 = true := by kernel_rfl
attribute [go_sem] Gb
def eH (l : List aF) : Nat -> Nat -> IV := bq fun i => l.getD i bL
def l6 (p : aF -> Bool) (l : List aF) (i : Nat) : List aF := (l.take i).filter p
theorem tH (p : aF -> Bool) (l : List aF) : l6 p l 0 = [] := by simp [l6]
theorem Ae (p : aF -> Bool) {l : List aF} {i : Nat} (h : l.length <= i) : l6 p l i = l.filter p := by unfold l6; rw [List.take_of_length_le h]
theorem Ku {p : aF -> Bool} {l : List aF} {i : Nat} (hi : i < l.length) (h : p (l.getD i bL) = true) : l6 p l (i + 1) = l6 p l i ++ [l.getD i bL] := by
  unfold l6; rw [<- take_one hi, List.filter_append, List.filter_cons, if_pos h]; rfl
theorem JB {p : aF -> Bool} {l : List aF} {i : Nat} (hi : i < l.length) (h : p (l.getD i bL) = false) : l6 p l (i + 1) = l6 p l i := by
  unfold l6; rw [<- take_one hi, List.filter_append, List.filter_cons, if_neg (by rw [h]; simp)]; simp
theorem vB (p : aF -> Bool) (l : List aF) (i : Nat) : (l6 p l i).length <= l.length := Nat.le_trans (List.length_filter_le _ _) (by rw [List.length_take]; exact Nat.min_le_right _ _)
theorem lD (l : List aF) (i : Nat) : List.map (CV.bW i) (kW l) = kW l := jc i (jk l)
theorem jP (l : List aF) (f : aF) (i : Nat) : List.map (CV.bW i) (kW l ++ [CV.iv (.g (.int .i64 (f.id))), CV.iv (.g (.int .i64 (f.kd))), CV.iv (.g (.int .i64 (f.x))), CV.iv (.g (.int .i64 (f.y))), CV.iv (.g (.int .i64 (f.r))), CV.iv (.lst 2 f.n (bX f.P)), CV.iv (.g (.int .i64 (f.d))), CV.iv (.g (.int .i64 (f.s))), CV.iv (.lst 6 f.m (bX f.S))]) = kW (l ++ [f]) := by
  have e : kW l ++ c9 f = kW (l ++ [f]) := by simp [kW]
  exact (congrArg (List.map (CV.bW i)) e).trans (jc i (jk _))
def Uo (k : Int) (h : aF) : Bool := decide (h.id < k)
def gtP (k : Int) (h : aF) : Bool := decide (k < h.id)
def neP (k : Int) (h : aF) : Bool := decide (h.id ≠ k)
theorem adx (l : List aF) (f : aF) : iP l f = (l.filter (Uo f.id) ++ [f]) ++ l.filter (gtP f.id) := by unfold iP Uo gtP; rw [List.append_assoc]; rfl
theorem adW (l : List aF) (k : Int) : iL l k = l.filter (neP k) := rfl
theorem YK {l : List aF} {f : aF} {j : Nat} (h : l.length <= j) : (l6 (Uo f.id) l l.length ++ [f]) ++ l6 (gtP f.id) l j = iP l f := by rw [adx, Ae _ h, Ae _ (Nat.le_refl _)]
theorem YL {l : List aF} {k : Int} {j : Nat} (h : l.length <= j) : l6 (neP k) l j = iL l k := by rw [adW, Ae _ h]
theorem UF {l : List aF} {k : Int} {i : Nat} (hi : i < l.length) (h : (l.getD i bL).id = k) (hA : ∀ j, j < i -> (l.getD j bL).id ≠ k) : idx l k = some (l.getD i bL) := by
  induction l generalizing i with
  | nil => simp at hi
  | cons g l ih =>
    unfold idx
    rw [List.find?_cons]
    cases i with
    | zero => rw [decide_eq_true (by simpa using h)]; rfl
    | succ i =>
      have h0 := hA 0 (by omega)
      rw [decide_eq_false (by simpa using h0)]
      have := ih (i := i) (by simpa using hi) (by simpa using h) (fun j hj => by simpa using hA (j + 1) (by omega))
      unfold idx at this
      rw [this]; simp
theorem YF {l : List aF} {k : Int} (hA : ∀ j, j < l.length -> (l.getD j bL).id ≠ k) : idx l k = none := nD.2 fun f hf => by
  obtain ⟨j, hj, e⟩ := List.getElem_of_mem hf
  have := hA j hj
  rw [List.getD, List.getElem?_eq_getElem hj, e] at this
  exact this
def qD (l : List aF) (k : Int) : Nat := fQ (fun i => decide ((l.getD i bL).id = k)) l.length
theorem acJ {l : List aF} {k : Int} {i : Nat} (hi : i < l.length) (h : (l.getD i bL).id = k) (hA : ∀ j, j < i -> (l.getD j bL).id ≠ k) : qD l k = i := ku (b := fun i => decide ((l.getD i bL).id = k)) (decide_eq_true h) (fun j hj => decide_eq_false (hA j hj)) _ hi
theorem Ob {b : Nat -> Bool} : ∀ k, fQ b k < k -> b (fQ b k) = true /\ ∀ j, j < fQ b k -> b j = false
  | 0, h => absurd h (Nat.not_lt_zero _)
  | k + 1, h => by
    by_cases h1 : fQ b k < k
    · have := Ob k h1
      have e : fQ b (k + 1) = fQ b k := ku this.1 this.2 (k + 1) (by omega)
      rw [e]; exact this
    · have e0 : fQ b k = k := by have := vN b k; omega
      have hA : ∀ j, j < k -> b j = false := fun j hj => by
        cases hb : b j with
        | false => rfl
        | true =>
          exfalso
          obtain ⟨m, hm, hm1, hm2⟩ : ∃ m, m <= j /\ b m = true /\ ∀ q, q < m -> b q = false := by
            clear h h1 e0
            induction j using Nat.strongRecOn with
            | _ j ih =>
              by_cases hx : ∃ q, q < j /\ b q = true
              · obtain ⟨q, hq, hq2⟩ := hx
                obtain ⟨m, h1, h2⟩ := ih q hq (by omega) hq2
                exact ⟨m, by omega, h2⟩
              · exact ⟨j, Nat.le_refl _, hb, fun q hq => by
                  cases hbq : b q with
                  | false => rfl
                  | true => exact absurd ⟨q, hq, hbq⟩ hx⟩
          have := ku hm1 hm2 k (by omega)
          omega
      cases hb : b k with
      | true => rw [ku hb hA (k + 1) (by omega)]; exact ⟨hb, hA⟩
      | false =>
        have : fQ b (k + 1) = k + 1 := mO (k + 1) fun j hj => by
          by_cases e : j = k
          · subst e; exact hb
          · exact hA j (by omega)
        omega
theorem o7 {l : List aF} {k : Int} {g : aF} (h : idx l k = some g) : qD l k < l.length /\ l.getD (qD l k) bL = g := by
  by_cases hp : qD l k < l.length
  · have := Ob (b := fun i => decide ((l.getD i bL).id = k)) l.length hp
    have h1 := UF hp (of_decide_eq_true this.1) fun j hj => of_decide_eq_false (this.2 j hj)
    rw [h] at h1
    exact ⟨hp, (Option.some.inj h1).symm⟩
  · exfalso
    have hg := fV h
    obtain ⟨j, hj, e⟩ := List.getElem_of_mem hg.1
    have h2 : decide ((l.getD j bL).id = k) = true := decide_eq_true (by rw [List.getD, List.getElem?_eq_getElem hj, e]; exact hg.2)
    have : ∀ m, m <= j -> (b : Nat) -> b = m -> True := fun _ _ _ _ => trivial
    have hall : ∀ q, q < l.length -> (fun i => decide ((l.getD i bL).id = k)) q = false := by
      intro q
      induction q using Nat.strongRecOn with
      | _ q ih =>
        intro hq
        cases hb : (fun i => decide ((l.getD i bL).id = k)) q with
        | false => rfl
        | true =>
          exfalso
          have : qD l k = q := ku hb (fun j hj => ih j hj (by omega)) _ hq
          omega
    have := hall j hj
    simp only at this
    rw [h2] at this; cases this
def r9 (l : List aF) (o : bT) : List aF := if (gJ l o).1 = 0 then (gJ l o).2 else []
theorem afh {l : List aF} {o : bT} (hk : o.kd = 1) (hq : idx l o.id = none) (hn : (l.length : Int) < 300) : (gJ l o).1 = 0 /\ r9 l o = iP l o.f := by
  have e : gJ l o = (0, iP l o.f) := by unfold gJ; rw [if_pos hk, hq]; simp only; rw [if_neg (by omega)]
  unfold r9; rw [e]; exact ⟨rfl, rfl⟩
theorem agl {l : List aF} {o : bT} {g : aF} (hk : o.kd = 1) (hq : idx l o.id = some g) : (gJ l o).1 = 5 /\ r9 l o = [] := by
  have e := aak hk hq
  unfold r9; rw [e]; exact ⟨rfl, rfl⟩
theorem agS {l : List aF} {o : bT} (hk : o.kd = 1) (hq : idx l o.id = none) (hn : (l.length : Int) >= 300) : (gJ l o).1 = 2 /\ r9 l o = [] := by
  have e := Zl hk hq hn
  unfold r9; rw [e]; exact ⟨rfl, rfl⟩
theorem agm {l : List aF} {o : bT} (hk : o.kd ≠ 1) (hq : idx l o.id = none) : (gJ l o).1 = 4 /\ r9 l o = [] := by
  have e := aax hk hq
  unfold r9; rw [e]; exact ⟨rfl, rfl⟩
theorem ain {l : List aF} {o : bT} {g : aF} (hk : o.kd = 2) (hq : idx l o.id = some g) : (gJ l o).1 = 0 /\ r9 l o = iL l o.id := by
  have e : gJ l o = (0, iL l o.id) := by unfold gJ; rw [if_neg (by omega), hq]; simp only; rw [if_pos hk]
  unfold r9; rw [e]; exact ⟨rfl, rfl⟩
theorem Qv {l : List aF} {o : bT} {g : aF} (hk : o.kd ≠ 1 /\ o.kd ≠ 2) (hq : idx l o.id = some g) (he : dY g o = 0) : (gJ l o).1 = 0 /\ r9 l o = iP (iL l o.id) (cu g o) := by
  have ex : cu g o = fD g o := by unfold cu; rw [if_neg (by omega)]
  have e : gJ l o = (0, iP (iL l o.id) (fD g o)) := by unfold gJ; rw [if_neg hk.1, hq]; simp only; rw [if_neg hk.2, if_pos he]
  unfold r9; rw [e, ex]; exact ⟨rfl, rfl⟩
theorem Sg {l : List aF} {o : bT} {g : aF} (hk : o.kd ≠ 1 /\ o.kd ≠ 2) (hq : idx l o.id = some g) (he : dY g o ≠ 0) : (gJ l o).1 = dY g o /\ r9 l o = [] := by
  have e := aaw hk hq he
  unfold r9; rw [e, if_neg he]; exact ⟨rfl, rfl⟩
theorem DK (l : List aF) (k : Int) : (iL l k).length <= l.length := List.length_filter_le _ _
theorem nC (k : Nat) (o : Nat -> bT) (hk : k <= 9223372036854775807) (ho : ∀ i, i < k -> (o i).f.Ok) : au Tryz.prog 70 [.one (.lst 16 k (fu o))] (.t (.one (.g (.bool (fO k o))))) := by
  refine ah Tryz.func70 rfl (by rw [Tryz.ntmps70]; simp) ?_
  simp only [Tryz.ntmps70, zM, PT.tv, ak, Nat.zero_add, Nat.reduceAdd]
  repeat' (first
 | ((with_reducible show AW _ _ _ _); first
 | (with_reducible first | refine aS (fun K hK => ?_) | refine aI ?_ | refine aX ?_ | refine aT ?_ | refine aC ?_ | refine aB ?_)
 | (first
 | (with_reducible first | refine aP 0 [0] ?_ | refine aP 1 [0] ?_ | refine aP 2 [] ?_ | refine aP 3 [0] ?_ | refine aP 4 [0,3] ?_ | refine aP 5 [0,3] ?_ | refine aP 6 [0,3] ?_ | refine aP 7 [0,3,4] ?_ | refine aP 8 [] ?_ | refine aP 9 [] ?_))
 | ((with_reducible show AW _ (Code.loop _) _ _); first
 | ((with_reducible refine aL (c := (Code.seq (Code.seq (Code.region 4 _ _) _) _)) (ι := Nat) [0] (fun i => [(3, iA .i64 (i : Int))]) (fun i => []) (fun i => i <= k /\ (∀ i', i' < i -> oQ (o i') = true)) (fun i => k - i) 0 ?lg4 ?l14 ?l24 ?li4 ?lr4); (case' lg4 => rintro i _); (case' li4 => try (exact ⟨Nat.zero_le _, fun i hi => absurd hi (Nat.not_lt_zero _)⟩)); (case' lr4 => rintro i ⟨hi, hai⟩ KR hR4; simp only [bf, bN, hset, lk, if_true, if_false, xE, reduceIte, zN]))))
 | ((first | (with_reducible refine And.intro ?_ ?_) | (with_reducible refine Need.mk ?_)); focus (first | exact True.intro | omega))
 | (with_reducible refine aA ?_)
 | ((with_reducible show aY _ _ _ _ _ _); first
 | ((with_reducible refine aH ?_ ?_) <;> (intro hc; (try simp only [zB, zC, reduceCtorEq] at hc); (try (exfalso; contradiction)))))
 | ((with_reducible show aN _ _ _ _ _ _ _ _ _ _); first
 | (refine aj (k := 106) Gb (aiu _ (ho _ (by omega))) ?_ ?_))
 | ((with_reducible refine hR4 _ (i + 1) ?_); (try clear hR4 KR))
 | ((with_reducible refine Told.mk ?_); simp only [go_sem, reduceIte, reduceCtorEq, xA, xL, xD, xE, xM, xS, xB] <;> ((((try simp (disch := omega) only [aJ, Int.natCast_add, Int.cast_ofNat_Int, and_true, true_and, and_self]); (repeat' (first | omega | (with_reducible refine And.intro ?_ ?_) | (exact all_succ (by assumption) (by assumption)) )); done))))
 | ((fail_if_success (with_reducible show AW _ _ _ _)); simp (maxSteps := 2000000) only [go_sem, reduceIte, reduceCtorEq, xA, xL, xD, xE, xM, xS, xB, Tryz.f70])
 | ((with_reducible refine hK _ ?_); clear hK K)
 | (with_reducible apply_assumption -exfalso only [*]))
  all_goals first
    | exact (decide_eq_false fun g => by omega).symm
    | exact (decide_eq_false fun g => by have := g.2 i (by omega); simp_all).symm
    | exact (decide_eq_true ⟨by omega, fun j hj => hai j (by omega)⟩).symm
    | skip
theorem I6 (l : List aF) (hl : l.length <= 1000000) (k : Int) (hq : idx l k = none) : au Tryz.prog 134 [.one (.lst 9 (l).length (eH (l))), .one (.g (.int .i64 k))] (.t (.one (.g (.int .i64 (-1))))) := by
  refine ah Tryz.func134 rfl (by rw [Tryz.ntmps134]; simp) ?_
  simp only [Tryz.ntmps134, zM, PT.tv, ak, Nat.zero_add, Nat.reduceAdd]
  repeat' (first
 | ((with_reducible show AW _ _ _ _); first
 | (with_reducible first | refine aS (fun K hK => ?_) | refine aI ?_ | refine aX ?_ | refine aT ?_ | refine aC ?_ | refine aB ?_)
 | (first
 | (with_reducible first | refine aP 0 [0,1] ?_ | refine aP 1 [0,1] ?_ | refine aP 2 [0,1,5] ?_ | refine aP 3 [0,1,5] ?_ | refine aP 4 [0,1,5] ?_ | refine aP 5 [5] ?_ | refine aP 6 [] ?_))
 | ((with_reducible show AW _ (Code.loop _) _ _); first
 | ((with_reducible refine aL (c := (Code.seq (Code.seq (Code.region 2 _ _) _) _)) (ι := Nat) [0,1] (fun i => [(5, iA .i64 (i : Int))]) (fun i => []) (fun i => i <= l.length /\ (∀ j, j < i -> (l.getD j bL).id ≠ k)) (fun i => l.length - i) 0 ?lg2 ?l12 ?l22 ?li2 ?lr2); (case' lg2 => rintro i _); (case' li2 => try (exact ⟨Nat.zero_le _, fun i hi => absurd hi (Nat.not_lt_zero _)⟩)); (case' lr2 => rintro i ⟨hi, hai⟩ KR hR2; simp only [bf, bN, hset, lk, if_true, if_false, xE, reduceIte, zN, eH]))))
 | (((with_reducible refine And.intro ?_ ?_)); focus (omega))
 | (with_reducible refine aA ?_)
 | ((with_reducible show aY _ _ _ _ _ _); first
 | ((with_reducible refine aH ?_ ?_) <;> (intro hc; (try simp only [zB, zC, reduceCtorEq] at hc); (try (exfalso; contradiction)))))
 | ((with_reducible refine hR2 _ (i + 1) ?_); (try clear hR2 KR))
 | ((with_reducible refine Told.mk ?_); simp only [go_sem, reduceIte, reduceCtorEq, xA, xL, xD, xE, xM, xS, xB, eH] <;> ((((try simp (disch := omega) only [aJ, Int.natCast_add, Int.cast_ofNat_Int, and_true, true_and, and_self]); (repeat' (first | omega | (with_reducible refine And.intro ?_ ?_) | (exact all_succ (by assumption) (by assumption)))); done))))
 | ((fail_if_success (with_reducible show AW _ _ _ _)); simp (maxSteps := 2000000) only [go_sem, reduceIte, reduceCtorEq, xA, xL, xD, xE, xM, xS, xB, Tryz.f134, eH])
 | ((with_reducible refine hK _ ?_); clear hK K)
 | (with_reducible apply_assumption -exfalso only [*]))
  all_goals ((exfalso; have := UF (by omega) (by assumption) hai; rw [hq] at this; cases this))
theorem oW (l : List aF) (hl : l.length <= 1000000) (k : Int) (g : aF) (hq : idx l k = some g) : au Tryz.prog 134 [.one (.lst 9 (l).length (eH (l))), .one (.g (.int .i64 k))] (.t (.one (.g (.int .i64 ((qD l k : Int)))))) := by
  refine ah Tryz.func134 rfl (by rw [Tryz.ntmps134]; simp) ?_
  simp only [Tryz.ntmps134, zM, PT.tv, ak, Nat.zero_add, Nat.reduceAdd]
  repeat' (first
 | ((with_reducible show AW _ _ _ _); first
 | (with_reducible first | refine aS (fun K hK => ?_) | refine aI ?_ | refine aX ?_ | refine aT ?_ | refine aC ?_ | refine aB ?_)
 | (first
 | (with_reducible first | refine aP 0 [0,1] ?_ | refine aP 1 [0,1] ?_ | refine aP 2 [0,1,5] ?_ | refine aP 3 [0,1,5] ?_ | refine aP 4 [0,1,5] ?_ | refine aP 5 [5] ?_ | refine aP 6 [] ?_))
 | ((with_reducible show AW _ (Code.loop _) _ _); first
 | ((with_reducible refine aL (c := (Code.seq (Code.seq (Code.region 2 _ _) _) _)) (ι := Nat) [0,1] (fun i => [(5, iA .i64 (i : Int))]) (fun i => []) (fun i => i <= l.length /\ (∀ j, j < i -> (l.getD j bL).id ≠ k)) (fun i => l.length - i) 0 ?lg2 ?l12 ?l22 ?li2 ?lr2); (case' lg2 => rintro i _); (case' li2 => try (exact ⟨Nat.zero_le _, fun i hi => absurd hi (Nat.not_lt_zero _)⟩)); (case' lr2 => rintro i ⟨hi, hai⟩ KR hR2; simp only [bf, bN, hset, lk, if_true, if_false, xE, reduceIte, zN, eH]))))
 | (((with_reducible refine And.intro ?_ ?_)); focus (omega))
 | (with_reducible refine aA ?_)
 | ((with_reducible show aY _ _ _ _ _ _); first
 | ((with_reducible refine aH ?_ ?_) <;> (intro hc; (try simp only [zB, zC, reduceCtorEq] at hc); (try (exfalso; contradiction)))))
 | ((with_reducible refine hR2 _ (i + 1) ?_); (try clear hR2 KR))
 | ((with_reducible refine Told.mk ?_); simp only [go_sem, reduceIte, reduceCtorEq, xA, xL, xD, xE, xM, xS, xB, eH] <;> ((((try simp (disch := omega) only [aJ, Int.natCast_add, Int.cast_ofNat_Int, and_true, true_and, and_self]); (repeat' (first | omega | (with_reducible refine And.intro ?_ ?_) | (exact all_succ (by assumption) (by assumption)))); done))))
 | ((fail_if_success (with_reducible show AW _ _ _ _)); simp (maxSteps := 2000000) only [go_sem, reduceIte, reduceCtorEq, xA, xL, xD, xE, xM, xS, xB, Tryz.f134, eH])
 | ((with_reducible refine hK _ ?_); clear hK K)
 | (with_reducible apply_assumption -exfalso only [*]))
  all_goals (first | (rw [acJ (by omega) (by assumption) hai]) | (exfalso; have := YF (l := l) (k := k) (fun j hj => hai j (by omega)); rw [hq] at this; cases this))
theorem DU (l : List aF) (hl : l.length <= 1000000) (f : aF) : au Tryz.prog 135 [.one (.lst 9 (l).length (eH (l))), .agg [.g (.int .i64 (f.id)), .g (.int .i64 (f.kd)), .g (.int .i64 (f.x)), .g (.int .i64 (f.y)), .g (.int .i64 (f.r)), .lst 2 f.n (bX f.P), .g (.int .i64 (f.d)), .g (.int .i64 (f.s)), .lst 6 f.m (bX f.S)]] (.t (.one (.lst 9 (iP l f).length (eH (iP l f))))) := by
  refine ah Tryz.func135 rfl (by rw [Tryz.ntmps135]; simp) ?_
  simp only [Tryz.ntmps135, zM, PT.tv, ak, Nat.zero_add, Nat.reduceAdd]
  repeat' (first
 | ((with_reducible show AW _ _ _ _); first
 | (with_reducible first | refine aS (fun K hK => ?_) | refine aI ?_ | refine aX ?_ | refine aT ?_ | refine aC ?_ | refine aB ?_)
 | (first
 | (with_reducible first | refine aP 0 [0,1] ?_ | refine aP 1 [0,3] ?_ | refine aP 2 [0,3,5] ?_ | refine aP 3 [0,3,5,6] ?_ | refine aP 4 [0,3,5,6] ?_)
 | ((with_reducible refine aR (c := Code.region 5 _ true) [0,3,5,6] ?_); (with_reducible refine aD ?_ ?_ ?_ ?_); (focus kernel_rfl); (focus kernel_rfl); (focus kernel_rfl))
 | (with_reducible first | refine aP 6 [0,3,5,6] ?_ | refine aP 7 [0,3,5] ?_ | refine aP 8 [0,3,5] ?_ | refine aP 9 [0,3,5,7] ?_ | refine aP 10 [0,3,5,7] ?_)
 | ((with_reducible refine aR (c := Code.region 11 _ true) [0,3,5,7] ?_); (with_reducible refine aD ?_ ?_ ?_ ?_); (focus kernel_rfl); (focus kernel_rfl); (focus kernel_rfl))
 | (with_reducible first | refine aP 12 [0,3,5,7] ?_ | refine aP 13 [5] ?_))
 | ((with_reducible show AW _ (Code.loop _) _ _); first
 | ((with_reducible refine aL (c := (Code.seq (Code.seq (Code.region 3 _ _) _) _)) (ι := Nat) [0,3] (fun i => [(5, .t (.one (.slc 1 0 (l6 (Uo f.id) l i).length 9))), (6, iA .i64 (i : Int))]) (fun i => [(1, kW (l6 (Uo f.id) l i))]) (fun i => i <= l.length) (fun i => l.length - i) 0 ?lg3 ?l13 ?l23 ?li3 ?lr3); (case' lg3 => rintro i _); (case' li3 => try (omega)); (case' lr3 => rintro i hi KR hR3; have oL := vB (Uo f.id) l i; simp only [bf, bN, hset, lk, if_true, if_false, xE, reduceIte, zN, eH, lD, jP, dh, maxLen, tH, List.length_append, List.length_cons, List.length_nil, List.append_nil, Nat.zero_add]))
 | ((with_reducible refine aL (c := (Code.seq (Code.seq (Code.region 9 _ _) _) _)) (ι := Nat) [0,3] (fun j => [(5, .t (.one (.slc 1 0 ((l6 (Uo f.id) l l.length ++ [f]) ++ l6 (gtP f.id) l j).length 9))), (7, iA .i64 (j : Int))]) (fun j => [(1, kW ((l6 (Uo f.id) l l.length ++ [f]) ++ l6 (gtP f.id) l j))]) (fun j => j <= l.length) (fun j => l.length - j) 0 ?lg9 ?l19 ?l29 ?li9 ?lr9); (case' lg9 => rintro j _); (case' li9 => try (omega)); (case' lr9 => rintro j hj KR hR9; have oL := vB (gtP f.id) l j; have oM := vB (Uo f.id) l l.length; simp only [bf, bN, hset, lk, if_true, if_false, xE, reduceIte, zN, eH, lD, jP, dh, maxLen, tH, List.length_append, List.length_cons, List.length_nil, List.append_nil, Nat.zero_add]))))
 | (((with_reducible refine And.intro ?_ ?_)); focus (omega))
 | (with_reducible refine aA ?_)
 | ((with_reducible show aY _ _ _ _ _ _); first
 | ((with_reducible refine aH ?_ ?_) <;> (intro hc; (try simp only [zB, zC, reduceCtorEq] at hc); ((try (have e0 : i = l.length := (by omega); subst e0))); (try (exfalso; contradiction)))))
 | ((with_reducible refine And.intro ?_ ?_); focus ((with_reducible show fB _ _ _ = true); kernel_rfl))
 | ((with_reducible refine hR3 _ (i + 1) ?_); (try clear hR3 KR))
 | ((with_reducible refine hR9 _ (j + 1) ?_); (try clear hR9 KR))
 | ((with_reducible refine Told.mk ?_); simp only [go_sem, reduceIte, reduceCtorEq, xA, xL, xD, xE, xM, xS, xB, eH, lD, jP, dh, maxLen, tH, List.length_append, List.length_cons, List.length_nil, List.append_nil, Nat.zero_add] <;> (first | (((try simp (disch := omega) only [aJ, Int.natCast_add, Int.cast_ofNat_Int, and_true, true_and, and_self]); (repeat' (first | omega | rfl | (with_reducible refine And.intro ?_ ?_) | ((first | rw [Ku (p := Uo f.id) (by omega) (decide_eq_true (by omega))] | rw [JB (p := Uo f.id) (by omega) (decide_eq_false (by omega))])) | ((exact bO rfl (jk _))) | ((simp only [List.length_append, List.length_cons, List.length_nil, Nat.zero_add, Nat.add_assoc]; done)))); done)) | (((try simp (disch := omega) only [aJ, Int.natCast_add, Int.cast_ofNat_Int, and_true, true_and, and_self]); (repeat' (first | omega | (with_reducible refine And.intro ?_ ?_) | ((first | rw [Ku (p := gtP f.id) (by omega) (decide_eq_true (by omega))] | rw [JB (p := gtP f.id) (by omega) (decide_eq_false (by omega))])) | ((exact bO rfl (jk _))) | ((simp only [List.append_assoc]; exact bO rfl (jk _))) | ((simp only [List.length_append, List.length_cons, List.length_nil, Nat.zero_add, Nat.add_assoc]; done)))); done))))
 | ((fail_if_success (with_reducible show AW _ _ _ _)); simp (maxSteps := 2000000) only [go_sem, reduceIte, reduceCtorEq, xA, xL, xD, xE, xM, xS, xB, Tryz.f135, eH, lD, jP, dh, maxLen, tH, List.length_append, List.length_cons, List.length_nil, List.append_nil, Nat.zero_add])
 | ((with_reducible refine hK _ ?_); clear hK K)
 | (with_reducible apply_assumption -exfalso only [*]))
  all_goals ((have e := YK (f := f) (j := j) (l := l) (by omega); have e2 := congrArg List.length e; simp only [List.length_append, List.length_cons, List.length_nil, Nat.zero_add] at e2; rw [e]; exact ⟨fun c hc9 => (by have := jk _ c hc9; cases c <;> trivial), e2, fun i q hi hq => zG (iP l f) i q (by omega) hq⟩))
theorem ER (l : List aF) (hl : l.length <= 1000000) (k : Int) : au Tryz.prog 136 [.one (.lst 9 (l).length (eH (l))), .one (.g (.int .i64 k))] (.t (.one (.lst 9 (iL l k).length (eH (iL l k))))) := by
  refine ah Tryz.func136 rfl (by rw [Tryz.ntmps136]; simp) ?_
  simp only [Tryz.ntmps136, zM, PT.tv, ak, Nat.zero_add, Nat.reduceAdd]
  repeat' (first
 | ((with_reducible show AW _ _ _ _); first
 | (with_reducible first | refine aS (fun K hK => ?_) | refine aI ?_ | refine aX ?_ | refine aT ?_ | refine aC ?_ | refine aB ?_)
 | (first
 | (with_reducible first | refine aP 0 [0,1] ?_ | refine aP 1 [0,1] ?_ | refine aP 2 [0,1,5] ?_ | refine aP 3 [0,1,5,6] ?_ | refine aP 4 [0,1,5,6] ?_ | refine aP 5 [0,1,5,6] ?_ | refine aP 6 [0,1,5,6] ?_ | refine aP 7 [5] ?_))
 | ((with_reducible show AW _ (Code.loop _) _ _); first
 | ((with_reducible refine aL (c := (Code.seq (Code.seq (Code.region 3 _ _) _) _)) (ι := Nat) [0,1] (fun i => [(5, .t (.one (.slc 0 0 (l6 (neP k) l i).length 9))), (6, iA .i64 (i : Int))]) (fun i => [(0, kW (l6 (neP k) l i))]) (fun i => i <= l.length) (fun i => l.length - i) 0 ?lg3 ?l13 ?l23 ?li3 ?lr3); (case' lg3 => rintro i _); (case' li3 => try (omega)); (case' lr3 => rintro i hi KR hR3; have oL := vB (neP k) l i; simp only [bf, bN, hset, lk, if_true, if_false, xE, reduceIte, zN, eH, lD, jP, dh, maxLen, tH, List.length_append, List.length_cons, List.length_nil, List.append_nil, Nat.zero_add]))))
 | (((with_reducible refine And.intro ?_ ?_)); focus (omega))
 | (with_reducible refine aA ?_)
 | ((with_reducible show aY _ _ _ _ _ _); first
 | ((with_reducible refine aH ?_ ?_) <;> (intro hc; (try simp only [zB, zC, reduceCtorEq] at hc); (try (exfalso; contradiction)))))
 | ((with_reducible refine hR3 _ (i + 1) ?_); (try clear hR3 KR))
 | ((with_reducible refine Told.mk ?_); simp only [go_sem, reduceIte, reduceCtorEq, xA, xL, xD, xE, xM, xS, xB, eH, lD, jP, dh, maxLen, tH, List.length_append, List.length_cons, List.length_nil, List.append_nil, Nat.zero_add] <;> ((((try simp (disch := omega) only [aJ, Int.natCast_add, Int.cast_ofNat_Int, and_true, true_and, and_self]); (repeat' (first | omega | rfl | (with_reducible refine And.intro ?_ ?_) | ((first | rw [Ku (p := neP k) (by omega) (decide_eq_true (by omega))] | rw [JB (p := neP k) (by omega) (decide_eq_false (by omega))])) | ((exact bO rfl (jk _))) | ((simp only [List.length_append, List.length_cons, List.length_nil, Nat.zero_add, Nat.add_assoc]; done)))); done))))
 | ((fail_if_success (with_reducible show AW _ _ _ _)); simp (maxSteps := 2000000) only [go_sem, reduceIte, reduceCtorEq, xA, xL, xD, xE, xM, xS, xB, Tryz.f136, eH, lD, jP, dh, maxLen, tH, List.length_append, List.length_cons, List.length_nil, List.append_nil, Nat.zero_add])
 | ((with_reducible refine hK _ ?_); clear hK K)
 | (with_reducible apply_assumption -exfalso only [*]))
  all_goals ((have e := YL (k := k) (j := i) (l := l) (by omega); rw [e]; exact ⟨fun c hc9 => (by have := jk _ c hc9; cases c <;> trivial), rfl, fun i q hi hq => zG (iL l k) i q hi hq⟩))
end Go.Proofs.YtmnejmpjmniiiaaGreatDoor
