/- Part 12 of 15: contracts of functions and plain laws for the root text. No condition. -/
import Derived.Test.YtmnejmpjmniiiaaGreatDoorX01
import Derived.Test.YtmnejmpjmniiiaaGreatDoorX02
import Derived.Test.YtmnejmpjmniiiaaGreatDoorX03
import Derived.Test.YtmnejmpjmniiiaaGreatDoorX04
import Derived.Test.YtmnejmpjmniiiaaGreatDoorX05
import Derived.Test.YtmnejmpjmniiiaaGreatDoorX06
import Derived.Test.YtmnejmpjmniiiaaGreatDoorX07
import Derived.Test.YtmnejmpjmniiiaaGreatDoorX08
import Derived.Test.YtmnejmpjmniiiaaGreatDoorX09
import Derived.Test.YtmnejmpjmniiiaaGreatDoorX10
import Derived.Test.YtmnejmpjmniiiaaGreatDoorX11
set_option linter.unusedVariables false
set_option linter.unusedSimpArgs false
namespace Go.Proofs.YtmnejmpjmniiiaaGreatDoor
open Go.RowKit Go.Sea
open Nat renaming reduceAdd → xA, reduceLT → xL, reduceLeDiff → xD, reduceEqDiff → xE, reduceMul → xM, reduceSub → xS, reduceBEq → xB
theorem fnok_34 : fnOk Tryz.prog 34 = true := by kernel_rfl
theorem fnok_49 : fnOk Tryz.prog 49 = true := by kernel_rfl
theorem fnok_82 : fnOk Tryz.prog 82 = true := by kernel_rfl
theorem of_73_0 : offOf Tryz.prog 73 0 = some 0 := by kernel_rfl
theorem of_73_2 : offOf Tryz.prog 73 2 = some 2 := by kernel_rfl
theorem of_73_4 : offOf Tryz.prog 73 4 = some 4 := by kernel_rfl
theorem ty_22 : tyD Tryz.prog 22 = some (false, 1) := by kernel_rfl
theorem ty_24 : tyD Tryz.prog 24 = some (false, 1) := by kernel_rfl
theorem zc_22 : zeroC Tryz.prog 22 = some [.iv (.g (.slice none 0 0))] := by kernel_rfl
attribute [go_sem] fnok_34 fnok_49 fnok_82 of_73_0 of_73_2 of_73_4 ty_22 ty_24 zc_22
theorem CallsN_H {P : Program} {k : FuncId} {ts : List TV} {cs : List CV} {r : Nat → AV} (h : CallsN P k ts cs r) {H : List (Option (List CV))} {i : Nat} (hi : hget H i = none) : CallsH P k ts H (r i) (hset H i cs) := h H i hi
theorem ipC_lenf (c : Nat → IV) : ∀ n k, (ipCells c n k).length = n
  | 0, _ => rfl
  | n + 1, k => by simp [ipCells, ipC_lenf c n (k + 1)]
theorem ipC_getf (c : Nat → IV) : ∀ n k o, o < n → (ipCells c n k)[o]? = some (.iv (c (k + o)))
  | n + 1, k, 0, _ => by simp [ipCells]
  | n + 1, k, o + 1, h => by
    simp only [ipCells, List.getElem?_cons_succ]
    rw [ipC_getf c n (k + 1) o (by omega), show k + 1 + o = k + (o + 1) by omega]
theorem lstC_getf (f : Nat → Nat → IV) (E : Nat) : ∀ n k i o, i < n → o < E → (lstC f E n k)[i * E + o]? = some (.iv (f (k + i) o))
  | n + 1, k, 0, o, _, ho => by
    simp only [lstC, Nat.zero_mul, Nat.zero_add]
    rw [List.getElem?_append_left (by rw [ipC_lenf]; exact ho), ipC_getf _ _ _ _ ho, Nat.zero_add]; rfl
  | n + 1, k, i + 1, o, h, ho => by
    simp only [lstC]
    rw [show (i + 1) * E + o = E + (i * E + o) by rw [Nat.add_mul]; omega, List.getElem?_append_right (by rw [ipC_lenf]; omega), ipC_lenf, Nat.add_sub_cancel_left, lstC_getf f E n (k + 1) i o (by omega) ho, show k + 1 + i = k + (i + 1) by omega]
theorem ipC_ivf (f : Nat → IV) : ∀ (m k : Nat) (c : CV), c ∈ ipCells f m k → isIv c := by
  intro m
  induction m with
  | zero => intro k c h; simp [ipCells] at h
  | succ m ih =>
    intro k c h
    simp only [ipCells, List.mem_cons] at h
    rcases h with rfl | h
    · trivial
    · exact ih _ _ h
theorem lstC_ivf (f : Nat → Nat → IV) (E : Nat) : ∀ (n k : Nat) (c : CV), c ∈ lstC f E n k → isIv c := by
  intro n
  induction n with
  | zero => intro k c h; simp [lstC] at h
  | succ n ih =>
    intro k c h
    rcases List.mem_append.1 h with h | h
    · exact ipC_ivf _ _ _ _ h
    · exact ih _ _ h
theorem lstC_eqf (f : Nat → Nat → IV) (E n : Nat) (i o : Nat) (hi : i < n) (ho : o < E) : (civ ((lstC f E n 0).getD (i * E + o) .any)).eqv (f i o) := by
  rw [List.getD, lstC_getf _ _ _ _ _ _ hi ho, Nat.zero_add]
  exact IV.eqv_refl _
structure FlS where
  n : Nat
  f : Nat → Feat
structure FlS.Ok (X : FlS) : Prop where
  n : X.n ≤ 300
  f : ∀ i, i < X.n → (X.f i).Ok
def apS (X : FlS) (p : PtS) : FlS := ⟨apN X.n X.f p.k p.o, apF X.n X.f p.k p.o⟩
def apX (X : FlS) (p : PtS) : Int := apE X.n X.f p.k p.o
def runF (O : Nat → PtS) (X : FlS) (l : List Nat) : FlS := l.foldl (fun Z i => apS Z (O i)) X
def runB (O : Nat → PtS) : FlS → List Nat → Bool
  | _, [] => true
  | X, i :: l => decide (apX X (O i) = 0) && runB O (apS X (O i)) l
theorem runF_0 (O : Nat → PtS) (X : FlS) : runF O X [] = X := rfl
theorem runF_s (O : Nat → PtS) (X : FlS) (l : List Nat) (i : Nat) : runF O X (l ++ [i]) = apS (runF O X l) (O i) := by simp [runF]
theorem runB_s (O : Nat → PtS) : ∀ (X : FlS) (l : List Nat) (i : Nat), runB O X (l ++ [i]) = (runB O X l && decide (apX (runF O X l) (O i) = 0))
  | X, [], i => by show (decide _ && true) = (true && decide _); rw [Bool.and_true, Bool.true_and]; rfl
  | X, j :: l, i => by
    show (decide (apX X (O j) = 0) && runB O (apS X (O j)) (l ++ [i])) = ((decide (apX X (O j) = 0) && runB O (apS X (O j)) l) && decide (apX (runF O (apS X (O j)) l) (O i) = 0))
    rw [runB_s O (apS X (O j)) l i, Bool.and_assoc]
theorem runB_app (O : Nat → PtS) : ∀ (X : FlS) (l m : List Nat), runB O X (l ++ m) = (runB O X l && runB O (runF O X l) m)
  | X, [], m => by simp [runB, runF]
  | X, j :: l, m => by
    show (decide (apX X (O j) = 0) && runB O (apS X (O j)) (l ++ m)) = ((decide (apX X (O j) = 0) && runB O (apS X (O j)) l) && runB O (runF O (apS X (O j)) l) m)
    rw [runB_app O (apS X (O j)) l m, Bool.and_assoc]
theorem runB_t {O : Nat → PtS} {X : FlS} {l : List Nat} {i : Nat} (h : runB O X l = true) (h2 : apE (runF O X l).n (runF O X l).f (O i).k (O i).o = 0) : runB O X (l ++ [i]) = true := by rw [runB_s, h]; exact decide_eq_true h2
theorem ap_eq0 {n : Nat} {f : Nat → Feat} {k : Nat} {o : Nat → OpS} (h : apE n f k o = 0) : apV n f k o = true ∧ ∀ j, j < k → (doL (runL (LF f n) o j) (o j)).1 = 0 := by
  unfold apE at h
  split at h
  · rename_i hv
    refine ⟨hv, fun j hj => ?_⟩
    split at h
    · rename_i hlt
      have hb : apJ n f k o < k := hlt
      exact absurd h (by
        have key : ∀ k, badI (LF f n) o k < k → (doL (runL (LF f n) o (badI (LF f n) o k)) (o (badI (LF f n) o k))).1 ≠ 0 := by
          intro k
          induction k with
          | zero => intro h; omega
          | succ k ih =>
            intro hk
            unfold badI at ih hk ⊢
            simp only [fstB] at hk ⊢
            split
            · rename_i g; exact ih g
            · rename_i g
              rw [if_neg g] at hk
              split
              · rename_i g2; exact of_decide_eq_true g2
              · rename_i g2; rw [if_neg g2] at hk; omega
        exact key k hb)
    · rename_i hge
      by_cases e : (doL (runL (LF f n) o j) (o j)).1 = 0
      · exact e
      · exfalso
        have key : ∀ k, j < k → badI (LF f n) o k < k := by
          intro k
          induction k with
          | zero => intro h; omega
          | succ k ih =>
            intro hk
            unfold badI at ih ⊢
            simp only [fstB]
            split
            · rename_i g; omega
            · rename_i g
              split
              · omega
              · rename_i g2
                rcases (by omega : j < k ∨ j = k) with q | rfl
                · exact absurd (ih q) g
                · exact absurd (decide_eq_true e) g2
        exact hge (key k hj)
  · exact absurd h (by decide)
theorem apS_ok {X : FlS} {p : PtS} (h : apX X p = 0) : (apS X p).Ok := by
  obtain ⟨hv, hd⟩ := ap_eq0 h
  have hv2 : feaB X.n X.f = true ∧ opsB p.k p.o = true := by unfold apV at hv; simpa using hv
  have hg := good_run (good_LF hv2.1) (o := p.o) (k := p.k) (of_decide_eq_true hv2.2).2 p.k (Nat.le_refl _)
  have hn := (ap_ok hv2.1 hv2.2 (i := p.k) (Int.le_refl _) hd).1
  refine ⟨?_, fun i hi => ?_⟩
  · show apN X.n X.f p.k p.o ≤ 300
    rw [← hn]; exact hg.n
  · have hi : i < apN X.n X.f p.k p.o := hi
    rw [← hn] at hi
    exact feat_ok (hg.f _ (by show (runL (LF X.f X.n) p.o p.k).getD i feat0 ∈ _; rw [List.getD_eq_getElem?_getD, List.getElem?_eq_getElem hi]; simp))
theorem runF_ok {O : Nat → PtS} : ∀ {X : FlS} {l : List Nat}, X.Ok → runB O X l = true → (runF O X l).Ok
  | X, [], h, _ => h
  | X, i :: l, h, hb => by
    have hb : (decide (apX X (O i) = 0) && runB O (apS X (O i)) l) = true := hb
    rw [Bool.and_eq_true] at hb
    exact runF_ok (l := l) (apS_ok (of_decide_eq_true hb.1)) hb.2
def fl0 (x : CaS) : FlS := ⟨x.n, x.f⟩
theorem fl0_ok {Y : ChS} (h : Y.Ok) : (fl0 Y.x).Ok := ⟨(of_decide_eq_true h.v).1, h.x.f⟩
def foeB (F : Nat → Nat) (s : Nat) : Bool := decide (∀ i, i ∈ bl s → F i &&& s = 0)
def behB (Y : ChS) (s : Nat) : Bool := decide (cloN Y.P s = s) && foeB Y.F s && runB Y.x.O (fl0 Y.x) (bl s)
def behN (Y : ChS) (s : Nat) : Nat := if behB Y s = true then (runF Y.x.O (fl0 Y.x) (bl s)).n else 0
def behF (Y : ChS) (s : Nat) : Nat → Feat := (runF Y.x.O (fl0 Y.x) (bl s)).f
theorem beh_f {Y : ChS} {s : Nat} (h : behB Y s = false) : behN Y s = 0 ∧ false = behB Y s := by unfold behN; rw [h]; exact ⟨rfl, rfl⟩
theorem beh_1 {Y : ChS} {s : Nat} (h : ((cloN Y.P s : Nat) : Int) ≠ (s : Int)) : behB Y s = false := by
  unfold behB; rw [decide_eq_false (fun e => h (by rw [e]))]; rfl
theorem beh_2 {Y : ChS} {s i : Nat} (hi : i ∈ bl s) (h : ((Y.F i &&& s : Nat) : Int) ≠ 0) : behB Y s = false := by
  have e : foeB Y.F s = false := decide_eq_false fun g => h (by rw [g i hi]; rfl)
  unfold behB; rw [e]; simp
theorem beh_3 {Y : ChS} {s i : Nat} {l r : List Nat} (hl : l ++ i :: r = bl s) (h : apX (runF Y.x.O (fl0 Y.x) l) (Y.x.O i) ≠ 0) : behB Y s = false := by
  have e : runB Y.x.O (fl0 Y.x) (bl s) = false := by
    rw [← hl, runB_app]
    show (_ && (decide _ && _)) = false
    rw [decide_eq_false h]; simp
  unfold behB; rw [e]; simp
theorem beh_t {Y : ChS} {s : Nat} (h1 : ((cloN Y.P s : Nat) : Int) = (s : Int)) (h2 : ∀ i, i ∈ bl s → Y.F i &&& s = 0) (h3 : runB Y.x.O (fl0 Y.x) (bl s) = true) : behB Y s = true := by
  unfold behB; rw [decide_eq_true (by omega), h3, show foeB Y.F s = true from decide_eq_true h2]; rfl
theorem all_snoc {p : Nat → Prop} {l : List Nat} {i : Nat} (h : ∀ j, j ∈ l → p j) (hi : p i) : ∀ j, j ∈ l ++ [i] → p j := fun j hj => by
  rcases List.mem_append.1 hj with g | g
  · exact h j g
  · rw [List.mem_singleton.1 g]; exact hi
theorem rdI_in {s r : Nat} {l : List Nat} (h : rdI s (l, r)) (h0 : 0 < r) : l ++ cz r :: bl (r &&& (r - 1)) = bl s := by
  rw [← h.1]; simp only
  rw [(bl_all r h.2 h0).1]
theorem rdI_in2 {s r : Nat} {l : List Nat} (h : rdI s (l, r)) (h0 : 0 < r) : cz r ∈ bl s := by rw [← rdI_in h h0]; simp
theorem u_andF {a s : Nat} (h : a < 1024) (hs : s < 1024) : bits .and .u64 (a : Int) (s : Int) = ((a &&& s : Nat) : Int) := u_and (by omega) (by omega)
set_option maxRecDepth 100000 in
set_option maxHeartbeats 4000000 in
theorem beh_p (Y : ChS) (hY : Y.Ok) (s : Nat) (hin : inS Y.x.m s) : CallsP Tryz.prog 48 [.one (.ptr 6 (chC Y)), .one (.g (.int .u64 ((s : Int))))] (.tup [.one (.lst 9 (behN Y s) (featF (behF Y s))), .one (.g (.bool (behB Y s)))]) := by
  have hm := hY.m
  have hs := inS_lt hm hin
  have hn3 := (of_decide_eq_true hY.v).1
  have hmo := hY.mo
  have mk0 : True := trivial
  have mk1 : True := trivial
  have mk2 : True := trivial
  have hpr : True := trivial
  have hfa : True := trivial
  refine CallsP_of Tryz.func48 rfl (by rw [Tryz.ntmps48]; simp) ?_
  simp only [Tryz.ntmps48, zM, PT.tv, argEnv, Nat.zero_add, Nat.reduceAdd]
  repeat' (first
 | ((with_reducible refine Need.mk ?_); exact lstC_ivf _ _ _ _)
 | ((with_reducible show AW _ _ _ _); first
 | (with_reducible first | refine aS (fun K hK => ?_) | refine aI ?_ | refine aX ?_ | refine aT ?_ | refine aC ?_ | refine aB ?_)
 | ((refine AW_rangeFuncH (k := 110) rfl Tryz.func110 rfl fnok_110 (by rw [Tryz.ntmps110]; simp) ?_ ?_ (fun l hlne A B hA hB => ?_)); (focus (simp (maxSteps := 2000000) only [go_sem, reduceIte, reduceCtorEq, xA, xL, xD, xE, xM, xS, xB, Tryz.f48, Tryz.f110, Tryz.f81, chC0, chC1, chC2, chC3, chC4, chC5, uF0, stF0, stF1, ptF0, hpr, hfa, runF_0]; try exact True.intro)); (focus (simp (maxSteps := 2000000) only [go_sem, reduceIte, reduceCtorEq, xA, xL, xD, xE, xM, xS, xB, Tryz.f48, Tryz.f110, Tryz.f81, chC0, chC1, chC2, chC3, chC4, chC5, uF0, stF0, stF1, ptF0, hpr, hfa, runF_0]; try exact True.intro)); simp only [Tryz.ntmps110, List.map_cons, List.map_nil, LV.tv, argEnv, yV, Nat.zero_add, Nat.reduceAdd]; clear hlne)
 | (with_reducible refine AW_eq (by assumption) ?_)
 | (first
 | (with_reducible first | refine aP (ops := #[⟨some 2, _, _, _, _, _⟩, _, _, _]) 0 [0,1,19,37] ?_ | refine aP (ops := #[⟨some 4, _, _, _, _, _⟩, _]) 0 [0,1] ?_ | refine aP (ops := #[⟨some 1, _, _, _, _, _⟩, _]) 0 [0] ?_ | refine aP (ops := #[⟨some 5, _, _, _, _, _⟩, _]) 1 [0,3] ?_ | refine aP (ops := #[⟨some 3, _, _, _, _, _⟩, _]) 1 [1] ?_)
 | ((with_reducible refine aR (c := Code.region 1 _ true) [2,3,4,5,19,37] ?_); (with_reducible refine aD ?_ ?_ ?_ ?_); (focus kernel_rfl); (focus kernel_rfl); (focus kernel_rfl))
 | (with_reducible first | refine aP (ops := #[⟨none, _, _, _, _, _⟩, _]) 2 [4,5] ?_ | refine aP (ops := #[⟨some 7, _, _, _, _, _⟩, _, _, _, _]) 2 [0,3] ?_ | refine aP (ops := #[⟨some 17, _, _, _, _, _⟩, _]) 3 [2,3,4,5,19,37] ?_ | refine aP (ops := #[⟨some 11, _, _, _, _, _⟩, _, _, _, _]) 3 [0,3] ?_ | refine aP 4 [2,3,4,5,19,37] ?_)
 | ((with_reducible refine aR (c := Code.region 5 _ true) [2,3,4,5,6,19,37] ?_); (with_reducible refine aD ?_ ?_ ?_ ?_); (focus kernel_rfl); (focus kernel_rfl); (focus kernel_rfl))
 | (with_reducible first | refine aP 6 [4,5] ?_ | refine aP 7 [2,3,4,5,37] ?_ | refine AW_frz (c := Code.region 8 _ false) [5] ?_ (aP 8 [2,3,4,5,7,37] ?_) | refine aP 9 [2,4,5,7,37] ?_)
 | ((with_reducible refine aR (c := Code.region 10 _ true) [2,4,5,7,8,37] ?_); (with_reducible refine aD ?_ ?_ ?_ ?_); (focus kernel_rfl); (focus kernel_rfl); (focus kernel_rfl))
 | (with_reducible first | refine aP 11 [2,4,5,7,9,11,37] ?_ | refine aP 12 [4,5] ?_ | refine aP 13 [2,4,5,7,9,37] ?_ | refine aP 14 [4,5,7] ?_))
 | ((with_reducible show AW _ (Code.loop _) _ _); first
 | ((have hO := hfoe; with_reducible refine aL (c := (Code.seq (Code.seq (Code.region 1 _ _) _) _)) (ι := List Nat × Nat) [0] (fun ⟨l2, r2⟩ => [(3, .t (.one (.iv (.g (.int .u64 (r2 : Int))))))]) (fun ⟨l2, r2⟩ => [(6, [.iv (.lst 9 (runF Y.x.O (fl0 Y.x) l2).n (featF (runF Y.x.O (fl0 Y.x) l2).f))])]) (fun ⟨l2, r2⟩ => rdI s (l2, r2) ∧ runB Y.x.O (fl0 Y.x) l2 = true) (fun ⟨l2, r2⟩ => r2) ([], s) ?lg1b ?l11b ?l21b ?li1b ?lr1b); (case' lg1b => rintro ⟨l2, r2⟩ _); (case' li1b => try (exact ⟨rdI_0 hs, rfl⟩)); (case' lr1b => rintro ⟨l2, r2⟩ hz KR hR1b; simp only [keepE, hupd, hset, lk, if_true, if_false, xE, reduceIte, zN, chC0, chC1, chC2, chC3, chC4, chC5, uF0, stF0, stF1, ptF0, hpr, hfa, runF_0]))
 | ((with_reducible refine aL (c := (Code.seq (Code.seq (Code.region 1 _ _) _) _)) (ι := List Nat × Nat) [0] (fun ⟨l, r⟩ => [(3, .t (.one (.iv (.g (.int .u64 (r : Int))))))]) (fun ⟨l, r⟩ => []) (fun ⟨l, r⟩ => rdI s (l, r) ∧ ∀ i, i ∈ l → Y.F i &&& s = 0) (fun ⟨l, r⟩ => r) ([], s) ?lg1 ?l11 ?l21 ?li1 ?lr1); (case' lg1 => rintro ⟨l, r⟩ _); (case' li1 => try (exact ⟨rdI_0 hs, fun _ h => absurd h List.not_mem_nil⟩)); (case' lr1 => rintro ⟨l, r⟩ hz KR hR1; simp only [keepE, hupd, hset, lk, if_true, if_false, xE, reduceIte, zN, chC0, chC1, chC2, chC3, chC4, chC5, uF0, stF0, stF1, ptF0, hpr, hfa, runF_0]))))
 | ((first | (with_reducible refine And.intro ?_ ?_) | (with_reducible refine Need.mk ?_)); focus (first | exact True.intro | (with_reducible assumption) | omega | (refine ⟨?_, ?_⟩ <;> omega) | (intro _; first | exact True.intro | (with_reducible assumption) | omega) | (intros; (repeat' (first | exact True.intro | omega | (with_reducible assumption) | (with_reducible refine And.intro ?_ ?_))); done) | (simp (disch := omega) only [Bool.and_eq_true, Bool.or_eq_true, decide_eq_true_eq, bne_iff_ne, ne_eq] at *; first | done | omega | (intros; omega)) | (simp; done) | (simp; omega) | (simp +contextual; done) | (intro h; rw [h]; rfl) | (intro hq; have hq2 := hq; simp only [Bool.and_eq_true, Bool.or_eq_true, Bool.not_eq_true', Bool.not_not, Bool.not_eq_false', decide_eq_true_eq, decide_eq_false_iff_not] at hq2; (repeat' (first | exact hq | (with_reducible refine And.intro ?_ ?_) | omega | (simp_all; done))); done) | (intros; simp_all; done)))
 | (with_reducible refine retK_n ?_)
 | (with_reducible refine retK_n' ?_)
 | (with_reducible refine retH_n rfl rfl rfl ?_)
 | (with_reducible refine retH_n' rfl rfl rfl ?_)
 | ((with_reducible show condN _ _ _ _ _ _); first
 | ((with_reducible refine condN_t ?_ ?_) <;> (intro hc; (try simp only [zB, zC, reduceCtorEq] at hc); ((try (clear mk0 hpr hfa; have h0 : 0 < r := (by omega); have hz2 := rdI_s hz.1 h0; have hr := hz.1.2; have hcz := rdI_cz hin hz.1 h0; have hpr := u_predW h0 hr; have hfa := u_andF (hY.F _ hcz) hs)); (try (clear mk1; have e0 : r = 0 := (by omega); subst e0; have hl := rdI_e hz.1; subst hl; have hfoe := hz.2; clear hz)); (try (clear mk2 hpr; have h0 : 0 < r2 := (by omega); have hz2 := rdI_s hz.1 h0; have hr := hz.1.2; have hcz := rdI_cz hin hz.1 h0; have hpr := u_predW h0 hr; have hxo := runF_ok (fl0_ok hY) hz.2; have hxn := hxo.n))); (try (exfalso; first | contradiction | omega)))))
 | ((with_reducible refine And.intro ?_ ?_); focus ((with_reducible show chkR _ _ _ = true); kernel_rfl))
 | ((with_reducible show callN _ _ _ _ _ _ _ _ _ _); first
 | (refine callN_q (k := 49) fnok_49 (clo_p Y hY s hin) ?_ ?_)
 | (refine callN_q (k := 111) fnok_111 (tz_p r hz.1.2) ?_ ?_)
 | (refine callN_q (k := 111) fnok_111 (tz_p r2 hz.1.2) ?_ ?_)
 | (refine callN_q (k := 34) fnok_34 (Apply_p (runF Y.x.O (fl0 Y.x) l2).n (runF Y.x.O (fl0 Y.x) l2).f (Y.x.O (cz r2)).k (Y.x.O (cz r2)).o (by omega) hxo.f (hY.x.k _ (by omega)) (hY.x.o _ (by omega))) ?_ ?_)
 | (refine callN_hpq (k := 82) fnok_82 (CallsN_H (clone_nF Y.x.n (featF Y.x.f) (by omega)) (i := 5) rfl) ?_ ?_)
 | ((refine callN_i (k := 81) Tryz.func81 rfl fnok_81 (by rw [Tryz.ntmps81]; simp) ?_ ?_ (fun K hK => ?_)); (focus (first | exact True.intro | (with_reducible assumption) | omega | (refine ⟨?_, ?_⟩ <;> omega) | (intro _; first | exact True.intro | (with_reducible assumption) | omega) | (intros; (repeat' (first | exact True.intro | omega | (with_reducible assumption) | (with_reducible refine And.intro ?_ ?_))); done) | (simp (disch := omega) only [Bool.and_eq_true, Bool.or_eq_true, decide_eq_true_eq, bne_iff_ne, ne_eq] at *; first | done | omega | (intros; omega)) | (simp; done) | (simp; omega) | (simp +contextual; done) | (intro h; rw [h]; rfl) | (intro hq; have hq2 := hq; simp only [Bool.and_eq_true, Bool.or_eq_true, Bool.not_eq_true', Bool.not_not, Bool.not_eq_false', decide_eq_true_eq, decide_eq_false_iff_not] at hq2; (repeat' (first | exact hq | (with_reducible refine And.intro ?_ ?_) | omega | (simp_all; done))); done) | (intros; simp_all; done))); (focus (first | (simp [lsF]; done) | assumption | exact ⟨Nat.ne_of_lt (Nat.lt_succ_self _), by assumption⟩)); simp only [Tryz.ntmps81, List.map_cons, List.map_nil, List.nil_append, List.cons_append, List.append_nil, LV.tv, argEnv, Nat.zero_add, Nat.reduceAdd]))
 | ((with_reducible show callDN _ _ _ _ _ _ _ _ _ _ _ _ _); first
 | (refine callDN_q (k := 49) fnok_49 (clo_p Y hY s hin) ?_ ?_)
 | (refine callDN_q (k := 34) fnok_34 (Apply_p (runF Y.x.O (fl0 Y.x) l2).n (runF Y.x.O (fl0 Y.x) l2).f (Y.x.O (cz r2)).k (Y.x.O (cz r2)).o (by omega) hxo.f (hY.x.k _ (by omega)) (hY.x.o _ (by omega))) ?_ ?_))
 | ((with_reducible refine hR1b _ (l2 ++ [cz r2], r2 &&& (r2 - 1)) ?_); (try clear hR1b KR))
 | ((with_reducible refine hR1 _ (l ++ [cz r], r &&& (r - 1)) ?_); (try clear hR1 KR))
 | ((with_reducible refine Told.mk ?_); simp only [go_sem, reduceIte, reduceCtorEq, xA, xL, xD, xE, xM, xS, xB, chC0, chC1, chC2, chC3, chC4, chC5, uF0, stF0, stF1, ptF0, hpr, hfa, runF_0] <;> (first | exact True.intro | (((try simp (disch := omega) only [seaWrap, Int.natCast_add, Int.cast_ofNat_Int, and_true, true_and, and_self]); (repeat' (first | exact True.intro | omega | rfl | (with_reducible assumption) | (with_reducible refine And.intro ?_ ?_) | (exact all_succ (by assumption) (by assumption)) | ((exact rfl)) | ((exact hz2.1)) | ((exact hz2.2)) | ((exact runB_t hz.2 (by assumption))) | ((exact Or.inl (by rw [runF_s]; rfl))) | ((rw [if_pos (by rw [lstC_len]; omega)]; exact Or.inr ⟨rfl, rfl, fun i o hi ho => lstC_eqf _ _ _ _ _ hi ho⟩)) | ((rw [if_pos (by rw [lstC_len]; omega)]; exact Or.inr ⟨rfl, fun i o hi ho => lstC_eqf _ _ _ _ _ hi ho⟩)))); done)) | (((try simp (disch := omega) only [seaWrap, Int.natCast_add, Int.cast_ofNat_Int, and_true, true_and, and_self]); (repeat' (first | exact True.intro | omega | rfl | (with_reducible assumption) | (with_reducible refine And.intro ?_ ?_) | (exact all_succ (by assumption) (by assumption)) | ((exact rfl)) | ((exact hz2.1)) | ((exact hz2.2)) | ((exact all_snoc hz.2 (by omega))))); done)) | (refine Stuck.out ?_)))
 | ((fail_if_success (with_reducible show AW _ _ _ _)); simp (maxSteps := 2000000) only [go_sem, reduceIte, reduceCtorEq, xA, xL, xD, xE, xM, xS, xB, Tryz.f48, Tryz.f110, Tryz.f81, chC0, chC1, chC2, chC3, chC4, chC5, uF0, stF0, stF1, ptF0, hpr, hfa, runF_0])
 | ((fail_if_success (with_reducible show AW _ _ _ _)); simp (disch := omega) only [seaWrap, seaDiv, seaMod])
 | ((with_reducible show callN _ _ _ _ _ _ (.yld _) _ _ _); (refine callN_y (by simp only [lkL, if_true]; exact rfl) ?_ (by simp) ?_ ?_ (fun K hK => ?_)); (focus (first | exact True.intro | (with_reducible assumption) | omega | (refine ⟨?_, ?_⟩ <;> omega) | (intro _; first | exact True.intro | (with_reducible assumption) | omega) | (intros; (repeat' (first | exact True.intro | omega | (with_reducible assumption) | (with_reducible refine And.intro ?_ ?_))); done) | (simp (disch := omega) only [Bool.and_eq_true, Bool.or_eq_true, decide_eq_true_eq, bne_iff_ne, ne_eq] at *; first | done | omega | (intros; omega)) | (simp; done) | (simp; omega) | (simp +contextual; done) | (intro h; rw [h]; rfl) | (intro hq; have hq2 := hq; simp only [Bool.and_eq_true, Bool.or_eq_true, Bool.not_eq_true', Bool.not_not, Bool.not_eq_false', decide_eq_true_eq, decide_eq_false_iff_not] at hq2; (repeat' (first | exact hq | (with_reducible refine And.intro ?_ ?_) | omega | (simp_all; done))); done) | (intros; simp_all; done))); (focus (simp [ltAll])); (focus (first | (simp [lsF]; done) | assumption | exact ⟨Nat.ne_of_lt (Nat.lt_succ_self _), by assumption⟩)); simp only [zipPut, gf, if_true, Nat.reduceAdd])
 | ((with_reducible refine hK _ ?_); clear hK K)
 | (with_reducible apply_assumption -exfalso only [*]))
  all_goals first
    | (have e := beh_f (Y := Y) (s := s) (beh_1 (by assumption)); rw [e.1]; exact ⟨rfl, e.2⟩)
    | exact beh_f (beh_2 (rdI_in2 hz.1 h0) (by assumption))
    | exact beh_f (beh_3 (rdI_in hz.1 h0) (by assumption))
    | (have e0 : r2 = 0 := (by omega); subst e0; have hl := rdI_e hz.1; subst hl; have e := beh_t (Y := Y) (by assumption) hfoe hz.2; unfold behN behF; rw [e]; exact ⟨⟨rfl, fun i o _ _ => IV.eqv_refl _⟩, rfl⟩)
    | skip
end Go.Proofs.YtmnejmpjmniiiaaGreatDoor
namespace Go.Sea
open Go.RowKit
def LV.mv (a b : Nat) : LV → LV
  | .ptr k o => .ptr (if k = a then b else k) o
  | .mp k => .mp (if k = a then b else k)
  | c => c
def CV.mv (a b : Nat) : CV → CV
  | .slc k off n E => .slc (if k = a then b else k) off n E
  | .ptr k o => .ptr (if k = a then b else k) o
  | .fn f x y => .fn f (x.map (LV.mv a b)) (y.map (LV.mv a b))
  | .mp k => .mp (if k = a then b else k)
  | .it k => .it (if k = a then b else k)
  | .ml l => .ml (l.map fun x => (x.1, x.2.1, x.2.2.1.map (LV.mv a b), x.2.2.2.map (LV.mv a b)))
  | .mt j c p q => .mt (if j = a then b else j) c p q
  | c => c
def TV.mv (a b : Nat) : TV → TV
  | .one c => .one (c.mv a b)
  | .agg cs => .agg (cs.map (CV.mv a b))
def AV.mv (a b : Nat) : AV → AV
  | .t x => .t (x.mv a b)
  | .tup xs => .tup (xs.map (TV.mv a b))
  | .mb c x => .mb c (x.mv a b)
  | .any => .any
def mvE (a b : Nat) (e : List (Nat × AV)) : List (Nat × AV) := e.map fun p => (p.1, p.2.mv a b)
def mvG (a b : Nat) (g : List (Nat × List (Nat × AV))) : List (Nat × List (Nat × AV)) := g.map fun p => (p.1, mvE a b p.2)
def mvO (a b : Nat) (o : Option (List CV)) : Option (List CV) := o.map (List.map (CV.mv a b))
def mvH (a b : Nat) (h : List (Option (List CV))) : List (Option (List CV)) := hdel (h.map (mvO a b)) a ++ [mvO a b (hget h a)]
def AS.mv (a b : Nat) (s : AS) : AS := ⟨mvE a b s.env, mvH a b s.heap, s.N, mvG a b s.gh, s.lp⟩
theorem lk_mv (a b t : Nat) : ∀ env : List (Nat × AV), lk (mvE a b env) t = (lk env t).mv a b
  | [] => rfl
  | (k, v) :: r => by
    simp only [mvE, List.map_cons, lk]
    split
    · rfl
    · exact lk_mv a b t r
theorem gf_mv (a b f : Nat) : ∀ g : List (Nat × List (Nat × AV)), gf (mvG a b g) f = mvE a b (gf g f)
  | [] => rfl
  | (k, v) :: r => by
    simp only [mvG, List.map_cons, gf]
    split
    · rfl
    · exact gf_mv a b f r
theorem hdel_len : ∀ (h : List (Option (List CV))) (i : Nat), (hdel h i).length = h.length
  | [], i => by simp [hdel]
  | x :: h, 0 => by simp [hdel]
  | x :: h, i + 1 => by simp [hdel, hdel_len h i]
theorem hget_mv (a : Nat) (h : List (Option (List CV))) (k : Nat) : hget (mvH a h.length h) k = if k = h.length then mvO a h.length (hget h a) else if k = a then none else mvO a h.length (hget h k) := by
  unfold mvH
  have hl : (hdel (h.map (mvO a h.length)) a).length = h.length := by rw [hdel_len, List.length_map]
  by_cases hk : k = h.length
  · rw [if_pos hk]
    subst hk
    unfold hget
    rw [List.getElem?_append_right (by omega), hl]
    simp
  · rw [if_neg hk]
    have e1 : hget (hdel (h.map (mvO a h.length)) a ++ [mvO a h.length (hget h a)]) k = hget (hdel (h.map (mvO a h.length)) a) k := by
      unfold hget
      by_cases hlt : k < h.length
      · rw [List.getElem?_append_left (by omega)]
      · rw [List.getElem?_eq_none (by simp [hl]; omega), List.getElem?_eq_none (by omega)]
    rw [e1, hget_hdel]
    by_cases ha : k = a
    · rw [if_pos ha, if_pos ha]
    · rw [if_neg ha, if_neg ha]
      unfold hget mvO
      rw [List.getElem?_map]
      cases h[k]? <;> rfl
section
variable {w0 : World} {Z0 : Fr} {J J' : Nat → Option Nat} {Z : Nat → Prop} {s : AS} {ac : Act} {w : World} {a b : Nat}
theorem LRel.mv (hJ : ∀ k x, J k = some x → J' (if k = a then b else k) = some x) {v : Value} {l : LV} (h : LRel w J Z v l) : LRel w J' Z v (l.mv a b) := by
  cases l with
  | iv c => exact h
  | ptr k o => obtain ⟨x, e, hx, ho⟩ := h; exact ⟨x, e, hJ k x hx, ho⟩
  | mp k => obtain ⟨x, e, hx⟩ := h; exact ⟨x, e, hJ k x hx⟩
theorem CRel.mv (hJ : ∀ k x, J k = some x → J' (if k = a then b else k) = some x) {v : Value} {c : CV} (h : CRel w J Z v c) : CRel w J' Z v (c.mv a b) := by
  cases c with
  | iv c => exact h
  | ip m c => exact h
  | slc k off n E =>
    rcases h with h | ⟨x, cap, c, e, hv, hx, r⟩
    · exact Or.inl h
    · exact Or.inr ⟨x, cap, c, e, hv, hJ k x hx, r⟩
  | ptr k o => obtain ⟨x, e, hx, ho⟩ := h; exact ⟨x, e, hJ k x hx, ho⟩
  | mp k => obtain ⟨x, e, hx⟩ := h; exact ⟨x, e, hJ k x hx⟩
  | it k => obtain ⟨x, e, hx⟩ := h; exact ⟨x, e, hJ k x hx⟩
  | mi => exact h.elim
  | m2 => exact h.elim
  | ml => exact h.elim
  | mt => exact h.elim
  | fn f x y =>
    obtain ⟨A, B, e, h1, h2⟩ := h
    exact ⟨A, B, e, All2.map_right.2 (h1.mono fun _ _ => LRel.mv hJ), All2.map_right.2 (h2.mono fun _ _ => LRel.mv hJ)⟩
  | any => exact h
theorem Blk.mv (hJ : ∀ k x, J k = some x → J' (if k = a then b else k) = some x) {c : Nat} {cs : List CV} (h : Blk w J Z c cs) : Blk w J' Z c (cs.map (CV.mv a b)) := by
  unfold Blk at h
  split at h
  · obtain ⟨rfl, h⟩ := h
    exact ⟨rfl, h⟩
  · obtain ⟨rfl, h⟩ := h
    exact ⟨rfl, h⟩
  · obtain ⟨rfl, es, clock, h1, h2, h3⟩ := h
    exact ⟨rfl, es, clock, h1, h2, (All2.map_right (f := fun x : Int × Fn × List LV × List LV => (x.1, x.2.1, x.2.2.1.map (LV.mv a b), x.2.2.2.map (LV.mv a b)))).2 (h3.mono fun _ _ hr => ⟨hr.1, CRel.mv hJ hr.2⟩)⟩
  · obtain ⟨rfl, m, seen, es, clock, h1, h2, h3⟩ := h
    exact ⟨rfl, m, seen, es, clock, h1, hJ _ _ h2, h3⟩
  · rcases h with ⟨c, e, h1, h2⟩ | ⟨⟨o, h1, h2⟩, h3⟩
    · refine Blk.of h1 ?_
      rw [List.length_map]
      exact All2.map_right.2 (h2.mono fun _ _ => CRel.mv hJ)
    · refine Blk.dead h1 h2 fun c hc => ?_
      obtain ⟨c', hc', rfl⟩ := List.mem_map.1 hc
      rw [h3 c' hc']; rfl
theorem TRel.mv (hJ : ∀ k x, J k = some x → J' (if k = a then b else k) = some x) {v : Value} {c : TV} (h : TRel w J Z v c) : TRel w J' Z v (c.mv a b) := by
  cases c with
  | one c => exact CRel.mv hJ h
  | agg cs => obtain ⟨A, e, h⟩ := h; exact ⟨A, e, All2.map_right.2 (h.mono fun _ _ => CRel.mv hJ)⟩
theorem ARel.mv (hJ : ∀ k x, J k = some x → J' (if k = a then b else k) = some x) {v : Value} {c : AV} (h : ARel w J Z v c) : ARel w J' Z v (c.mv a b) := by
  cases c with
  | t x => exact TRel.mv hJ h
  | tup xs => obtain ⟨A, e, h⟩ := h; exact ⟨A, e, All2.map_right.2 (h.mono fun _ _ => TRel.mv hJ)⟩
  | mb c x => exact ⟨fun hc => TRel.mv hJ (h.1 hc), h.2⟩
  | any => trivial
theorem Rel.mv (R : Rel w0 Z0 J Z s ac w) (ha : (hget s.heap a).isSome = true) : Rel w0 Z0 (fun k => if k = s.heap.length then J a else if k = a then none else J k) Z (s.mv a s.heap.length) ac w := by
  have hla : a < s.heap.length := by
    refine Nat.lt_of_not_le fun h => ?_
    rw [hget_ge _ _ h] at ha
    cases ha
  have hJ : ∀ k x, J k = some x → (fun k => if k = s.heap.length then J a else if k = a then none else J k) (if k = a then s.heap.length else k) = some x := fun k x hx => by
    by_cases h : k = a
    · subst h; simp [hx]
    · simp only [if_neg h]
      rw [if_neg]
      · exact hx
      · rintro rfl
        rw [R.hole _ (hget_ge _ _ (Nat.le_refl _))] at hx
        cases hx
  have sub : ∀ k x, (if k = s.heap.length then J a else if k = a then none else J k) = some x → ∃ q, J q = some x ∧ ((k = s.heap.length ∧ q = a) ∨ (k ≠ s.heap.length ∧ k ≠ a ∧ q = k)) := fun k x h => by
    split at h
    · rename_i e; exact ⟨a, h, Or.inl ⟨e, rfl⟩⟩
    · rename_i e1
      split at h
      · cases h
      · rename_i e2; exact ⟨k, h, Or.inr ⟨e1, e2, rfl⟩⟩
  refine ⟨R.nodef, R.size, R.below, R.zfrom, R.zlt, fun k x h => ?_, fun k j x hk hj => ?_, fun k h => ?_, fun k cs h hne => ?_, fun t => ?_, fun f t => ?_, R.loops, R.lnd, R.ro, R.tab⟩
  · obtain ⟨q, hq, _⟩ := sub k x h
    exact R.jlt q x hq
  · obtain ⟨q1, h1, e1⟩ := sub k x hk
    obtain ⟨q2, h2, e2⟩ := sub j x hj
    have := R.inj q1 q2 x h1 h2
    omega
  · simp only [AS.mv] at h
    rw [hget_mv] at h
    by_cases h1 : k = s.heap.length
    · rw [if_pos h1] at h
      cases hc : hget s.heap a with
      | none => rw [hc] at ha; cases ha
      | some cs => rw [hc] at h; simp [mvO] at h
    · rw [if_neg h1] at h ⊢
      by_cases h2 : k = a
      · rw [if_pos h2]
      · rw [if_neg h2] at h ⊢
        refine R.hole k ?_
        cases hc : hget s.heap k with
        | none => rfl
        | some cs => rw [hc] at h; simp [mvO] at h
  · simp only [AS.mv] at h
    rw [hget_mv] at h
    have one : ∀ q, mvO a s.heap.length (hget s.heap q) = some cs → ∃ b, J q = some b ∧ Blk w (fun k => if k = s.heap.length then J a else if k = a then none else J k) Z b cs := fun q hq => by
      cases hc : hget s.heap q with
      | none => rw [hc] at hq; simp [mvO] at hq
      | some c0 =>
        rw [hc] at hq
        simp only [mvO, Option.map_some, Option.some.injEq] at hq
        subst hq
        obtain ⟨b, g1, g2⟩ := R.blk q c0 hc (by rintro rfl; exact hne rfl)
        exact ⟨b, g1, g2.mv hJ⟩
    by_cases h1 : k = s.heap.length
    · rw [if_pos h1] at h
      obtain ⟨b, g1, g2⟩ := one a h
      exact ⟨b, by rw [if_pos h1]; exact g1, g2⟩
    · rw [if_neg h1] at h
      by_cases h2 : k = a
      · rw [if_pos h2] at h; cases h
      · rw [if_neg h2] at h
        obtain ⟨b, g1, g2⟩ := one k h
        exact ⟨b, by rw [if_neg h1, if_neg h2]; exact g1, g2⟩
  · show ARel _ _ _ _ (lk (mvE a s.heap.length s.env) t)
    rw [lk_mv]; exact ARel.mv hJ (R.slots t)
  · show ARel _ _ _ _ (lk (gf (mvG a s.heap.length s.gh) f) t)
    rw [gf_mv, lk_mv]; exact ARel.mv hJ (R.ghost f t)
end
def famL (F : Nat → Nat → IV) (n : Nat) : List (Option (List CV)) := (List.range n).map fun k => some (rowV (F k) 64)
section
variable (F G : Nat → Nat → IV) (n k a b : Nat)
theorem famL_len : (famL F n).length = n := by simp [famL]
theorem famL_zero : famL F 0 = [] := rfl
theorem famL_at {F : Nat → Nat → IV} {n k : Nat} (h : k < n) : (famL F n)[k]? = some (some (rowV (F k) 64)) := by simp [famL, h]
theorem famL_snoc : famL F n ++ [some (rowV (F n) 64)] = famL F (n + 1) := by simp [famL, List.range_succ]
theorem famL_ext {l : List (Option (List CV))} (hl : l.length = n) (h : ∀ j, j < n → l[j]? = some (some (rowV (F j) 64))) : l = famL F n := by
  refine List.ext_getElem? fun j => ?_
  by_cases hj : j < n
  · rw [h j hj, famL_at hj]
  · rw [List.getElem?_eq_none (by omega), List.getElem?_eq_none (by rw [famL_len]; omega)]
theorem famL_purge : List.map (fun o => Option.map (purgeC a) o) (famL F n) = famL F n := by
  refine famL_ext _ _ (by simp [famL_len]) fun j hj => ?_
  rw [List.getElem?_map, famL_at hj]
  simp [purgeC, rowV_pur]
theorem rowV_mv (f : Nat → IV) : List.map (CV.mv a b) (rowV f n) = rowV f n := by
  refine (List.map_congr_left fun c hc => ?_).trans (List.map_id _)
  have := rowV_iv f n c hc
  cases c <;> first | rfl | exact this.elim
theorem famL_mv : List.map (mvO a b) (famL F n) = famL F n := by
  refine famL_ext _ _ (by simp [famL_len]) fun j hj => ?_
  rw [List.getElem?_map, famL_at hj]
  simp [mvO, rowV_mv]
end
def GOk (H : List (Option (List CV))) (g : List (Nat × List (Nat × AV))) : Prop := ∀ p, p ∈ g → ∀ q, q ∈ p.2 → q.2.ok (okB H)
theorem LV.ok_mono {p q : Nat → Prop} (h : ∀ i, p i → q i) {c : LV} (hc : c.ok p) : c.ok q := by cases c <;> first | trivial | exact h _ hc
theorem CV.ok_mono {p q : Nat → Prop} (h : ∀ i, p i → q i) {c : CV} (hc : c.ok p) : c.ok q := by
  cases c <;> first | trivial | exact h _ hc | exact ⟨fun l hl => LV.ok_mono h (hc.1 l hl), fun l hl => LV.ok_mono h (hc.2 l hl)⟩ | exact fun x hx => ⟨fun l hl => LV.ok_mono h ((hc x hx).1 l hl), fun l hl => LV.ok_mono h ((hc x hx).2 l hl)⟩
theorem TV.ok_mono {p q : Nat → Prop} (h : ∀ i, p i → q i) {c : TV} (hc : c.ok p) : c.ok q := by
  cases c with
  | one c => exact CV.ok_mono h hc
  | agg cs => exact fun c hm => CV.ok_mono h (hc c hm)
theorem AV.ok_mono {p q : Nat → Prop} (h : ∀ i, p i → q i) {c : AV} (hc : c.ok p) : c.ok q := by
  cases c with
  | t x => exact TV.ok_mono h hc
  | tup xs => exact fun c hm => TV.ok_mono h (hc c hm)
  | mb b x => exact TV.ok_mono h hc
  | any => trivial
theorem GOk.mono {H H' : List (Option (List CV))} {g : List (Nat × List (Nat × AV))} (h : GOk H g) (hs : ∀ i, okB H i → okB H' i) : GOk H' g := fun p hp q hq => AV.ok_mono hs (h p hp q hq)
theorem CV.no_has {p : Nat → Prop} {i : Nat} (hi : ¬ p i) {c : CV} (hc : c.ok p) : c.has i = false := by
  cases c with
  | slc j off n E => exact beq_eq_false_iff_ne.2 fun e => hi (e ▸ hc)
  | ptr j o => exact beq_eq_false_iff_ne.2 fun e => hi (e ▸ hc)
  | mp j => exact beq_eq_false_iff_ne.2 fun e => hi (e ▸ hc)
  | it j => exact beq_eq_false_iff_ne.2 fun e => hi (e ▸ hc)
  | mt j c p q => exact beq_eq_false_iff_ne.2 fun e => hi (e ▸ hc)
  | ml l =>
    refine List.any_eq_false.2 fun x hx => ?_
    rw [Bool.not_eq_true]
    refine Bool.or_eq_false_iff.2 ⟨List.any_eq_false.2 fun l hl => ?_, List.any_eq_false.2 fun l hl => ?_⟩
    · have := (hc x hx).1 l hl
      cases l with
      | iv c => simp [LV.has]
      | ptr j o => simp only [LV.has, beq_iff_eq]; exact fun e => hi (e ▸ this)
      | mp j => simp only [LV.has, beq_iff_eq]; exact fun e => hi (e ▸ this)
    · have := (hc x hx).2 l hl
      cases l with
      | iv c => simp [LV.has]
      | ptr j o => simp only [LV.has, beq_iff_eq]; exact fun e => hi (e ▸ this)
      | mp j => simp only [LV.has, beq_iff_eq]; exact fun e => hi (e ▸ this)
  | fn f a b =>
    refine Bool.or_eq_false_iff.2 ⟨List.any_eq_false.2 fun l hl => ?_, List.any_eq_false.2 fun l hl => ?_⟩
    · have := hc.1 l hl
      cases l with
      | iv c => simp [LV.has]
      | ptr j o => simp only [LV.has, beq_iff_eq]; exact fun e => hi (e ▸ this)
      | mp j => simp only [LV.has, beq_iff_eq]; exact fun e => hi (e ▸ this)
    · have := hc.2 l hl
      cases l with
      | iv c => simp [LV.has]
      | ptr j o => simp only [LV.has, beq_iff_eq]; exact fun e => hi (e ▸ this)
      | mp j => simp only [LV.has, beq_iff_eq]; exact fun e => hi (e ▸ this)
  | _ => rfl
theorem TV.no_has {p : Nat → Prop} {i : Nat} (hi : ¬ p i) {c : TV} (hc : c.ok p) : c.has i = false := by
  cases c with
  | one c => exact CV.no_has hi hc
  | agg cs => exact List.any_eq_false.2 fun c hm => by simp [CV.no_has hi (hc c hm)]
theorem AV.no_has {p : Nat → Prop} {i : Nat} (hi : ¬ p i) {c : AV} (hc : c.ok p) : c.has i = false := by
  cases c with
  | t x => exact TV.no_has hi hc
  | tup xs => exact List.any_eq_false.2 fun c hm => by simp [TV.no_has hi (hc c hm)]
  | mb b x => exact TV.no_has hi hc
  | any => rfl
theorem LV.mv_no {p : Nat → Prop} {i b : Nat} (hi : ¬ p i) {c : LV} (hc : c.ok p) : c.mv i b = c := by
  cases c with
  | iv c => rfl
  | ptr k o => simp only [LV.mv]; rw [if_neg]; rintro rfl; exact hi hc
  | mp k => simp only [LV.mv]; rw [if_neg]; rintro rfl; exact hi hc
theorem CV.mv_no {p : Nat → Prop} {i b : Nat} (hi : ¬ p i) {c : CV} (hc : c.ok p) : c.mv i b = c := by
  cases c with
  | slc k off n E => simp only [CV.mv]; rw [if_neg]; rintro rfl; exact hi hc
  | ptr k o => simp only [CV.mv]; rw [if_neg]; rintro rfl; exact hi hc
  | mp k => simp only [CV.mv]; rw [if_neg]; rintro rfl; exact hi hc
  | it k => simp only [CV.mv]; rw [if_neg]; rintro rfl; exact hi hc
  | mt k c p q => simp only [CV.mv]; rw [if_neg]; rintro rfl; exact hi hc
  | ml l =>
    simp only [CV.mv]
    congr 1
    refine (List.map_congr_left fun x hx => ?_).trans (List.map_id _)
    rw [(List.map_congr_left fun l hl => LV.mv_no hi ((hc x hx).1 l hl)).trans (List.map_id _), (List.map_congr_left fun l hl => LV.mv_no hi ((hc x hx).2 l hl)).trans (List.map_id _)]
    rfl
  | fn f x y =>
    simp only [CV.mv]
    rw [(List.map_congr_left fun l hl => LV.mv_no hi (hc.1 l hl)).trans (List.map_id _), (List.map_congr_left fun l hl => LV.mv_no hi (hc.2 l hl)).trans (List.map_id _)]
  | _ => rfl
theorem TV.mv_no {p : Nat → Prop} {i b : Nat} (hi : ¬ p i) {c : TV} (hc : c.ok p) : c.mv i b = c := by
  cases c with
  | one c => simp only [TV.mv]; rw [CV.mv_no hi hc]
  | agg cs => simp only [TV.mv]; rw [(List.map_congr_left fun l hl => CV.mv_no hi (hc l hl)).trans (List.map_id _)]
theorem AV.mv_no {p : Nat → Prop} {i b : Nat} (hi : ¬ p i) {c : AV} (hc : c.ok p) : c.mv i b = c := by
  cases c with
  | t x => simp only [AV.mv]; rw [TV.mv_no hi hc]
  | tup xs => simp only [AV.mv]; rw [(List.map_congr_left fun l hl => TV.mv_no hi (hc l hl)).trans (List.map_id _)]
  | mb b x => simp only [AV.mv]; rw [TV.mv_no hi hc]
  | any => rfl
theorem GOk.purge {H : List (Option (List CV))} {g : List (Nat × List (Nat × AV))} (h : GOk H g) {i : Nat} (hi : hget H i = none) : purgeG i g = g := by
  refine (List.map_congr_left fun p hp => ?_).trans (List.map_id _)
  have : purgeE i p.2 = p.2 := (List.map_congr_left fun q hq => by
    have hn : ¬ okB H i := by unfold okB; rw [hi]; simp
    simp only [AV.purge, AV.no_has hn (h p hp q hq), cond_false]
    rfl).trans (List.map_id _)
  rw [this]; rfl
theorem GOk.mv {H : List (Option (List CV))} {g : List (Nat × List (Nat × AV))} (h : GOk H g) {i : Nat} (hi : hget H i = none) (b : Nat) : mvG i b g = g := by
  refine (List.map_congr_left fun p hp => ?_).trans (List.map_id _)
  have : mvE i b p.2 = p.2 := (List.map_congr_left fun q hq => by
    have hn : ¬ okB H i := by unfold okB; rw [hi]; simp
    rw [AV.mv_no hn (h p hp q hq)]
    rfl).trans (List.map_id _)
  rw [this]; rfl
theorem GOk.cons {H : List (Option (List CV))} {g : List (Nat × List (Nat × AV))} {f : Nat} {e : List (Nat × AV)} (he : ∀ q, q ∈ e → q.2.ok (okB H)) (h : GOk H g) : GOk H ((f, e) :: g) := fun p hp => by
  rcases List.mem_cons.1 hp with rfl | hp
  · exact he
  · exact h p hp
theorem GOk.nil (H : List (Option (List CV))) : GOk H [] := fun p hp => by cases hp
attribute [go_sem] AS.mv mvE mvG mvH mvO AV.mv TV.mv CV.mv LV.mv famL_mv famL_purge famL_snoc famL_zero
end Go.Sea
namespace Go.Sea
open Go.RowKit Go.Sea
def dnT (D : Nat → Bool) : List Nat → Prop
  | [] => True
  | k :: r => D k = true ∧ dnT D r
def dnF (D : Nat → Bool) : List Nat → Prop
  | [] => True
  | k :: r => D k = false ∧ dnF D r
def updD (D : Nat → Bool) (i : Nat) : Nat → Bool := fun k => if k = i then true else D k
def ancT (ops : Array Oper) (TF : List (List Nat × List Nat)) : Bool := TF.length == ops.size && (List.range ops.size).all fun i =>
  (TF.getD i ([], [])).1.all (fun k => ((masks [] ops.toList).getD i 0).testBit k) && (TF.getD i ([], [])).2.all (fun k => k == i || (decide (k < ops.size) && ((masks [] ops.toList).getD k 0).testBit i))
def runD (P : Program) (os : List Oper) (n0 : Nat) (L : List Nat) (S : (Nat → Bool) → AS) : Nat → List (List Nat × List Nat) → Prop
  | _, [] => True
  | i, (T, F) :: r => (∀ D, dnT D T → dnF D F → opTr P n0 i (S D) (fun s' => Leaf ⟨keepE s'.env L, s'.heap, s'.N, s'.gh, s'.lp⟩ (S (updD D i))) (nthO os i)) ∧ runD P os n0 L S (i + 1) r
theorem runD_nilI {P : Program} {os : List Oper} {n0 i : Nat} {L : List Nat} {S : (Nat → Bool) → AS} : runD P os n0 L S i [] := trivial
theorem runD_consI {P : Program} {os : List Oper} {n0 i : Nat} {L : List Nat} {S : (Nat → Bool) → AS} {T F : List Nat} {r : List (List Nat × List Nat)} (h : ∀ D, dnT D T → dnF D F → ∀ K : AS → Prop, (∀ s' : AS, Leaf ⟨keepE s'.env L, s'.heap, s'.N, s'.gh, s'.lp⟩ (S (updD D i)) → K s') → opTr P n0 i (S D) K (nthO os i)) (h2 : runD P os n0 L S (i + 1) r) : runD P os n0 L S i ((T, F) :: r) :=
  ⟨fun D hT hF => h D hT hF _ fun _ h => h, h2⟩
theorem runD_at {P : Program} {os : List Oper} {n0 : Nat} {L : List Nat} {S : (Nat → Bool) → AS} : ∀ {TF : List (List Nat × List Nat)} {j i : Nat}, runD P os n0 L S j TF → i < TF.length → ∀ D, dnT D (TF.getD i ([], [])).1 → dnF D (TF.getD i ([], [])).2 → opTr P n0 (j + i) (S D) (fun s' => Leaf ⟨keepE s'.env L, s'.heap, s'.N, s'.gh, s'.lp⟩ (S (updD D (j + i)))) (nthO os (j + i))
  | (T, F) :: r, j, 0, h, _ => h.1
  | (T, F) :: r, j, i + 1, h, hi => by
    have := runD_at (i := i) h.2 (by simpa using hi)
    rw [show j + 1 + i = j + (i + 1) by omega] at this
    exact this
theorem dnT_of {D : Nat → Bool} : ∀ {l : List Nat}, (∀ k, k ∈ l → D k = true) → dnT D l
  | [], _ => trivial
  | k :: l, h => ⟨h k (List.mem_cons_self ..), dnT_of fun j hj => h j (List.mem_cons_of_mem _ hj)⟩
theorem dnF_of {D : Nat → Bool} : ∀ {l : List Nat}, (∀ k, k ∈ l → D k = false) → dnF D l
  | [], _ => trivial
  | k :: l, h => ⟨h k (List.mem_cons_self ..), dnF_of fun j hj => h j (List.mem_cons_of_mem _ hj)⟩
theorem Rep_keepT {w0 : World} {Z0 : Fr} {s s' : AS} {a : Act} {w : World} {L : List Nat} (h : Leaf ⟨keepE s.env L, s.heap, s.N, s.gh, s.lp⟩ s') (R : Rep w0 Z0 s a w) : Rep w0 Z0 s' a w := by
  obtain ⟨rfl⟩ := h
  obtain ⟨J, Z, R⟩ := R
  exact ⟨J, Z, R.nodef, R.size, R.below, R.zfrom, R.zlt, R.jlt, R.inj, R.hole, R.blk, fun t => by
    rcases lk_keepE s.env t L with e | e
    · show ARel _ _ _ _ (lk (keepE s.env L) t); rw [e]; trivial
    · show ARel _ _ _ _ (lk (keepE s.env L) t); rw [e]; exact R.slots t, R.ghost, R.loops, R.lnd, R.ro, R.tab⟩
theorem AW_regionT {P : Program} {s : AS} {Q : Exit → AS → Prop} {id : Nat} {ops : Array Oper} (n0 : Nat) (L : List Nat) (TF : List (List Nat × List Nat)) (A : List Nat) (S : (Nat → Bool) → AS) (hm : P.follows .mixedOrders = true) (hback : backB .any ops = true) (hd : noDefer ops = true) (hc : ancT ops TF = true)
    (h0 : Leaf ⟨keepE s.env L, s.heap, s.N, s.gh, s.lp⟩ (S fun _ => false)) (h : runD P ops.toList n0 L S 0 TF) (hA : (A.all fun k => decide (k < ops.size)) = true) (hq : ∀ D, dnT D A → Q .normal (S D)) : AW P (.region id ops true) s Q := fun w0 Z0 a w n R => by
  simp only [ancT, Bool.and_eq_true, beq_iff_eq] at hc
  refine regionIn_by (free_fo _) (fun _ D a w => Rep w0 Z0 (S D) a w) hm hd hback ?_ ?_ fun D a w hD R' => ?_
  · obtain ⟨J, Z, R⟩ := Rep_keepT h0 R
    exact ⟨J, Z, R.drew⟩
  · refine Steps.of ops.toList 0 fun i o ho D a w R' hDi hpre hcl K hK => ?_
    rw [Nat.zero_add] at hDi
    simp only [Nat.zero_add] at hK
    have hoi : ops[i]? = some o := by rw [← Array.getElem?_toList]; exact ho
    have hi : i < ops.size := (Array.getElem?_eq_some_iff.1 hoi).1
    have hE := List.all_eq_true.1 hc.2 i (List.mem_range.2 hi)
    rw [Bool.and_eq_true] at hE
    have hT : dnT D (TF.getD i ([], [])).1 := dnT_of fun k hk => (masks_anc (ops := ops) (List.all_eq_true.1 hE.1 k hk)).done hcl o hoi hpre
    have hF : dnF D (TF.getD i ([], [])).2 := dnF_of fun k hk => by
      have h1 := List.all_eq_true.1 hE.2 k hk
      rw [Bool.or_eq_true, beq_iff_eq, Bool.and_eq_true, decide_eq_true_eq] at h1
      rcases h1 with rfl | ⟨h1, h2⟩
      · exact hDi
      · cases hk' : D k with
        | false => rfl
        | true =>
          have ho' : ops[k]? = some ops[k] := Array.getElem?_eq_getElem h1
          have := (masks_anc (ops := ops) h2).done hcl _ ho' (hcl k _ ho' hk')
          rw [hDi] at this; cases this
    have hop := runD_at h (i := i) (by omega) D hT hF
    rw [Nat.zero_add] at hop
    rw [nthO_get, Array.getElem?_toList, hoi] at hop
    obtain ⟨hg, hop⟩ := hop
    split at hop
    · rename_i nd v ef hof
      obtain ⟨hh, hdst, hnd, hrun⟩ := hop
      obtain ⟨J, Z, R'⟩ := R'
      have hw : Region.wanted o (yielded ops a.tmps) = true := by simp [Region.wanted, hg]
      rw [if_pos hw]
      refine does_wp (opF_sound R' hh hof hnd) fun J' w' u R'' hr' => hK _ _ ?_
      have e : upd D i = updD D i := by
        funext k
        unfold updD
        by_cases hk : k = i
        · subst hk; simp [upd]
        · rw [upd_ne D hk, if_neg hk]
      show Rep w0 Z0 (S (upd D i)) _ _
      rw [e]
      exact Rep_keepT hrun ⟨J', Z, R''.put (fun k e => by rw [eff_N]; exact dstOk_spec hdst k e) hr'⟩
    · exact hop.elim
  · exact ⟨S D, R', hq D (dnT_of fun k hk => hD k (of_decide_eq_true (List.all_eq_true.1 hA k hk)))⟩
end Go.Sea
set_option maxRecDepth 100000
set_option maxHeartbeats 4000000
namespace Go.Proofs.YtmnejmpjmniiiaaGreatDoor
open Go.RowKit Go.Sea
open Nat renaming reduceAdd → xA, reduceLT → xL, reduceLeDiff → xD, reduceEqDiff → xE, reduceMul → xM, reduceSub → xS, reduceBEq → xB
theorem fnok_65 : fnOk Tryz.prog 65 = true := by kernel_rfl
theorem fnok_67 : fnOk Tryz.prog 67 = true := by kernel_rfl
theorem fo_50 : fieldsOk Tryz.prog 50 = true := by kernel_rfl
theorem fo_73 : fieldsOk Tryz.prog 73 = true := by kernel_rfl
theorem of_73_5 : offOf Tryz.prog 73 5 = some 5 := by kernel_rfl
theorem pl_50_0 : placeF Tryz.prog 50 0 = some (0, 1) := by kernel_rfl
theorem pl_50_1 : placeF Tryz.prog 50 1 = some (1, 1) := by kernel_rfl
theorem pl_50_2 : placeF Tryz.prog 50 2 = some (2, 1) := by kernel_rfl
theorem pl_50_3 : placeF Tryz.prog 50 3 = some (3, 1) := by kernel_rfl
theorem pl_73_0 : placeF Tryz.prog 73 0 = some (0, 1) := by kernel_rfl
theorem pl_73_1 : placeF Tryz.prog 73 1 = some (1, 1) := by kernel_rfl
theorem pl_73_2 : placeF Tryz.prog 73 2 = some (2, 1) := by kernel_rfl
theorem pl_73_3 : placeF Tryz.prog 73 3 = some (3, 1) := by kernel_rfl
theorem pl_73_4 : placeF Tryz.prog 73 4 = some (4, 1) := by kernel_rfl
theorem sl_29 : slD Tryz.prog 29 = some (4, 32, 50) := by kernel_rfl
theorem ty_29 : tyD Tryz.prog 29 = some (false, 1) := by kernel_rfl
theorem zc_50 : zeroC Tryz.prog 50 = some [.iv (.g (.int .i64 0)), .iv (.g (.int .i64 0)), .iv (.g (.int .i64 0)), .iv (.g (.int .i64 0))] := by kernel_rfl
theorem zc_73 : zeroC Tryz.prog 73 = some [.iv (.g (.slice none 0 0)), .iv (.g (.slice none 0 0)), .iv (.g (.slice none 0 0)), .iv (.g (.slice none 0 0)), .iv (.g (.slice none 0 0)), .iv (.g (.slice none 0 0))] := by kernel_rfl
attribute [go_sem] fnok_65 fnok_67 fo_50 fo_73 of_73_5 pl_50_0 pl_50_1 pl_50_2 pl_50_3 pl_73_0 pl_73_1 pl_73_2 pl_73_3 pl_73_4 sl_29 ty_29 zc_50 zc_73
theorem cv_ok {x : CaS} (h : cvE x = 0) : vsB x.S x.m = true ∧ feaB x.n x.f = true ∧ x.mo = x.m ∧ (∀ i, i < x.mo → opsB (x.O i).k (x.O i).o = true) ∧ x.m ≤ 10 ∧ x.n + smK x.O x.mo ≤ 300 := by
  unfold cvE at h
  split at h
  · exact absurd h (by decide)
  · rename_i h0
    split at h
    · exact absurd h (by decide)
    · rename_i h1
      refine ⟨?_, ?_, ?_, fun i hi => ?_, by omega, by omega⟩
      · cases e : vsB x.S x.m with
        | true => rfl
        | false => exact absurd (Or.inl e) h0
      · cases e : feaB x.n x.f with
        | true => rfl
        | false => exact absurd (Or.inr (Or.inl e)) h0
      · by_cases e : x.mo = x.m
        · exact e
        · exact absurd (Or.inr (Or.inr (Or.inl e))) h0
      · cases e : opsB (x.O i).k (x.O i).o with
        | true => rfl
        | false => exact absurd (Or.inr (Or.inr (Or.inr ⟨i, hi, e⟩))) h0
theorem st_ex {S : Nat → StepS} {m i j : Nat} (h : vsB S m = true) (hi : i < m) (hj : j < (S i).q) : ∃ t, t < i ∧ (S t).nu = (S i).a j :=
  nuM_mem.1 (of_decide_eq_true ((of_decide_eq_true h).2 i hi).2.2.2 j hj)
theorem ix_of {S : Nat → StepS} {m t : Nat} {x : Int} (ht : t < m) (h : (S t).nu = x) (g : ∀ j, j < t → (S j).nu ≠ x) : ixM S m x = t :=
  fstB_h (b := fun i => decide ((S i).nu = x)) (decide_eq_true h) (fun j hj => decide_eq_false (g j hj)) m ht
theorem frz_ivf {i : Nat} {cs : List CV} : ∀ l : List CV, (∀ c, c ∈ l → isIv c) → List.map (frzC i cs) l = l
  | [], _ => rfl
  | c :: l, h => by
    have h1 := h c (List.mem_cons_self ..)
    rw [List.map_cons, frz_ivf l fun c hc => h c (List.mem_cons_of_mem _ hc)]
    cases c <;> first | rfl | exact h1.elim
def rowU (l : List Nat) : List CV := l.map fun (x : Nat) => CV.iv (.g (.int .u64 (x : Int)))
theorem rowU_len (l : List Nat) : (rowU l).length = l.length := by simp [rowU]
theorem rowU_iv (l : List Nat) : ∀ c, c ∈ rowU l → isIv c := fun c hc => by obtain ⟨x, _, rfl⟩ := List.mem_map.1 hc; trivial
theorem rowU_get {l : List Nat} {k : Nat} (h : k < l.length) : (rowU l).getD k .any = .iv (.g (.int .u64 ((l.getD k 0 : Nat) : Int))) := by
  unfold rowU; simp [List.getD_eq_getElem?_getD, List.getElem?_eq_getElem h]
theorem rowU_upd {l : List Nat} {k : Nat} (h : k < l.length) (x : Nat) : List.take k (rowU l) ++ [.iv (.g (.int .u64 (x : Int)))] ++ List.drop (k + 1) (rowU l) = rowU (l.set k x) := by
  unfold rowU
  rw [List.map_set, List.set_eq_take_append_cons_drop, if_pos (by simpa using h)]; simp
theorem rowU_pur (l : List Nat) (i : Nat) : List.map (CV.purge i) (rowU l) = rowU l := purge_iv i (rowU_iv l)
theorem rowU_frz (l : List Nat) (i : Nat) (cs : List CV) : List.map (frzC i cs) (rowU l) = rowU l := frz_ivf _ (rowU_iv l)
theorem repC_u : ∀ m, repC [.iv (.g (.int .u64 0))] m = rowU (List.replicate m 0)
  | 0 => rfl
  | m + 1 => by show _ ++ repC _ m = _; rw [repC_u m]; rfl
def hitX (x : CaS) (i k : Nat) : Bool := decide (0 ≤ comX (x.O i).k (x.O i).o (x.O k).k (x.O k).o)
def clsC (x : CaS) (p : Nat × Nat) : Nat → IV
  | 0 => .g (.int .i64 (x.S p.1).nu)
  | 1 => .g (.int .i64 (x.S p.2).nu)
  | 2 => .g (.int .i64 (comX (x.O p.1).k (x.O p.1).o (x.O p.2).k (x.O p.2).o))
  | _ + 3 => .g (.int .i64 (comY (x.O p.1).k (x.O p.1).o (x.O p.2).k (x.O p.2).o))
def c4 (x : CaS) (p : Nat × Nat) : List CV := [.iv (clsC x p 0), .iv (clsC x p 1), .iv (clsC x p 2), .iv (clsC x p 3)]
def rowK (x : CaS) (L : List (Nat × Nat)) : List CV := L.flatMap (c4 x)
theorem rowK_0 (x : CaS) : rowK x [] = [] := rfl
theorem rowK_len (x : CaS) : ∀ L, (rowK x L).length = L.length * 4
  | [] => rfl
  | p :: L => by show (c4 x p ++ rowK x L).length = _; rw [List.length_append, rowK_len x L]; simp [c4]; omega
theorem rowK_iv (x : CaS) (L : List (Nat × Nat)) : ∀ c, c ∈ rowK x L → isIv c := fun c hc => by
  obtain ⟨p, _, h⟩ := List.mem_flatMap.1 hc
  simp only [c4, List.mem_cons, List.not_mem_nil, or_false] at h
  rcases h with rfl | rfl | rfl | rfl <;> trivial
theorem rowK_pur (x : CaS) (L : List (Nat × Nat)) (i : Nat) : List.map (CV.purge i) (rowK x L) = rowK x L := purge_iv i (rowK_iv x L)
theorem rowK_frz (x : CaS) (L : List (Nat × Nat)) (i : Nat) (cs : List CV) : List.map (frzC i cs) (rowK x L) = rowK x L := frz_ivf _ (rowK_iv x L)
theorem rowK_s (x : CaS) (L : List (Nat × Nat)) (p : Nat × Nat) : rowK x (L ++ [p]) = rowK x L ++ c4 x p := by simp [rowK, List.flatMap_append]
theorem rowK_snoc (x : CaS) (L : List (Nat × Nat)) (a b : Nat) (i : Nat) : List.map (CV.purge i) (rowK x L ++ [.iv (.g (.int .i64 (x.S a).nu)), .iv (.g (.int .i64 (x.S b).nu)), .iv (.g (.int .i64 (comX (x.O a).k (x.O a).o (x.O b).k (x.O b).o))), .iv (.g (.int .i64 (comY (x.O a).k (x.O a).o (x.O b).k (x.O b).o)))]) = rowK x (L ++ [(a, b)]) := by
  rw [rowK_s]; exact purge_iv i (by have := rowK_iv x (L ++ [(a, b)]); rw [rowK_s] at this; exact this)
theorem rowK_at (x : CaS) : ∀ (L : List (Nat × Nat)) (i o : Nat), i < L.length → o < 4 → (rowK x L).getD (i * 4 + o) .any = .iv (clsC x (L.getD i (0, 0)) o)
  | p :: L, 0, o, _, ho => by
    rcases (by omega : o = 0 ∨ o = 1 ∨ o = 2 ∨ o = 3) with rfl | rfl | rfl | rfl <;> rfl
  | p :: L, i + 1, o, h, ho => by
    have := rowK_at x L i o (by simpa using h) ho
    show (c4 x p ++ rowK x L).getD ((i + 1) * 4 + o) .any = _
    rw [List.getD_eq_getElem?_getD, List.getElem?_append_right (by simp [c4]; omega), show (i + 1) * 4 + o - (c4 x p).length = i * 4 + o by simp [c4]; omega, ← List.getD_eq_getElem?_getD, this]
    rfl
def opP (x : CaS) : Nat → Nat := pstN x.S x.m
def opL (x : CaS) : List (Nat × Nat) := clL (opP x) (hitX x) x.m x.m
def opY (x : CaS) : ChS := ⟨x, opP x, foeN (opL x), (opL x).length, fun i o => clsC x ((opL x).getD i (0, 0)) o⟩
theorem orJ_lt {S : Nat → StepS} {m i : Nat} {P : List Nat} (hv : vsB S m = true) (hm : m ≤ 10) (hi : i < m) (hP : ∀ k, k < i → P.getD k 0 < 2 ^ k) : ∀ j, j ≤ (S i).q → orJ S m i P j < 2 ^ i
  | 0, _ => Nat.pow_pos (by decide)
  | j + 1, hj => by
    obtain ⟨t0, h1, h2⟩ := st_ex hv hi (j := j) (by omega)
    have h3 : ixM S m ((S i).a j) < i := by
      have : ∀ k, t0 < k → fstB (fun i' => decide ((S i').nu = (S i).a j)) k ≤ t0 := by
        intro k
        induction k with
        | zero => intro h; omega
        | succ k ih =>
          intro hk
          simp only [fstB]
          rcases (by omega : t0 < k ∨ t0 = k) with q | rfl
          · have := ih q; rw [if_pos (by omega)]; exact this
          · split
            · omega
            · rw [if_pos (decide_eq_true h2)]; omega
      exact Nat.lt_of_le_of_lt (this m (by omega)) h1
    have a1 := orJ_lt hv hm hi hP j (by omega)
    have a2 : P.getD (ixM S m ((S i).a j)) 0 < 2 ^ i := Nat.lt_trans (hP _ h3) (Nat.pow_lt_pow_right (by decide) h3)
    exact Nat.or_lt_two_pow a1 (Nat.or_lt_two_pow a2 (Nat.pow_lt_pow_right (by decide) h3))
theorem pst_lt {S : Nat → StepS} {m : Nat} (hv : vsB S m = true) (hm : m ≤ 10) : ∀ i, i ≤ m → ∀ k, k < i → (pstL S m i).getD k 0 < 2 ^ k
  | 0, _, k, hk => by omega
  | i + 1, hi, k, hk => by
    have ih := pst_lt hv hm i (by omega)
    show (pstL S m i ++ [_]).getD k 0 < _
    rcases (by omega : k < i ∨ k = i) with g | rfl
    · rw [getD_l (by rw [pstL_len]; exact g)]; exact ih k g
    · rw [getD_r (by rw [pstL_len]; omega), pstL_len, Nat.sub_self]
      exact orJ_lt hv hm (by omega) ih _ (Nat.le_refl _)
theorem pstN_lt {S : Nat → StepS} {m : Nat} (hv : vsB S m = true) (hm : m ≤ 10) {i : Nat} (hi : i < m) : pstN S m i < 2 ^ i := pst_lt hv hm m (Nat.le_refl _) i hi
theorem opL_mem {x : CaS} {p : Nat × Nat} : p ∈ opL x ↔ p.1 < p.2 ∧ p.2 < x.m ∧ (opP x p.2).testBit p.1 = false ∧ hitX x p.1 p.2 = true := by
  unfold opL; rw [clL_mem (Nat.le_refl _)]
  constructor
  · exact fun h => h.2
  · exact fun h => ⟨by omega, h⟩
theorem lt2_10 {k x : Nat} (hk : k ≤ 10) (h : x < 2 ^ k) : x < 1024 := Nat.lt_of_lt_of_le h (show 2 ^ k ≤ 2 ^ 10 from Nat.pow_le_pow_right (by decide) hk)
theorem opY_ok {x : CaS} (hx : x.Ok) (he : cvE x = 0) : (opY x).Ok := by
  obtain ⟨h1, h2, h3, h4, h5, h6⟩ := cv_ok he
  exact ⟨hx, h5, h3, fun i hi => lt2_10 (k := i) (by have : i < x.m := hi; omega) (pstN_lt h1 h5 hi), fun i hi => foeN_lt _ (fun p hp => by have := opL_mem.1 hp; omega) i, h2⟩
theorem clR_0 (P : Nat → Nat) (X : Nat → Nat → Bool) (i : Nat) : clR P X i 0 = [] := rfl
theorem clR_len (P : Nat → Nat) (X : Nat → Nat → Bool) (i : Nat) : ∀ t, (clR P X i t).length ≤ t
  | 0 => Nat.le_refl _
  | t + 1 => by
    have := clR_len P X i t
    show (_ ++ _ : List (Nat × Nat)).length ≤ _
    rw [List.length_append]; split <;> simp <;> omega
theorem clL_len (P : Nat → Nat) (X : Nat → Nat → Bool) (m : Nat) : ∀ k, (clL P X m k).length ≤ k * m
  | 0 => by simp [clL]
  | k + 1 => by
    have h1 := clL_len P X m k
    have h2 := clR_len P X k (m - (k + 1))
    show (_ ++ _ : List (Nat × Nat)).length ≤ _
    rw [List.length_append, Nat.add_mul]; omega
theorem clD_len {P : Nat → Nat} {X : Nat → Nat → Bool} {m i t : Nat} (hm : m ≤ 10) (hi : i < m) (ht : i + 1 + t ≤ m) : (clL P X m i ++ clR P X i t).length ≤ 110 := by
  have h1 := clL_len P X m i
  have h2 := clR_len P X i t
  have h3 : i * m ≤ 10 * 10 := Nat.mul_le_mul (by omega) hm
  rw [List.length_append]; omega
theorem pst_facts {S : Nat → StepS} {m i j t : Nat} (hv : vsB S m = true) (hm : m ≤ 10) (hi : i < m) (hj : j < (S i).q) (hti : t < i) (hk : ixM S m ((S i).a j) = t) :
    (rowU (pstR S m i (orJ S m i (pstL S m i) j))).getD i .any = .iv (.g (.int .u64 (orJ S m i (pstL S m i) j : Nat))) ∧
    (rowU (pstR S m i (orJ S m i (pstL S m i) j))).getD t .any = .iv (.g (.int .u64 ((pstL S m i).getD t 0 : Nat))) ∧
    bits .or .u64 ((pstL S m i).getD t 0 : Nat) ((2 ^ t : Nat) : Int) = (((pstL S m i).getD t 0 ||| 2 ^ t : Nat) : Int) ∧
    bits .or .u64 (orJ S m i (pstL S m i) j : Nat) (((pstL S m i).getD t 0 ||| 2 ^ t : Nat) : Int) = ((orJ S m i (pstL S m i) (j + 1) : Nat) : Int) ∧
    List.take i (rowU (pstR S m i (orJ S m i (pstL S m i) j))) ++ [.iv (.g (.int .u64 (orJ S m i (pstL S m i) (j + 1) : Nat)))] ++ List.drop (i + 1) (rowU (pstR S m i (orJ S m i (pstL S m i) j))) = rowU (pstR S m i (orJ S m i (pstL S m i) (j + 1))) := by
  have hl := pstR_len S (i := i) (orJ S m i (pstL S m i) j) hi
  have hp := pst_lt hv hm i (by omega)
  have h1 : orJ S m i (pstL S m i) j < 1024 := lt2_10 (k := i) (by omega) (orJ_lt hv hm hi hp j (by omega))
  have h2 : (pstL S m i).getD t 0 < 1024 := lt2_10 (k := t) (by omega) (hp t hti)
  have h3 := p2_lt (k := t) (by omega)
  refine ⟨?_, ?_, u_orP h2 h3, ?_, ?_⟩
  · rw [rowU_get (by rw [hl]; exact hi), pstR_i]
  · rw [rowU_get (by rw [hl]; omega), pstR_k _ _ hti]
  · rw [u_orP h1 (or_lt h2 h3)]
    show _ = ((orJ S m i (pstL S m i) j ||| ((pstL S m i).getD (ixM S m ((S i).a j)) 0 ||| 2 ^ ixM S m ((S i).a j)) : Nat) : Int)
    rw [hk]
  · rw [rowU_upd (by rw [hl]; exact hi), pstR_set]
theorem foe_facts {m i k : Nat} {L : List (Nat × Nat)} (hm : m ≤ 10) (hik : i < k) (hk : k < m) (hL : ∀ p, p ∈ L → p.1 < p.2 ∧ p.2 < m) :
    (rowU (foeR L m)).getD i .any = .iv (.g (.int .u64 (foeN L i : Nat))) ∧
    bits .or .u64 (foeN L i : Nat) ((2 ^ k : Nat) : Int) = ((foeN L i ||| 2 ^ k : Nat) : Int) ∧
    List.take i (rowU (foeR L m)) ++ [.iv (.g (.int .u64 ((foeN L i ||| 2 ^ k : Nat) : Int)))] ++ List.drop (i + 1) (rowU (foeR L m)) = rowU ((foeR L m).set i (foeN L i ||| 2 ^ k)) ∧
    (rowU ((foeR L m).set i (foeN L i ||| 2 ^ k))).getD k .any = .iv (.g (.int .u64 (foeN L k : Nat))) ∧
    bits .or .u64 (foeN L k : Nat) ((2 ^ i : Nat) : Int) = ((foeN L k ||| 2 ^ i : Nat) : Int) ∧
    List.take k (rowU ((foeR L m).set i (foeN L i ||| 2 ^ k))) ++ [.iv (.g (.int .u64 ((foeN L k ||| 2 ^ i : Nat) : Int)))] ++ List.drop (k + 1) (rowU ((foeR L m).set i (foeN L i ||| 2 ^ k))) = rowU (foeR (L ++ [(i, k)]) m) := by
  have hn : ∀ p, p ∈ L → p.1 < 10 ∧ p.2 < 10 := fun p hp => by have := hL p hp; omega
  have hl := foeR_len L m
  refine ⟨?_, u_orP (foeN_lt L hn i) (p2_lt (by omega)), ?_, ?_, u_orP (foeN_lt L hn k) (p2_lt (by omega)), ?_⟩
  · rw [rowU_get (by rw [hl]; omega), foeR_at L (by omega)]
  · exact rowU_upd (by rw [hl]; omega) _
  · rw [rowU_get (by simp [hl]; omega), foeR_k L _ hik hk]
  · rw [rowU_upd (by simp [hl]; omega), foeR_set L hik hk]
theorem past_at {S : Nat → StepS} {m k : Nat} (hk : k < m) : (rowU (pst0 S m m)).getD k .any = .iv (.g (.int .u64 (pstN S m k : Nat))) := by
  rw [rowU_get (by rw [pst0_len _ (Nat.le_refl _)]; exact hk), pst0_m]; rfl
theorem u_shr6 (x k : Nat) (h : k < 64) : (x : Int).fdiv (2 ^ (min k 64)) = ((x >>> k : Nat) : Int) := u_shr x k h
theorem u_and1 {x : Nat} (h : x < 18446744073709551616) : bits .and .u64 (x : Int) 1 = ((x &&& 1 : Nat) : Int) := u_and h (y := 1) (by decide)
theorem shr_lt {x : Nat} (k : Nat) (h : x < 18446744073709551616) : x >>> k < 18446744073709551616 := Nat.lt_of_le_of_lt (Nat.shiftRight_le x k) h
theorem bit_t {x k : Nat} (h : ((x >>> k &&& 1 : Nat) : Int) = 1) : x.testBit k = true := (u_one x k).1 h
theorem bit_f {x k : Nat} (h : ((x >>> k &&& 1 : Nat) : Int) ≠ 1) : x.testBit k = false := by
  cases e : x.testBit k with
  | false => rfl
  | true => exact absurd ((u_one x k).2 e) h
theorem row_uE {l : List Nat} {F : Nat → Nat} (h : ∀ i, i < l.length → l.getD i 0 = F i) : ∀ i o, i < l.length → o < 1 → (civ ((rowU l).getD (i + o) .any)).eqv (uF F i o) := fun i o hi ho => by
  obtain rfl : o = 0 := by omega
  rw [Nat.add_zero, rowU_get hi, h i hi]; exact IV.eqv_refl _
theorem row_kE {x : CaS} {L : List (Nat × Nat)} : ∀ i o, i < L.length → o < 4 → (civ ((rowK x L).getD (i * 4 + o) .any)).eqv (clsC x (L.getD i (0, 0)) o) := fun i o hi ho => by
  rw [rowK_at x L i o hi ho]; exact IV.eqv_refl _
theorem len_sP (L : List (Nat × Nat)) (p : Nat × Nat) : (L ++ [p]).length = L.length + 1 := by simp
theorem hit_p {x : CaS} {i k : Nat} (h : 0 ≤ comX (x.O i).k (x.O i).o (x.O k).k (x.O k).o) : hitX x i k = true := decide_eq_true h
theorem hit_n {x : CaS} {i k : Nat} (h : comX (x.O i).k (x.O i).o (x.O k).k (x.O k).o < 0) : hitX x i k = false := decide_eq_false (by omega)
theorem clD_t {x : CaS} {i t : Nat} (h1 : ((pstN x.S x.m (i + 1 + t) >>> i &&& 1 : Nat) : Int) ≠ 1) (h2 : 0 ≤ comX (x.O i).k (x.O i).o (x.O (i + 1 + t)).k (x.O (i + 1 + t)).o) : clL (opP x) (hitX x) x.m i ++ clR (opP x) (hitX x) i (t + 1) = (clL (opP x) (hitX x) x.m i ++ clR (opP x) (hitX x) i t) ++ [(i, i + 1 + t)] := by
  rw [clR_t (P := opP x) (X := hitX x) (bit_f h1) (hit_p h2), List.append_assoc]
theorem clD_f1 {x : CaS} {i t : Nat} (h1 : ((pstN x.S x.m (i + 1 + t) >>> i &&& 1 : Nat) : Int) = 1) : clL (opP x) (hitX x) x.m i ++ clR (opP x) (hitX x) i (t + 1) = (clL (opP x) (hitX x) x.m i ++ clR (opP x) (hitX x) i t) := by
  rw [clR_f (P := opP x) (X := hitX x) (Or.inl (bit_t h1))]
theorem clD_f2 {x : CaS} {i t : Nat} (h2 : comX (x.O i).k (x.O i).o (x.O (i + 1 + t)).k (x.O (i + 1 + t)).o < 0) : clL (opP x) (hitX x) x.m i ++ clR (opP x) (hitX x) i (t + 1) = (clL (opP x) (hitX x) x.m i ++ clR (opP x) (hitX x) i t) := by
  rw [clR_f (P := opP x) (X := hitX x) (Or.inr (hit_n h2))]
theorem opn_f (x : CaS) (hx : x.Ok) (he : cvE x ≠ 0) : CallsP Tryz.prog 37 [.one (.lst 9 x.n (featF x.f)), .one (.lst 2 x.m (stF x.S)), .one (.lst 1 x.mo (ptF x.O))] (.tup [.one (.g (.pointer none)), .one (.g (.int .i64 (cvE x)))]) := by
  refine CallsP_of Tryz.func37 rfl (by rw [Tryz.ntmps37]; simp) ?_
  simp only [Tryz.ntmps37, zM, PT.tv, argEnv, Nat.zero_add, Nat.reduceAdd]
  repeat' (first
 | ((with_reducible show AW _ _ _ _); first
 | (with_reducible first | refine aS (fun K hK => ?_) | refine aI ?_ | refine aX ?_ | refine aT ?_ | refine aC ?_ | refine aB ?_)
 | (first
 | (with_reducible first | refine aP 0 [0,1,2] ?_ | refine aP 1 [0,1,2] ?_ | refine aP 2 [0,1,2,8] ?_ | refine aP 3 [8] ?_ | refine aP 5 [1,2,9] ?_ | refine aP 6 [1,2,9,38,39,40] ?_ | refine aP 7 [1,2,9,38,39,40] ?_ | refine aP 8 [1,2,9,10,11,38,39,40] ?_ | refine aP 9 [1,2,9,10,38,39,40,46,47,48] ?_ | refine aP 10 [1,2,9,10,38,39,40,46,47,48] ?_ | refine aP 11 [1,2,9,10,13,38,39,40,46,47,48] ?_)
 | ((with_reducible refine aR (c := Code.region 12 _ true) [1,2,9,10,14,38,39,40,46,47,48] ?_); (with_reducible refine aD ?_ ?_ ?_ ?_); (focus kernel_rfl); (focus kernel_rfl); (focus kernel_rfl))
 | (with_reducible first | refine aP 13 [1,2,9,10,38,39,40,46,47,48] ?_ | refine aP 14 [1,2,9,38,39,40] ?_ | refine aP 15 [1,2,9] ?_ | refine aP 16 [1,2,9,77,78] ?_ | refine aP 17 [1,2,9,77,78] ?_ | refine aP 18 [1,2,9,15,77,78] ?_ | refine aP 19 [1,2,9,15,16,77,78] ?_ | refine aP 20 [1,2,9,15,16,77,78] ?_ | refine aP 21 [1,2,9,15,16,77,78] ?_)
 | ((with_reducible refine aR (c := Code.region 22 _ true) [1,2,9,15,16,77,78] ?_); (with_reducible refine aD ?_ ?_ ?_ ?_); (focus kernel_rfl); (focus kernel_rfl); (focus kernel_rfl))
 | (with_reducible refine aP 23 [1,2,9,15,16,17,18,19,77,78] ?_)
 | ((with_reducible refine aR (c := Code.region 24 _ true) [1,2,9,15,16,17,18,77,78] ?_); (with_reducible refine aD ?_ ?_ ?_ ?_); (focus kernel_rfl); (focus kernel_rfl); (focus kernel_rfl))
 | ((with_reducible refine aR (c := Code.region 25 _ true) [1,2,9,15,16,17,18,77,78] ?_); (with_reducible refine aD ?_ ?_ ?_ ?_); (focus kernel_rfl); (focus kernel_rfl); (focus kernel_rfl))
 | ((with_reducible refine aR (c := Code.region 26 _ true) [1,2,9,15,16,17,18,77,78] ?_); (with_reducible refine AW_regionB 19 ?_ ?_ ?_ ?_ ?_); (focus kernel_rfl); (focus kernel_rfl); (focus kernel_rfl); (focus kernel_rfl))
 | (with_reducible first | refine aP 27 [1,2,9,77,78] ?_ | refine aP 28 [9] ?_)))
 | ((first | (with_reducible refine And.intro ?_ ?_) | (with_reducible refine Need.mk ?_)); focus (first | exact True.intro | (with_reducible assumption) | omega | (refine ⟨?_, ?_⟩ <;> omega) | (intro _; first | exact True.intro | (with_reducible assumption) | omega) | (intros; (repeat' (first | exact True.intro | omega | (with_reducible assumption) | (with_reducible refine And.intro ?_ ?_))); done) | (simp (disch := omega) only [Bool.and_eq_true, Bool.or_eq_true, decide_eq_true_eq, bne_iff_ne, ne_eq] at *; first | done | omega | (intros; omega)) | (simp; done) | (simp; omega) | (simp +contextual; done) | (intro h; rw [h]; rfl) | (intro hq; have hq2 := hq; simp only [Bool.and_eq_true, Bool.or_eq_true, Bool.not_eq_true', Bool.not_not, Bool.not_eq_false', decide_eq_true_eq, decide_eq_false_iff_not] at hq2; (repeat' (first | exact hq | (with_reducible refine And.intro ?_ ?_) | omega | (simp_all; done))); done) | (intros; simp_all; done)))
 | (with_reducible refine retK_n ?_)
 | (with_reducible refine retK_n' ?_)
 | (with_reducible refine retH_n rfl rfl rfl ?_)
 | (with_reducible refine retH_n' rfl rfl rfl ?_)
 | ((with_reducible show condN _ _ _ _ _ _); first
 | ((with_reducible refine condN_t ?_ ?_) <;> (intro hc; (try simp only [zB, zC, reduceCtorEq] at hc); (try (exfalso; first | contradiction | omega)))))
 | ((with_reducible refine And.intro ?_ ?_); focus (first | ((with_reducible show chkS _ _ _ _ = true); kernel_rfl) | ((with_reducible show holesB _ _ _ = true); kernel_rfl)))
 | ((with_reducible refine And.intro ?_ ?_); focus ((with_reducible show chkR _ _ _ = true); kernel_rfl))
 | ((with_reducible show callN _ _ _ _ _ _ _ _ _ _); first
 | (refine callN_q (k := 65) fnok_65 (cval_p x hx) ?_ ?_))
 | ((fail_if_success (with_reducible show AW _ _ _ _)); simp (maxSteps := 2000000) only [go_sem, reduceIte, reduceCtorEq, xA, xL, xD, xE, xM, xS, xB, Tryz.f37])
 | ((fail_if_success (with_reducible show AW _ _ _ _)); simp (disch := omega) only [seaWrap, seaDiv, seaMod])
 | ((with_reducible refine hK _ ?_); clear hK K))
  all_goals (first | (exfalso; simp at hc; omega) | skip)
def opnS (x : CaS) (i2 t2 : Nat) (D : Nat → Bool) : AS := ⟨[(1, .t (.one (.iv (.lst 2 x.m (stF x.S))))), (2, .t (.one (.iv (.lst 1 x.mo (ptF x.O))))), (9, .t (.one (.ptr 10 0))), (15, iA .i64 ((i2 : Int))), (16, iA .i64 ((i2 : Int) + 1 + (t2 : Int))), (17, iA .i64 (comX (x.O i2).k (x.O i2).o (x.O (i2 + 1 + t2)).k (x.O (i2 + 1 + t2)).o)), (18, iA .i64 (comY (x.O i2).k (x.O i2).o (x.O (i2 + 1 + t2)).k (x.O (i2 + 1 + t2)).o)), (77, iA .i64 ((x.m : Int))), (78, iA .i64 ((i2 : Int))), (141, bif D 0 then .t (.one (.ptr 10 0)) else .any), (142, bif D 1 then .t (.one (.ptr 10 0)) else .any), (143, bif D 2 then .t (.one (.ptr 10 0)) else .any), (144, bif D 3 then .t (.one (.ptr 10 5)) else .any), (145, bif D 19 then .any else bif D 4 then .t (.one (.slc 11 0 (clL (opP x) (hitX x) x.m i2 ++ clR (opP x) (hitX x) i2 t2).length 4)) else .any), (146, bif D 5 then .t (.one (.iv (.lst 2 x.m (stF x.S)))) else .any), (147, bif D 6 then iA .i64 ((i2 : Int)) else .any), (148, bif D 7 then .t (.one (.ip 2 fun o => stF x.S i2 o)) else .any), (149, bif D 8 then .t (.one (.ip 2 fun o => stF x.S i2 o)) else .any), (150, bif D 9 then iA .i64 (((x.S i2).nu)) else .any), (151, bif D 10 then .t (.one (.iv (.lst 2 x.m (stF x.S)))) else .any), (152, bif D 11 then iA .i64 ((i2 : Int) + 1 + (t2 : Int)) else .any), (153, bif D 12 then .t (.one (.ip 2 fun o => stF x.S (i2 + 1 + t2) o)) else .any), (154, bif D 13 then .t (.one (.ip 2 fun o => stF x.S (i2 + 1 + t2) o)) else .any), (155, bif D 14 then iA .i64 (((x.S (i2 + 1 + t2)).nu)) else .any), (156, bif D 15 then iA .i64 (comX (x.O i2).k (x.O i2).o (x.O (i2 + 1 + t2)).k (x.O (i2 + 1 + t2)).o) else .any), (157, bif D 16 then iA .i64 (comY (x.O i2).k (x.O i2).o (x.O (i2 + 1 + t2)).k (x.O (i2 + 1 + t2)).o) else .any), (158, bif D 17 then .t (.agg [.iv (.g (.int .i64 ((x.S i2).nu))), .iv (.g (.int .i64 ((x.S (i2 + 1 + t2)).nu))), .iv (.g (.int .i64 (comX (x.O i2).k (x.O i2).o (x.O (i2 + 1 + t2)).k (x.O (i2 + 1 + t2)).o))), .iv (.g (.int .i64 (comY (x.O i2).k (x.O i2).o (x.O (i2 + 1 + t2)).k (x.O (i2 + 1 + t2)).o)))]) else .any), (159, bif D 18 then .t (.one (.slc 30 0 1 4)) else .any), (160, bif D 19 then .t (.one (.slc 11 0 ((clL (opP x) (hitX x) x.m i2 ++ clR (opP x) (hitX x) i2 t2).length + 1) 4)) else .any), (161, bif D 20 then .t (.one (.ptr 10 0)) else .any), (162, bif D 21 then .t (.one (.ptr 10 5)) else .any)], bif D 18 then [none, none, none, none, none, some (rowU (pst0 x.S x.m x.m)), none, none, some (rowU (foeR ((clL (opP x) (hitX x) x.m i2 ++ clR (opP x) (hitX x) i2 t2) ++ [(i2, i2 + 1 + t2)]) x.m)), none, some (bif D 22 then [.iv (.lst 9 x.n (featF x.f)), .iv (.lst 2 x.m (stF x.S)), .iv (.lst 1 x.mo (ptF x.O)), .slc 5 0 x.m 1, .slc 8 0 x.m 1, .slc 11 0 ((clL (opP x) (hitX x) x.m i2 ++ clR (opP x) (hitX x) i2 t2).length + 1) 4] else bif D 19 then [.iv (.lst 9 x.n (featF x.f)), .iv (.lst 2 x.m (stF x.S)), .iv (.lst 1 x.mo (ptF x.O)), .slc 5 0 x.m 1, .slc 8 0 x.m 1, .any] else [.iv (.lst 9 x.n (featF x.f)), .iv (.lst 2 x.m (stF x.S)), .iv (.lst 1 x.mo (ptF x.O)), .slc 5 0 x.m 1, .slc 8 0 x.m 1, .slc 11 0 (clL (opP x) (hitX x) x.m i2 ++ clR (opP x) (hitX x) i2 t2).length 4]), some (bif D 19 then rowK x ((clL (opP x) (hitX x) x.m i2 ++ clR (opP x) (hitX x) i2 t2) ++ [(i2, i2 + 1 + t2)]) else rowK x (clL (opP x) (hitX x) x.m i2 ++ clR (opP x) (hitX x) i2 t2)), none, none, none, none, none, none, none, none, none, none, none, none, none, none, none, none, none, none, some [.iv (.g (.int .i64 ((x.S i2).nu))), .iv (.g (.int .i64 ((x.S (i2 + 1 + t2)).nu))), .iv (.g (.int .i64 (comX (x.O i2).k (x.O i2).o (x.O (i2 + 1 + t2)).k (x.O (i2 + 1 + t2)).o))), .iv (.g (.int .i64 (comY (x.O i2).k (x.O i2).o (x.O (i2 + 1 + t2)).k (x.O (i2 + 1 + t2)).o)))]] else [none, none, none, none, none, some (rowU (pst0 x.S x.m x.m)), none, none, some (rowU (foeR ((clL (opP x) (hitX x) x.m i2 ++ clR (opP x) (hitX x) i2 t2) ++ [(i2, i2 + 1 + t2)]) x.m)), none, some [.iv (.lst 9 x.n (featF x.f)), .iv (.lst 2 x.m (stF x.S)), .iv (.lst 1 x.mo (ptF x.O)), .slc 5 0 x.m 1, .slc 8 0 x.m 1, .slc 11 0 (clL (opP x) (hitX x) x.m i2 ++ clR (opP x) (hitX x) i2 t2).length 4], some (rowK x (clL (opP x) (hitX x) x.m i2 ++ clR (opP x) (hitX x) i2 t2))], 165, [], LP.top⟩
attribute [go_sem] opnS
theorem geB (c : Bool) (a b : List (Option (List CV))) (k : Nat) : (bif c then a else b)[k]? = bif c then a[k]? else b[k]? := by cases c <;> rfl
theorem gdB (c : Bool) (a b : Option (Option (List CV))) : (bif c then a else b).getD none = bif c then a.getD none else b.getD none := by cases c <;> rfl
theorem hgetB (c : Bool) (a b : List (Option (List CV))) (k : Nat) : hget (bif c then a else b) k = bif c then hget a k else hget b k := by cases c <;> rfl
theorem purB (c : Bool) (a b : AV) (k : Nat) : (bif c then a else b).purge k = bif c then a.purge k else b.purge k := by cases c <;> rfl
theorem opn_t (x : CaS) (hx : x.Ok) (he : cvE x = 0) : CallsP Tryz.prog 37 [.one (.lst 9 x.n (featF x.f)), .one (.lst 2 x.m (stF x.S)), .one (.lst 1 x.mo (ptF x.O))] (.tup [.one (.ptr 6 (chC (opY x))), .one (.g (.int .i64 (0)))]) := by
  obtain ⟨hv, hfe, hmo, hop, hm, hsum⟩ := cv_ok he
  have mk0 : True := trivial
  have mk1 : True := trivial
  have mkA : True := trivial
  have mk2 : True := trivial
  have hpl : True := trivial
  have hp0 : True := trivial
  have hkn : True := trivial
  have hgp : True := trivial
  have hsr : True := trivial
  have ha1 : True := trivial
  have he1 : True := trivial
  have hxx : True := trivial
  have hyy : True := trivial
  have hf1 : True := trivial
  have hs2 : True := trivial
  have ho3 : True := trivial
  have hu3 : True := trivial
  have hf2 : True := trivial
  have hs3 : True := trivial
  have ho4 : True := trivial
  have hu4 : True := trivial
  have hg1 : True := trivial
  have hg2 : True := trivial
  have hsh : True := trivial
  have ho1 : True := trivial
  have ho2 : True := trivial
  have hst : True := trivial
  refine CallsP_of Tryz.func37 rfl (by rw [Tryz.ntmps37]; simp) ?_
  simp only [Tryz.ntmps37, zM, PT.tv, argEnv, Nat.zero_add, Nat.reduceAdd]
  repeat' (first
 | (refine callK_shr rfl rfl (by omega) ?_)
 | (refine callK_shl rfl rfl (by omega) ?_)
 | (refine callDK_shl rfl rfl (by omega) ?_)
 | ((with_reducible refine Need.mk ?_); exact ⟨rowU_iv _, rowU_iv _, rowK_iv _ _⟩)
 | ((with_reducible show AW _ _ _ _); first
 | (with_reducible first | refine aS (fun K hK => ?_) | refine aI ?_ | refine aX ?_ | refine aT ?_ | refine aC ?_ | refine aB ?_)
 | (first
 | (with_reducible first | refine aP (ops := #[⟨some 6, _, _, _, _, _⟩, _]) 0 [0,1,2] ?_ | refine aP (ops := #[⟨some 3, _, _, _, _, _⟩, _]) 0 [0,1] ?_ | refine aP (ops := #[⟨some 4, _, _, _, _, _⟩]) 0 [0,1] ?_ | refine aP (ops := #[⟨some 2, _, _, _, _, _⟩, _]) 0 [0,1] ?_ | refine aP (ops := #[⟨some 20, _, _, _, _, _⟩, _, _, _, _]) 1 [0,1,2] ?_ | refine aP (ops := #[⟨some 5, _, _, _, _, _⟩, _, _, _, _, _, _]) 1 [0,3] ?_ | refine aP (ops := #[⟨some 6, _, _, _, _, _⟩, _, _]) 1 [0,1] ?_ | refine aP (ops := #[⟨some 4, _, _, _, _, _⟩, _, _, _, _]) 1 [1,2] ?_ | refine aP (ops := #[⟨some 24, _, _, _, _, _⟩, _]) 2 [0,1,2,8] ?_ | refine aP (ops := #[⟨some 9, _, _, _, _, _⟩]) 2 [0,1,7,8] ?_ | refine aP (ops := #[⟨some 26, _, _, _, _, _⟩, _, _]) 3 [8] ?_ | refine aP (ops := #[⟨some 10, _, _, _, _, _⟩, _]) 3 [0,1,7,8] ?_ | refine aP 4 [0,1,5,7,8] ?_)
 | ((with_reducible refine aR (c := Code.region 4 _ true) [0,1,2] ?_); (with_reducible refine aD ?_ ?_ ?_ ?_); (focus kernel_rfl); (focus kernel_rfl); (focus kernel_rfl))
 | (with_reducible first | refine aP (ops := #[⟨some 38, _, _, _, _, _⟩, _, _]) 5 [1,2,9] ?_ | refine aP (ops := #[⟨some 17, _, _, _, _, _⟩, _]) 5 [5] ?_ | refine aP (ops := #[⟨some 41, _, _, _, _, _⟩]) 6 [1,2,9,38,39,40] ?_ | refine aP (ops := #[⟨some 18, _, _, _, _, _⟩, _]) 6 [0,1,7,8] ?_ | refine aP (ops := #[⟨some 42, _, _, _, _, _⟩, _, _, _, _, _]) 7 [1,2,9,38,39,40] ?_ | refine aP (ops := #[⟨some 4, _, _, _, _, _⟩]) 7 [] ?_ | refine aP 8 [1,2,9,10,11,38,39,40] ?_ | refine aP 9 [1,2,9,10,38,39,40,46,47,48] ?_ | refine aP 10 [1,2,9,10,38,39,40,46,47,48] ?_ | refine aP 11 [1,2,9,10,13,38,39,40,46,47,48] ?_)
 | ((with_reducible refine aR (c := Code.region 12 _ true) [1,2,9,10,14,38,39,40,46,47,48] ?_); (with_reducible refine aD ?_ ?_ ?_ ?_); (focus kernel_rfl); (focus kernel_rfl); (focus kernel_rfl))
 | (with_reducible first | refine aP 13 [1,2,9,10,38,39,40,46,47,48] ?_ | refine aP 14 [1,2,9,38,39,40] ?_ | refine aP 15 [1,2,9] ?_ | refine aP 16 [1,2,9,77,78] ?_ | refine aP 17 [1,2,9,77,78] ?_ | refine aP 18 [1,2,9,15,77,78] ?_ | refine aP 19 [1,2,9,15,16,77,78] ?_ | refine aP 20 [1,2,9,15,16,77,78] ?_ | refine aP 21 [1,2,9,15,16,77,78] ?_)
 | ((with_reducible refine aR (c := Code.region 22 _ true) [1,2,9,15,16,77,78] ?_); (with_reducible refine aD ?_ ?_ ?_ ?_); (focus kernel_rfl); (focus kernel_rfl); (focus kernel_rfl))
 | (with_reducible refine aP 23 [1,2,9,15,16,17,18,19,77,78] ?_)
 | ((with_reducible refine aR (c := Code.region 24 _ true) [1,2,9,15,16,17,18,77,78] ?_); (with_reducible refine aD ?_ ?_ ?_ ?_); (focus kernel_rfl); (focus kernel_rfl); (focus kernel_rfl))
 | ((with_reducible refine aR (c := Code.region 25 _ true) [1,2,9,15,16,17,18,77,78] ?_); (with_reducible refine aD ?_ ?_ ?_ ?_); (focus kernel_rfl); (focus kernel_rfl); (focus kernel_rfl))
 | ((with_reducible refine aR (c := Code.region 26 _ true) [1,2,9,15,16,17,18,77,78] ?_); (with_reducible refine AW_regionT 12 [1,2,9,15,16,17,18,77,78,141,142,143,144,145,146,147,148,149,150,151,152,153,154,155,156,157,158,159,160,161,162] [([], [0,20,21,22]), ([], [1,2,3,4,19,20,21,22]), ([1], [2,3,4,19,20,21,22]), ([1,2], [3,4,19,20,21,22]), ([1,2,3], [4,19,20,21,22]), ([], [5,7,8,9,17,18,19,20,21,22]), ([], [6,7,8,9,17,18,19,20,21,22]), ([5,6], [7,8,9,17,18,19,20,21,22]), ([5,6,7], [8,9,17,18,19,20,21,22]), ([5,6,7,8], [9,17,18,19,20,21,22]), ([], [10,12,13,14,17,18,19,20,21,22]), ([], [11,12,13,14,17,18,19,20,21,22]), ([10,11], [12,13,14,17,18,19,20,21,22]), ([10,11,12], [13,14,17,18,19,20,21,22]), ([10,11,12,13], [14,17,18,19,20,21,22]), ([], [15,17,18,19,20,21,22]), ([], [16,17,18,19,20,21,22]), ([5,6,7,8,9,10,11,12,13,14,15,16], [17,18,19,20,21,22]), ([5,6,7,8,9,10,11,12,13,14,15,16,17], [18,19,20,21,22]), ([1,2,3,4,5,6,7,8,9,10,11,12,13,14,15,16,17,18], [19,20,21,22]), ([0,1,2,3,4,5,6,7,8,9,10,11,12,13,14,15,16,17,18,19], [20,21,22]), ([0,1,2,3,4,5,6,7,8,9,10,11,12,13,14,15,16,17,18,19,20], [21,22]), ([0,1,2,3,4,5,6,7,8,9,10,11,12,13,14,15,16,17,18,19,20,21], [22])] [0,1,2,3,4,5,6,7,8,9,10,11,12,13,14,15,16,17,18,19,20,21,22] (opnS x i2 t2) ?hm26 ?hb26 ?hd26 ?hc26 ?h026 ?hh26 ?ha26 ?hq26); (case' hm26 => kernel_rfl); (case' hb26 => kernel_rfl); (case' hd26 => kernel_rfl); (case' hc26 => kernel_rfl); (case' ha26 => kernel_rfl); (case' h026 => (exact ⟨rfl⟩)); (case' hh26 => (simp only [List.toList_toArray, List.length_cons, List.length_nil, Nat.reduceAdd]; repeat' (first | ((with_reducible show runD _ _ _ _ _ _ _); first | exact runD_nilI | (with_reducible refine runD_consI (fun D hT hF K hK => ?_) ?_)) | ((with_reducible show opTr _ _ _ _ _ _); (simp only [dnT, dnF, and_true] at hT hF); simp (maxSteps := 2000000) only [go_sem, reduceIte, reduceCtorEq, xA, xL, xD, xE, xM, xS, xB, Tryz.f37, Tryz.f66, Tryz.f99, Tryz.f100, stF0, stF1, ptF0, intI, he, repC_u, maxLen, rowU_len, rowU_pur, rowK_pur, rowK_len, rowK_snoc, rowK_0, hgetB, geB, gdB, purB, Bool.cond_self, rowU_frz, rowK_frz, foeR_len, List.length_set, hpl, hp0, hkn, hgp, hsr, ha1, he1, hxx, hyy, hf1, hs2, ho3, hu3, hf2, hs3, ho4, hu4, hg1, hg2, hsh, ho1, ho2, hst, hT, hF, updD]) | ((with_reducible refine hK _ ?_); clear hK K) | ((with_reducible show Leaf _ _); simp (maxSteps := 2000000) only [go_sem, reduceIte, reduceCtorEq, xA, xL, xD, xE, xM, xS, xB, Tryz.f37, Tryz.f66, Tryz.f99, Tryz.f100, stF0, stF1, ptF0, intI, he, repC_u, maxLen, rowU_len, rowU_pur, rowK_pur, rowK_len, rowK_snoc, rowK_0, hgetB, geB, gdB, purB, Bool.cond_self, rowU_frz, rowK_frz, foeR_len, List.length_set, hpl, hp0, hkn, hgp, hsr, ha1, he1, hxx, hyy, hf1, hs2, ho3, hu3, hf2, hs3, ho4, hu4, hg1, hg2, hsh, ho1, ho2, hst, hT, hF, updD]; exact ⟨rfl⟩) | ((with_reducible show Leaf _ _); exact ⟨rfl⟩) | ((with_reducible show Leaf _ _); cases hDu : D 0 <;> (simp (maxSteps := 2000000) only [go_sem, reduceIte, reduceCtorEq, xA, xL, xD, xE, xM, xS, xB, Tryz.f37, Tryz.f66, Tryz.f99, Tryz.f100, stF0, stF1, ptF0, intI, he, repC_u, maxLen, rowU_len, rowU_pur, rowK_pur, rowK_len, rowK_snoc, rowK_0, hgetB, geB, gdB, purB, Bool.cond_self, rowU_frz, rowK_frz, foeR_len, List.length_set, hpl, hp0, hkn, hgp, hsr, ha1, he1, hxx, hyy, hf1, hs2, ho3, hu3, hf2, hs3, ho4, hu4, hg1, hg2, hsh, ho1, ho2, hst, hT, hF, updD, hDu]; exact ⟨rfl⟩)) | exact True.intro | (with_reducible refine And.intro ?_ ?_) | omega))); (case' hq26 => (intro D hT; simp only [dnT, and_true] at hT; simp (maxSteps := 2000000) only [go_sem, reduceIte, reduceCtorEq, xA, xL, xD, xE, xM, xS, xB, Tryz.f37, Tryz.f66, Tryz.f99, Tryz.f100, stF0, stF1, ptF0, intI, he, repC_u, maxLen, rowU_len, rowU_pur, rowK_pur, rowK_len, rowK_snoc, rowK_0, hgetB, geB, gdB, purB, Bool.cond_self, rowU_frz, rowK_frz, foeR_len, List.length_set, hpl, hp0, hkn, hgp, hsr, ha1, he1, hxx, hyy, hf1, hs2, ho3, hu3, hf2, hs3, ho4, hu4, hg1, hg2, hsh, ho1, ho2, hst, hT, updD])))
 | (with_reducible first | refine aP 27 [1,2,9,77,78] ?_ | refine AW_frz (c := Code.region 28 _ false) [5,8,11] ?_ (aP 28 [9] ?_)))
 | ((with_reducible show AW _ (Code.loop _) _ _); first
 | ((with_reducible refine aL (c := (Code.seq (Code.region 6 _ _) _)) (ι := Nat) [1,2,9,38,39] (fun i => [(40, iA .i64 (i : Int))]) (fun i => [(5, rowU (pst0 x.S x.m i))]) (fun i => i ≤ x.m) (fun i => x.m - i) 0 ?lg6 ?l16 ?l26 ?li6 ?lr6); (case' lg6 => rintro i _); (case' li6 => try (first | trivial | omega | (simp; done) | (simp; omega))); (case' lr6 => rintro i hi KR hR6; simp only [keepE, hupd, hset, lk, if_true, if_false, xE, reduceIte, zN, stF0, stF1, ptF0, he, repC_u, maxLen, rowU_len, rowU_pur, rowK_pur, rowK_len, rowK_snoc, rowK_0, hgetB, geB, gdB, purB, Bool.cond_self, rowU_frz, rowK_frz, foeR_len, List.length_set, hpl, hp0, hkn, hgp, hsr, ha1, he1, hxx, hyy, hf1, hs2, ho3, hu3, hf2, hs3, ho4, hu4, hg1, hg2, hsh, ho1, ho2, hst]))
 | ((with_reducible refine aL (c := (Code.seq (Code.region 9 _ _) _)) (ι := Nat) [1,2,9,10,38,39,40,46,47] (fun j => [(48, iA .i64 (j : Int))]) (fun j => [(5, rowU (pstR x.S x.m i (orJ x.S x.m i (pstL x.S x.m i) j)))]) (fun j => j ≤ (x.S i).q) (fun j => (x.S i).q - j) 0 ?lg9 ?l19 ?l29 ?li9 ?lr9); (case' lg9 => rintro j _); (case' li9 => try (first | trivial | omega | (simp; done) | (simp; omega))); (case' lr9 => rintro j hj KR hR9; simp only [keepE, hupd, hset, lk, if_true, if_false, xE, reduceIte, zN, stF0, stF1, ptF0, he, repC_u, maxLen, rowU_len, rowU_pur, rowK_pur, rowK_len, rowK_snoc, rowK_0, hgetB, geB, gdB, purB, Bool.cond_self, rowU_frz, rowK_frz, foeR_len, List.length_set, hpl, hp0, hkn, hgp, hsr, ha1, he1, hxx, hyy, hf1, hs2, ho3, hu3, hf2, hs3, ho4, hu4, hg1, hg2, hsh, ho1, ho2, hst]))
 | ((with_reducible refine aL (c := (Code.seq (Code.region 2 _ _) _)) (ι := Nat) [0,1,7] (fun t => [(8, iA .i64 (t : Int))]) (fun t => []) (fun t => t ≤ x.m ∧ (∀ t', t' < t → (x.S t').nu ≠ (x.S i).a j)) (fun t => x.m - t) 0 ?lg2 ?l12 ?l22 ?li2 ?lr2); (case' lg2 => rintro t _); (case' li2 => try (exact ⟨Nat.zero_le _, fun i hi => absurd hi (Nat.not_lt_zero _)⟩)); (case' lr2 => rintro t ⟨ht, hat⟩ KR hR2; simp only [keepE, hupd, hset, lk, if_true, if_false, xE, reduceIte, zN, stF0, stF1, ptF0, he, repC_u, maxLen, rowU_len, rowU_pur, rowK_pur, rowK_len, rowK_snoc, rowK_0, hgetB, geB, gdB, purB, Bool.cond_self, rowU_frz, rowK_frz, foeR_len, List.length_set, hpl, hp0, hkn, hgp, hsr, ha1, he1, hxx, hyy, hf1, hs2, ho3, hu3, hf2, hs3, ho4, hu4, hg1, hg2, hsh, ho1, ho2, hst]))
 | ((with_reducible refine aL (c := (Code.seq (Code.region 16 _ _) _)) (ι := Nat) [1,2,9,77] (fun i2 => [(78, iA .i64 (i2 : Int))]) (fun i2 => [(8, rowU (foeR (clL (opP x) (hitX x) x.m i2) x.m)), (10, [.iv (.lst 9 x.n (featF x.f)), .iv (.lst 2 x.m (stF x.S)), .iv (.lst 1 x.mo (ptF x.O)), .slc 5 0 x.m 1, .slc 8 0 x.m 1, .slc 11 0 (clL (opP x) (hitX x) x.m i2).length 4]), (11, rowK x (clL (opP x) (hitX x) x.m i2))]) (fun i2 => i2 ≤ x.m) (fun i2 => x.m - i2) 0 ?lg16 ?l116 ?l216 ?li16 ?lr16); (case' lg16 => rintro i2 _); (case' li16 => try (first | trivial | omega | (simp; done) | (simp; omega))); (case' lr16 => rintro i2 hi2 KR hR16; simp only [keepE, hupd, hset, lk, if_true, if_false, xE, reduceIte, zN, stF0, stF1, ptF0, he, repC_u, maxLen, rowU_len, rowU_pur, rowK_pur, rowK_len, rowK_snoc, rowK_0, hgetB, geB, gdB, purB, Bool.cond_self, rowU_frz, rowK_frz, foeR_len, List.length_set, hpl, hp0, hkn, hgp, hsr, ha1, he1, hxx, hyy, hf1, hs2, ho3, hu3, hf2, hs3, ho4, hu4, hg1, hg2, hsh, ho1, ho2, hst]))
 | ((with_reducible refine aL (c := (Code.seq (Code.seq (Code.region 19 _ _) _) _)) (ι := Nat) [1,2,9,15,77,78] (fun t2 => [(16, iA .i64 ((i2 : Int) + 1 + (t2 : Int)))]) (fun t2 => [(8, rowU (foeR (clL (opP x) (hitX x) x.m i2 ++ clR (opP x) (hitX x) i2 t2) x.m)), (10, [.iv (.lst 9 x.n (featF x.f)), .iv (.lst 2 x.m (stF x.S)), .iv (.lst 1 x.mo (ptF x.O)), .slc 5 0 x.m 1, .slc 8 0 x.m 1, .slc 11 0 (clL (opP x) (hitX x) x.m i2 ++ clR (opP x) (hitX x) i2 t2).length 4]), (11, rowK x (clL (opP x) (hitX x) x.m i2 ++ clR (opP x) (hitX x) i2 t2))]) (fun t2 => i2 + 1 + t2 ≤ x.m) (fun t2 => x.m - (i2 + 1 + t2)) 0 ?lg19 ?l119 ?l219 ?li19 ?lr19); (case' lg19 => rintro t2 _); (case' li19 => try (first | trivial | omega | (simp; done) | (simp; omega))); (case' lr19 => rintro t2 ht2 KR hR19; simp only [keepE, hupd, hset, lk, if_true, if_false, xE, reduceIte, zN, stF0, stF1, ptF0, he, repC_u, maxLen, rowU_len, rowU_pur, rowK_pur, rowK_len, rowK_snoc, rowK_0, hgetB, geB, gdB, purB, Bool.cond_self, rowU_frz, rowK_frz, foeR_len, List.length_set, hpl, hp0, hkn, hgp, hsr, ha1, he1, hxx, hyy, hf1, hs2, ho3, hu3, hf2, hs3, ho4, hu4, hg1, hg2, hsh, ho1, ho2, hst]))))
 | ((first | (with_reducible refine And.intro ?_ ?_) | (with_reducible refine Need.mk ?_)); focus (first | exact True.intro | (with_reducible assumption) | omega | (refine ⟨?_, ?_⟩ <;> omega) | (intro _; first | exact True.intro | (with_reducible assumption) | omega) | (intros; (repeat' (first | exact True.intro | omega | (with_reducible assumption) | (with_reducible refine And.intro ?_ ?_))); done) | (simp (disch := omega) only [Bool.and_eq_true, Bool.or_eq_true, decide_eq_true_eq, bne_iff_ne, ne_eq] at *; first | done | omega | (intros; omega)) | (simp; done) | (simp; omega) | (simp +contextual; done) | (intro h; rw [h]; rfl) | (intro hq; have hq2 := hq; simp only [Bool.and_eq_true, Bool.or_eq_true, Bool.not_eq_true', Bool.not_not, Bool.not_eq_false', decide_eq_true_eq, decide_eq_false_iff_not] at hq2; (repeat' (first | exact hq | (with_reducible refine And.intro ?_ ?_) | omega | (simp_all; done))); done) | (intros; simp_all; done)))
 | (with_reducible refine retK_n ?_)
 | (with_reducible refine retK_n' ?_)
 | (with_reducible refine retH_n rfl rfl rfl ?_)
 | (with_reducible refine retH_n' rfl rfl rfl ?_)
 | ((with_reducible show condN _ _ _ _ _ _); first
 | ((with_reducible refine condN_t ?_ ?_) <;> (intro hc; (try simp only [zB, zC, reduceCtorEq] at hc); ((try (clear mk0; have hxq := hx.q i (by omega); have hex := st_ex hv (i := i) (j := j) (by omega) (by omega))); (try (exfalso; obtain ⟨t0, h1, h2⟩ := hex; exact hat t0 (by omega) h2)); (try (clear mk1 hpl hg1 hg2 hsh ho1 ho2 hst; have hk := ix_of (S := x.S) (m := x.m) (by omega) hc hat; have hti : t < i := (by obtain ⟨t0, h1, h2⟩ := hex; exact (Nat.lt_or_ge t i).elim id (fun g => absurd h2 (hat t0 (by omega)))); obtain ⟨hg1, hg2, ho1, ho2, hst⟩ := pst_facts hv hm (i := i) (j := j) (by omega) (by omega) hti hk; have hpl := pstR_len x.S (m := x.m) (i := i) (orJ x.S x.m i (pstL x.S x.m i) j) (by omega); have hsh := u_shl6 (k := t) (by omega))); (try (clear mkA hp0; have e0 : i = x.m := (by omega); subst e0; have hp0 := pst0_len x.S (Nat.le_refl x.m))); (try (clear mk2 hkn hgp hsr ha1 he1 hxx hyy hf1 hs2 ho3 hu3 hf2 hs3 ho4 hu4; have hkm : (i2 + 1 + t2) < x.m := (by omega); have hkn : ((i2 : Int) + 1 + (t2 : Int)).toNat = (i2 + 1 + t2) := (by omega); have hgp := past_at (S := x.S) hkm; have hp2 : pstN x.S x.m (i2 + 1 + t2) < 1024 := lt2_10 (k := (i2 + 1 + t2)) (by omega) (pstN_lt hv hm hkm); have hsr := u_shr6 (pstN x.S x.m (i2 + 1 + t2)) i2 (by omega); have ha1 := u_and1 (shr_lt i2 (x := pstN x.S x.m (i2 + 1 + t2)) (by omega)); have hv1 := hop i2 (by omega); have hv2 := hop (i2 + 1 + t2) (by omega); have he1 : CmE (x.O i2).k (x.O i2).o (x.O (i2 + 1 + t2)).k (x.O (i2 + 1 + t2)).o = 0 := if_pos ⟨hv1, hv2⟩; have hxx : CmX (x.O i2).k (x.O i2).o (x.O (i2 + 1 + t2)).k (x.O (i2 + 1 + t2)).o = comX (x.O i2).k (x.O i2).o (x.O (i2 + 1 + t2)).k (x.O (i2 + 1 + t2)).o := if_pos ⟨hv1, hv2⟩; have hyy : CmY (x.O i2).k (x.O i2).o (x.O (i2 + 1 + t2)).k (x.O (i2 + 1 + t2)).o = comY (x.O i2).k (x.O i2).o (x.O (i2 + 1 + t2)).k (x.O (i2 + 1 + t2)).o := if_pos ⟨hv1, hv2⟩; obtain ⟨hf1, ho3, hu3, hf2, ho4, hu4⟩ := foe_facts hm (i := i2) (k := (i2 + 1 + t2)) (by omega) hkm (fun p hp => clL_lt (P := opP x) (X := hitX x) (k := i2) (t := t2) (by omega) (by omega) hp); have hs2 := u_shl6 (k := (i2 + 1 + t2)) (by omega); have hs3 := u_shl6 (k := i2) (by omega); have hll := clD_len (P := opP x) (X := hitX x) hm (i := i2) (t := t2) (by omega) (by omega)))); (try (exfalso; first | contradiction | omega)))))
 | ((with_reducible refine And.intro ?_ ?_); focus (first | ((with_reducible show chkS _ _ _ _ = true); kernel_rfl) | ((with_reducible show holesB _ _ _ = true); kernel_rfl)))
 | ((with_reducible refine And.intro ?_ ?_); focus ((with_reducible show chkR _ _ _ = true); kernel_rfl))
 | ((with_reducible show callN _ _ _ _ _ _ _ _ _ _); first
 | (refine callN_q (k := 65) fnok_65 (cval_p x hx) ?_ ?_)
 | (refine callN_q (k := 67) fnok_67 (comm_p (x.O i2).k (x.O i2).o (x.O (i2 + 1 + t2)).k (x.O (i2 + 1 + t2)).o (hx.k i2 (by omega)) (hx.o i2 (by omega)) (hx.k (i2 + 1 + t2) (by omega)) (hx.o (i2 + 1 + t2) (by omega))) ?_ ?_)
 | ((refine callN_i (k := 66) Tryz.func66 rfl fnok_66 (by rw [Tryz.ntmps66]; simp) ?_ ?_ (fun K hK => ?_)); (focus (first | exact True.intro | (with_reducible assumption) | omega | (refine ⟨?_, ?_⟩ <;> omega) | (intro _; first | exact True.intro | (with_reducible assumption) | omega) | (intros; (repeat' (first | exact True.intro | omega | (with_reducible assumption) | (with_reducible refine And.intro ?_ ?_))); done) | (simp (disch := omega) only [Bool.and_eq_true, Bool.or_eq_true, decide_eq_true_eq, bne_iff_ne, ne_eq] at *; first | done | omega | (intros; omega)) | (simp; done) | (simp; omega) | (simp +contextual; done) | (intro h; rw [h]; rfl) | (intro hq; have hq2 := hq; simp only [Bool.and_eq_true, Bool.or_eq_true, Bool.not_eq_true', Bool.not_not, Bool.not_eq_false', decide_eq_true_eq, decide_eq_false_iff_not] at hq2; (repeat' (first | exact hq | (with_reducible refine And.intro ?_ ?_) | omega | (simp_all; done))); done) | (intros; simp_all; done))); (focus (first | (simp [lsF]; done) | assumption | exact ⟨Nat.ne_of_lt (Nat.lt_succ_self _), by assumption⟩)); simp only [Tryz.ntmps66, List.map_cons, List.map_nil, List.nil_append, List.cons_append, List.append_nil, LV.tv, argEnv, Nat.zero_add, Nat.reduceAdd])
 | ((refine callN_i (k := 99) Tryz.func99 rfl fnok_99 (by rw [Tryz.ntmps99]; simp) ?_ ?_ (fun K hK => ?_)); (focus (first | exact True.intro | (with_reducible assumption) | omega | (refine ⟨?_, ?_⟩ <;> omega) | (intro _; first | exact True.intro | (with_reducible assumption) | omega) | (intros; (repeat' (first | exact True.intro | omega | (with_reducible assumption) | (with_reducible refine And.intro ?_ ?_))); done) | (simp (disch := omega) only [Bool.and_eq_true, Bool.or_eq_true, decide_eq_true_eq, bne_iff_ne, ne_eq] at *; first | done | omega | (intros; omega)) | (simp; done) | (simp; omega) | (simp +contextual; done) | (intro h; rw [h]; rfl) | (intro hq; have hq2 := hq; simp only [Bool.and_eq_true, Bool.or_eq_true, Bool.not_eq_true', Bool.not_not, Bool.not_eq_false', decide_eq_true_eq, decide_eq_false_iff_not] at hq2; (repeat' (first | exact hq | (with_reducible refine And.intro ?_ ?_) | omega | (simp_all; done))); done) | (intros; simp_all; done))); (focus (first | (simp [lsF]; done) | assumption | exact ⟨Nat.ne_of_lt (Nat.lt_succ_self _), by assumption⟩)); simp only [Tryz.ntmps99, List.map_cons, List.map_nil, List.nil_append, List.cons_append, List.append_nil, LV.tv, argEnv, Nat.zero_add, Nat.reduceAdd])
 | ((refine callN_ic (k := 100) Tryz.func100 rfl fnok_100 (by rw [Tryz.ntmps100]; simp) ?_ ?_ (fun K hK => ?_)); (focus (first | exact True.intro | (with_reducible assumption) | omega | (refine ⟨?_, ?_⟩ <;> omega) | (intro _; first | exact True.intro | (with_reducible assumption) | omega) | (intros; (repeat' (first | exact True.intro | omega | (with_reducible assumption) | (with_reducible refine And.intro ?_ ?_))); done) | (simp (disch := omega) only [Bool.and_eq_true, Bool.or_eq_true, decide_eq_true_eq, bne_iff_ne, ne_eq] at *; first | done | omega | (intros; omega)) | (simp; done) | (simp; omega) | (simp +contextual; done) | (intro h; rw [h]; rfl) | (intro hq; have hq2 := hq; simp only [Bool.and_eq_true, Bool.or_eq_true, Bool.not_eq_true', Bool.not_not, Bool.not_eq_false', decide_eq_true_eq, decide_eq_false_iff_not] at hq2; (repeat' (first | exact hq | (with_reducible refine And.intro ?_ ?_) | omega | (simp_all; done))); done) | (intros; simp_all; done))); (focus (first | (simp [lsF]; done) | assumption | exact ⟨Nat.ne_of_lt (Nat.lt_succ_self _), by assumption⟩)); simp only [Tryz.ntmps100, List.map_cons, List.map_nil, List.nil_append, List.cons_append, List.append_nil, LV.tv, argEnv, Nat.zero_add, Nat.reduceAdd]))
 | ((with_reducible show callDN _ _ _ _ _ _ _ _ _ _ _ _ _); first
 | (refine callDN_q (k := 67) fnok_67 (comm_p (x.O i2).k (x.O i2).o (x.O (i2 + 1 + t2)).k (x.O (i2 + 1 + t2)).o (hx.k i2 (by omega)) (hx.o i2 (by omega)) (hx.k (i2 + 1 + t2) (by omega)) (hx.o (i2 + 1 + t2) (by omega))) ?_ ?_))
 | ((with_reducible refine hR6 _ (i + 1) ?_); (try clear hR6 KR))
 | ((with_reducible refine hR9 _ (j + 1) ?_); (try clear hR9 KR))
 | ((with_reducible refine hR2 _ (t + 1) ?_); (try clear hR2 KR))
 | ((with_reducible refine hR16 _ (i2 + 1) ?_); (try clear hR16 KR))
 | ((with_reducible refine hR19 _ (t2 + 1) ?_); (try clear hR19 KR))
 | ((with_reducible refine Told.mk ?_); simp only [go_sem, reduceIte, reduceCtorEq, xA, xL, xD, xE, xM, xS, xB, stF0, stF1, ptF0, intI, he, repC_u, maxLen, rowU_len, rowU_pur, rowK_pur, rowK_len, rowK_snoc, rowK_0, hgetB, geB, gdB, purB, Bool.cond_self, rowU_frz, rowK_frz, foeR_len, List.length_set, hpl, hp0, hkn, hgp, hsr, ha1, he1, hxx, hyy, hf1, hs2, ho3, hu3, hf2, hs3, ho4, hu4, hg1, hg2, hsh, ho1, ho2, hst] <;> (first | exact True.intro | (((try simp (disch := omega) only [seaWrap, Int.natCast_add, Int.cast_ofNat_Int, and_true, true_and, and_self]); (repeat' (first | exact True.intro | omega | rfl | (with_reducible assumption) | (with_reducible refine And.intro ?_ ?_) | (exact all_succ (by assumption) (by assumption)) | ((exact rfl)) | ((exact wkC_eq rfl (rowU_iv _))) | ((exact wkC_eq rfl (rowK_iv _ _))) | ((rw [show j = (x.S i).q by omega, pstR_0]; exact wkC_eq rfl (rowU_iv _))))); done)) | (((try simp (disch := omega) only [seaWrap, Int.natCast_add, Int.cast_ofNat_Int, and_true, true_and, and_self]); (repeat' (first | exact True.intro | omega | rfl | (with_reducible assumption) | (with_reducible refine And.intro ?_ ?_) | (exact all_succ (by assumption) (by assumption)) | ((exact rfl)) | ((exact wkC_eq rfl (rowU_iv _))) | ((exact wkC_eq rfl (rowK_iv _ _))) | ((rw [pst0_R _ (by omega)]; exact wkC_eq rfl (rowU_iv _))))); done)) | (((try simp (disch := omega) only [seaWrap, Int.natCast_add, Int.cast_ofNat_Int, and_true, true_and, and_self]); (repeat' (first | exact True.intro | omega | rfl | (with_reducible assumption) | (with_reducible refine And.intro ?_ ?_) | (exact all_succ (by assumption) (by assumption)) )); done)) | (((try simp (disch := omega) only [seaWrap, Int.natCast_add, Int.cast_ofNat_Int, and_true, true_and, and_self]); (repeat' (first | exact True.intro | omega | rfl | (with_reducible assumption) | (with_reducible refine And.intro ?_ ?_) | (exact all_succ (by assumption) (by assumption)) | ((exact rfl)) | ((exact wkC_eq rfl (rowU_iv _))) | ((exact wkC_eq rfl (rowK_iv _ _))) | ((rw [show t2 = x.m - (i2 + 1) by omega]; exact wkC_eq rfl (rowU_iv _))) | ((rw [show t2 = x.m - (i2 + 1) by omega]; exact wkC_eq rfl (rowK_iv _ _))) | ((rw [show t2 = x.m - (i2 + 1) by omega]; rfl)) | ((exact wkC_eq (by rw [← foeR_nil]; rfl) (rowU_iv _))))); done)) | (((try simp (disch := omega) only [seaWrap, Int.natCast_add, Int.cast_ofNat_Int, and_true, true_and, and_self]); (repeat' (first | exact True.intro | omega | rfl | (with_reducible assumption) | (with_reducible refine And.intro ?_ ?_) | (exact all_succ (by assumption) (by assumption)) | ((exact rfl)) | ((exact wkC_eq rfl (rowU_iv _))) | ((exact wkC_eq rfl (rowK_iv _ _))) | ((rw [clR_0, List.append_nil]; exact wkC_eq rfl (rowU_iv _))) | ((rw [clR_0, List.append_nil]; exact wkC_eq rfl (rowK_iv _ _))) | ((rw [clR_0, List.append_nil])) | ((rw [clD_f1 (by assumption)]; first | done | rfl | exact wkC_eq rfl (rowU_iv _) | exact wkC_eq rfl (rowK_iv _ _) | exact congrArg (fun n => CV.slc 11 0 n 4) (len_sP _ _).symm | (simp; done))) | ((rw [clD_f2 (hc.resolve_left (fun h => h rfl))]; first | done | rfl | exact wkC_eq rfl (rowU_iv _) | exact wkC_eq rfl (rowK_iv _ _) | exact congrArg (fun n => CV.slc 11 0 n 4) (len_sP _ _).symm | (simp; done))) | ((rw [clD_t (by assumption) hc.2]; first | done | rfl | exact wkC_eq rfl (rowU_iv _) | exact wkC_eq rfl (rowK_iv _ _) | exact congrArg (fun n => CV.slc 11 0 n 4) (len_sP _ _).symm | (simp; done))))); done)) | (refine Stuck.out ?_)))
 | ((fail_if_success (with_reducible show AW _ _ _ _)); simp (maxSteps := 2000000) only [go_sem, reduceIte, reduceCtorEq, xA, xL, xD, xE, xM, xS, xB, Tryz.f37, Tryz.f66, Tryz.f99, Tryz.f100, stF0, stF1, ptF0, intI, he, repC_u, maxLen, rowU_len, rowU_pur, rowK_pur, rowK_len, rowK_snoc, rowK_0, hgetB, geB, gdB, purB, Bool.cond_self, rowU_frz, rowK_frz, foeR_len, List.length_set, hpl, hp0, hkn, hgp, hsr, ha1, he1, hxx, hyy, hf1, hs2, ho3, hu3, hf2, hs3, ho4, hu4, hg1, hg2, hsh, ho1, ho2, hst])
 | ((fail_if_success (with_reducible show AW _ _ _ _)); simp (disch := omega) only [seaWrap, seaDiv, seaMod])
 | ((with_reducible refine hK _ ?_); clear hK K)
 | (with_reducible apply_assumption -exfalso only [*]))
  all_goals first
    | (have e0 : i2 = x.m := (by omega)
       subst e0
       intro o ho
       rcases (by omega : o = 0 ∨ o = 1 ∨ o = 2 ∨ o = 3 ∨ o = 4 ∨ o = 5) with rfl | rfl | rfl | rfl | rfl | rfl
       · exact IV.eqv_refl _
       · exact IV.eqv_refl _
       · exact IV.eqv_refl _
       · exact ⟨rfl, rfl, fun i o hi ho => row_uE (l := pst0 x.S x.m x.m) (F := opP x) (fun i hi => by rw [pst0_m]; rfl) i o (by rw [hp0]; exact hi) ho⟩
       · exact ⟨rfl, rfl, fun i o hi ho => row_uE (l := foeR (opL x) x.m) (F := foeN (opL x)) (fun i hi => foeR_at _ (by simpa [foeR] using hi)) i o (by rw [foeR_len]; exact hi) ho⟩
       · exact ⟨rfl, rfl, fun i o hi ho => row_kE (x := x) (L := opL x) i o hi ho⟩)
    | skip
end Go.Proofs.YtmnejmpjmniiiaaGreatDoor
