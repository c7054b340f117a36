/- Part 16 of 16: contracts of functions and plain laws for the root text. No condition. -/
import Derived.Test.YtdhgiklbkmkblaaGreatK01
import Derived.Test.YtdhgiklbkmkblaaGreatK02
import Derived.Test.YtdhgiklbkmkblaaGreatK03
import Derived.Test.YtdhgiklbkmkblaaGreatK04
import Derived.Test.YtdhgiklbkmkblaaGreatK05
import Derived.Test.YtdhgiklbkmkblaaGreatK06
import Derived.Test.YtdhgiklbkmkblaaGreatK07
import Derived.Test.YtdhgiklbkmkblaaGreatK08
import Derived.Test.YtdhgiklbkmkblaaGreatK09
import Derived.Test.YtdhgiklbkmkblaaGreatK10
import Derived.Test.YtdhgiklbkmkblaaGreatK11
import Derived.Test.YtdhgiklbkmkblaaGreatK12
import Derived.Test.YtdhgiklbkmkblaaGreatK13
import Derived.Test.YtdhgiklbkmkblaaGreatK14
import Derived.Test.YtdhgiklbkmkblaaGreatK15
set_option linter.unusedVariables false
set_option linter.unusedSimpArgs false
set_option maxRecDepth 100000
set_option maxHeartbeats 4000000
namespace Go.Proofs.YtdhgiklbkmkblaaGreat
open Go.RowKit Go.Sea
open Nat renaming reduceAdd → xA, reduceLT → xL, reduceLeDiff → xD, reduceEqDiff → xE, reduceMul → xM, reduceSub → xS, reduceBEq → xB
theorem ty_5 : tyD Tryz.prog 5 = some (false, 1) := by kernel_rfl
attribute [go_sem] ty_5
def runS (s : ShtS) : List NotS → ShtS
  | [] => s
  | a :: l => runS (edS s a) l
def okR (s : ShtS) : List NotS → Prop
  | [] => True
  | a :: l => ApE s a = 0 ∧ okR (edS s a) l
theorem runS_app : ∀ (l m : List NotS) (s : ShtS), runS s (l ++ m) = runS (runS s l) m
  | [], _, _ => rfl
  | a :: l, m, s => runS_app l m (edS s a)
theorem okR_app : ∀ (l m : List NotS) (s : ShtS), okR s (l ++ m) ↔ okR s l ∧ okR (runS s l) m
  | [], m, s => ⟨fun h => ⟨trivial, h⟩, fun h => h.2⟩
  | a :: l, m, s => by
    show (ApE s a = 0 ∧ okR (edS s a) (l ++ m)) ↔ (ApE s a = 0 ∧ okR (edS s a) l) ∧ _
    rw [okR_app l m (edS s a)]
    exact ⟨fun ⟨a, b, c⟩ => ⟨⟨a, b⟩, c⟩, fun ⟨⟨a, b⟩, c⟩ => ⟨a, b, c⟩⟩
theorem okR_v : ∀ (l : List NotS) {s : ShtS}, shtB s = true → okR s l → shtB (runS s l) = true
  | [], _, h, _ => h
  | a :: l, _, _, h => okR_v l (ed_ok h.1).1 h.2
theorem runS_re : ∀ (l : List NotS) (s : ShtS) (e : Int), runS { s with ed := e } l = { runS s l with ed := e }
  | [], _, _ => rfl
  | a :: l, s, e => runS_re l (edS s a) e
theorem runS_ch : ∀ (l : List NotS) (s : ShtS), (runS s l).ch = s.ch ∧ (runS s l).ed = s.ed
  | [], _ => ⟨rfl, rfl⟩
  | a :: l, s => runS_ch l (edS s a)
theorem sht_re {s : ShtS} {e : Int} (h : shtB s = true) (h1 : 1 ≤ e) (h2 : e ≤ 1000) : shtB { s with ed := e } = true := by
  unfold shtB at h ⊢
  simp only [Bool.and_eq_true, decide_eq_true_eq] at h ⊢
  exact ⟨⟨⟨h.1.1.1, h.1.1.2.1, h.1.1.2.2.1, ⟨h1, h2⟩, h.1.1.2.2.2.2⟩, h.1.2⟩, h.2⟩
theorem ApE_re {s : ShtS} {e : Int} (N : NotS) (h : shtB s = true) (h1 : 1 ≤ e) (h2 : e ≤ 1000) : ApE { s with ed := e } N = ApE s N := by
  unfold ApE; rw [h, sht_re h h1 h2]; rfl
theorem okR_re : ∀ (l : List NotS) {s : ShtS} {e : Int}, shtB s = true → 1 ≤ e → e ≤ 1000 → (okR { s with ed := e } l ↔ okR s l)
  | [], _, _, _, _, _ => Iff.rfl
  | a :: l, s, e, h, h1, h2 => by
    show (ApE { s with ed := e } a = 0 ∧ okR { edS s a with ed := e } l) ↔ (ApE s a = 0 ∧ okR (edS s a) l)
    rw [ApE_re a h h1 h2]
    exact ⟨fun ⟨g, k⟩ => ⟨g, (okR_re l (ed_ok g).1 h1 h2).1 k⟩, fun ⟨g, k⟩ => ⟨g, (okR_re l (ed_ok g).1 h1 h2).2 k⟩⟩
theorem has_run : ∀ (l : List NotS) (s : ShtS) (y : Int), hasL (runS s l).q (runS s l).dn y = (hasL s.q s.dn y || l.any fun a => decide (y = a.nu))
  | [], s, y => by simp [runS]
  | a :: l, s, y => by
    show hasL (runS (edS s a) l).q (runS (edS s a) l).dn y = _
    rw [has_run l (edS s a) y]
    show (hasL (s.q + 1) (dnI s.q s.dn a.nu) y || _) = _
    rw [has_dn, List.any_cons]
    cases decide (y = a.nu) <;> cases hasL s.q s.dn y <;> rfl
def lkN (s : ShtS) (L : List NotS) : List NotS := L.filter fun a => cncB a s.ch && !hasL s.q s.dn a.nu
theorem corS_run (s : ShtS) (n : Nat) (N : Nat → NotS) (od : Nat → Int) : ∀ k, corS s n N od k = runS s ((List.range k).map fun j => N (fndJ n N (od j)))
  | 0 => rfl
  | k + 1 => by
    rw [List.range_succ, List.map_append, runS_app, ← corS_run s n N od k]; rfl
theorem cor_run {s : ShtS} {n : Nat} {N : Nat → NotS} {k : Nat} {od : Nat → Int} (hB : corB s n N k = true) (hf : ∀ j, j < k → fndJ n N (od j) < n) : (CorE s n N k od = 0 ↔ okR s ((List.range k).map fun j => N (fndJ n N (od j)))) ∧ (CorE s n N k od = 0 → CorS s n N k od = runS s ((List.range k).map fun j => N (fndJ n N (od j)))) := by
  have key : ∀ i, i ≤ k → ((∀ j, j < i → stpE (corS s n N od j) n N (od j) = 0) ↔ okR s ((List.range i).map fun j => N (fndJ n N (od j)))) := fun i => by
    induction i with
    | zero => intro _; exact ⟨fun _ => trivial, fun _ j h => absurd h (Nat.not_lt_zero j)⟩
    | succ i ih =>
      intro hi
      rw [List.range_succ, List.map_append, okR_app, ← ih (by omega), ← corS_run]
      have e : stpE (corS s n N od i) n N (od i) = ApE (corS s n N od i) (N (fndJ n N (od i))) := by unfold stpE; rw [if_pos (hf i (by omega))]
      constructor
      · intro h
        exact ⟨fun j hj => h j (by omega), e ▸ h i (by omega), trivial⟩
      · rintro ⟨h1, h2, _⟩ j hj
        rcases Nat.lt_or_ge j i with g | g
        · exact h1 j g
        · obtain rfl : j = i := by omega
          rw [e]; exact h2
  refine ⟨?_, fun h => (cor_sh h).2.1.trans (corS_run s n N od k)⟩
  rw [← key k (Nat.le_refl k)]
  exact ⟨fun h => (cor_sh h).2.2.2, fun h => (cor_ok hB (Int.le_refl _) h).2.2⟩
theorem lk_list {s : ShtS} {n : Nat} {N : Nat → NotS} (h : ntsB n N = true) : ((List.range (lakL s N n).length).map fun j => N (fndJ n N (zL (lakL s N n) j))) = lkN s (LN n N) ∧ ∀ j, j < (lakL s N n).length → fndJ n N (zL (lakL s N n) j) < n := by
  have hl : lakL s N n = (lkN s (LN n N)).map NotS.nu := lakL_L s N n
  have at_ : ∀ j (hj : j < (lkN s (LN n N)).length), ∃ i, i < n ∧ N i = (lkN s (LN n N))[j] ∧ zL (lakL s N n) j = (N i).nu := fun j hj => by
    have hm := List.getElem_mem hj
    obtain ⟨i, h1, h2⟩ := LN_mem.1 (List.mem_filter.1 hm).1
    refine ⟨i, h1, h2, ?_⟩
    rw [hl, h2]
    unfold zL
    rw [List.getD, List.getElem?_map, List.getElem?_eq_getElem hj]; rfl
  have hlen : (lakL s N n).length = (lkN s (LN n N)).length := by rw [hl, List.length_map]
  refine ⟨List.ext_getElem (by simp [hlen]) fun j h1 h2 => ?_, fun j hj => ?_⟩
  · obtain ⟨i, g1, g2, g3⟩ := at_ j h2
    rw [List.getElem_map, List.getElem_range, g3, fnd_at (nts_n h).2 g1, g2]
  · obtain ⟨i, g1, g2, g3⟩ := at_ j (by omega)
    rw [g3, fnd_at (nts_n h).2 g1]; exact g1
theorem mk_run {s : ShtS} {n : Nat} {N : Nat → NotS} (hB : mkB s n N = true) (he : s.ed < 1000) : (MkE s n N = 0 ↔ okR s (lkN s (LN n N))) ∧ (MkE s n N = 0 → MkS s n N = { runS s (lkN s (LN n N)) with ed := s.ed + 1 }) := by
  have hs := mk_spl hB
  have hl := lk_list (s := s) hs.2.1
  have hc := cor_run (s := s) (mk_cor hB) hl.2
  rw [hl.1] at hc
  have e : MkE s n N = CorE s n N (lakL s N n).length (zL (lakL s N n)) := by unfold MkE; rw [if_pos hB, if_neg (by omega)]
  rw [e]
  refine ⟨hc.1, fun h => ?_⟩
  unfold MkS
  rw [if_pos hB, if_neg (by omega), mkF_0 h, hc.2 h, (runS_ch _ s).2]
theorem nts_pre {n k : Nat} {N : Nat → NotS} (h : ntsB n N = true) (hk : k ≤ n) : ntsB k N = true := by
  have := nts_n h
  exact decide_eq_true ⟨by omega, fun i hi => this.2 i (by omega)⟩
theorem LN_take {n k : Nat} (N : Nat → NotS) (h : k ≤ n) : LN n N = LN k N ++ (LN n N).drop k := by
  have e : LN k N = (LN n N).take k := by unfold LN; rw [← List.map_take, List.take_range, Nat.min_eq_left h]
  rw [e, List.take_append_drop]
theorem LN_rise {n : Nat} {N : Nat → NotS} (h : ntsB n N = true) : (LN n N).Pairwise fun a b => a.nu < b.nu := by
  rw [List.pairwise_iff_getElem]
  intro i j hi hj hij
  rw [LN_get, LN_get]
  exact nts_rise (nts_n h).2 j hij (by simpa [LN_len] using hj)
theorem lkN_two {s : ShtS} {n k : Nat} {N : Nat → NotS} (h : ntsB n N = true) (hk : k ≤ n) (e : Int) : lkN { runS s (lkN s (LN k N)) with ed := e } (LN n N) = lkN s ((LN n N).drop k) := by
  have hp := LN_rise h
  rw [LN_take N hk] at hp
  have hx := (List.pairwise_append.1 hp).2.2
  have hch := (runS_ch (lkN s (LN k N)) s).1
  have eh : ∀ y, hasL (runS s (lkN s (LN k N))).q (runS s (lkN s (LN k N))).dn y = (hasL s.q s.dn y || (lkN s (LN k N)).any fun a => decide (y = a.nu)) := has_run _ s
  show (LN n N).filter (fun a => cncB a (runS s (lkN s (LN k N))).ch && !hasL (runS s (lkN s (LN k N))).q (runS s (lkN s (LN k N))).dn a.nu) = ((LN n N).drop k).filter _
  conv => lhs; rw [LN_take N hk]
  rw [List.filter_append]
  have e1 : (LN k N).filter (fun a => cncB a (runS s (lkN s (LN k N))).ch && !hasL (runS s (lkN s (LN k N))).q (runS s (lkN s (LN k N))).dn a.nu) = [] := by
    rw [List.filter_eq_nil_iff]
    intro a ha hq
    rw [hch, eh] at hq
    simp only [Bool.and_eq_true, Bool.not_eq_true', Bool.or_eq_false_iff] at hq
    have hm : a ∈ lkN s (LN k N) := List.mem_filter.2 ⟨ha, by rw [hq.1, hq.2.1]; rfl⟩
    have := List.any_eq_false.1 hq.2.2 a hm
    simp at this
  rw [e1, List.nil_append]
  refine List.filter_congr fun a ha => ?_
  rw [hch, eh]
  have e2 : ((lkN s (LN k N)).any fun b => decide (a.nu = b.nu)) = false := by
    rw [List.any_eq_false]
    intro b hb
    have := hx b (List.mem_filter.1 hb).1 a ha
    simp; omega
  rw [e2, Bool.or_false]
theorem lkN_app {s : ShtS} {n k : Nat} {N : Nat → NotS} (hk : k ≤ n) : lkN s (LN n N) = lkN s (LN k N) ++ lkN s ((LN n N).drop k) := by
  conv => lhs; rw [LN_take N hk]
  exact List.filter_append ..
theorem mk_v {s : ShtS} {n : Nat} {N : Nat → NotS} (h : MkE s n N = 0) : mkB s n N = true ∧ s.ed < 1000 ∧ shtB (MkS s n N) = true := by
  have hB : mkB s n N = true := by
    unfold MkE at h
    split at h
    · assumption
    · cases h
  have he : s.ed < 1000 := by
    unfold MkE at h
    rw [if_pos hB] at h
    split at h
    · cases h
    · omega
  have hs := mk_spl hB
  have g := mk_run hB he
  refine ⟨hB, he, ?_⟩
  rw [g.2 h]
  have h1 := sht_ed hs.1
  exact sht_re (okR_v _ hs.1 (g.1.1 h)) (by omega) (by omega)
theorem sev {s : ShtS} {n k : Nat} {N : Nat → NotS} (hk : k ≤ n) (he : s.ed < 999) : (MkE s k N = 0 ∧ MkE (MkS s k N) n N = 0 ↔ MkE s n N = 0) ∧ (MkE s n N = 0 → MkS (MkS s k N) n N = { MkS s n N with ed := (MkS s n N).ed + 1 } ∧ (MkS s k N).ed < 1000) := by
  by_cases hn : ntsB n N = true
  · by_cases hv : shtB s = true
    · have hB : mkB s n N = true := by unfold mkB; rw [hv, hn]; rfl
      have hBk : mkB s k N = true := by unfold mkB; rw [hv, nts_pre hn hk]; rfl
      have gn := mk_run hB (by omega)
      have gk := mk_run hBk (by omega)
      rw [lkN_app (s := s) (N := N) hk, okR_app, runS_app] at gn
      have h1 := sht_ed hv
      by_cases hk0 : MkE s k N = 0
      · have ok := gk.1.1 hk0
        have hV := okR_v _ hv ok
        have eF := gk.2 hk0
        have hF : shtB (MkS s k N) = true := (mk_v hk0).2.2
        have hBF : mkB (MkS s k N) n N = true := by unfold mkB; rw [hF, hn]; rfl
        have hed : (MkS s k N).ed = s.ed + 1 := by rw [eF]
        have gF := mk_run hBF (by omega)
        rw [hed] at gF
        rw [eF, lkN_two hn hk (s.ed + 1), okR_re (e := s.ed + 1) _ hV (by omega) (by omega), runS_re _ (runS s (lkN s (LN k N))) (s.ed + 1)] at gF
        rw [eF]
        refine ⟨⟨fun h => gn.1.2 ⟨ok, gF.1.1 h.2⟩, fun h => ⟨hk0, gF.1.2 (gn.1.1 h).2⟩⟩, fun h => ⟨?_, by show s.ed + 1 < 1000; omega⟩⟩
        rw [gF.2 (gF.1.2 (gn.1.1 h).2), gn.2 h]
      · have nn : MkE s n N ≠ 0 := fun h => hk0 (gk.1.2 (gn.1.1 h).1)
        exact ⟨⟨fun h => absurd h.1 hk0, fun h => absurd h nn⟩, fun h => absurd h nn⟩
    · have e1 : MkE s k N ≠ 0 := fun h => hv (mk_spl (mk_v h).1).1
      have e2 : MkE s n N ≠ 0 := fun h => hv (mk_spl (mk_v h).1).1
      exact ⟨⟨fun h => absurd h.1 e1, fun h => absurd h e2⟩, fun h => absurd h e2⟩
  · have e1 : MkE (MkS s k N) n N ≠ 0 := fun h => hn (mk_spl (mk_v h).1).2.1
    have e2 : MkE s n N ≠ 0 := fun h => hn (mk_spl (mk_v h).1).2.1
    exact ⟨⟨fun h => absurd h.2 e1, fun h => absurd h e2⟩, fun h => absurd h e2⟩
theorem sev_cp {a b : ShtS} (ha : shtB a = true) (hb : shtB b = true) (h : b = { a with ed := a.ed + 1 }) : CpE a b = 0 ∧ CpV a b = 0 := by
  have hB : CpB a b = true := by unfold CpB; rw [ha, hb]; rfl
  refine ⟨by unfold CpE; rw [if_pos hB], ?_⟩
  have := cp_like (a := a) (b := b) (c := { a with ed := b.ed }) rfl hB
  rw [show ({ a with ed := b.ed } : ShtS) = b by rw [h], seqB_r] at this
  exact of_decide_eq_true this
theorem sev_f (s : ShtS) (n : Nat) (N : Nat → NotS) (x : Int) (hs : s.Ok) (hn : n ≤ 9223372036854775807) (hN : ∀ i, i < n → (N i).Ok) (hf : fewB s n N = false) : CallsP Tryz.prog 6 [(shP s), .one (.lst 7 n (notF N)), .one (.g (.int .u8 x))] (.t (.one (.g (.bool (true))))) := by
  refine CallsP_of Tryz.func6 rfl (by rw [Tryz.ntmps6]; simp) ?_
  simp only [shP, Tryz.ntmps6, zM, PT.tv, argEnv, Nat.zero_add, Nat.reduceAdd]
  repeat' (first
 | ((with_reducible show AW _ _ _ _); first
 | (with_reducible first | refine aS (fun K hK => ?_) | refine aT ?_ | refine aC ?_)
 | ((with_reducible first | refine aP 0 [0,1,2] ?_ | refine aP 1 [1,2,3] ?_ | refine aP 2 [1,2,3,7] ?_ | refine aP 3 [7] ?_)))
 | (((with_reducible refine Need.mk ?_)); focus (exact True.intro))
 | (with_reducible refine retK_n ?_)
 | ((with_reducible show condN _ _ _ _ _ _); first
 | ((with_reducible refine condN_t ?_ ?_) <;> (intro hc; (try simp only [zB, zC, reduceCtorEq] at hc); (try (exfalso; contradiction)))))
 | ((with_reducible show callN _ _ _ _ _ _ _ _ _ _); first
 | (refine callN_q (k := 10) fnok_10 (head_p) ?_ ?_)
 | (refine callN_q (k := 11) fnok_11 (few_p s n N hs hn hN) ?_ ?_))
 | ((fail_if_success (with_reducible show AW _ _ _ _)); simp (maxSteps := 2000000) only [go_sem, reduceIte, reduceCtorEq, xA, xL, xD, xE, xM, xS, xB, Tryz.f6, hf, beq_self_eq_true, Bool.and_self, intI])
 | ((with_reducible refine hK _ ?_); clear hK K))
theorem sev_y (s : ShtS) (n : Nat) (N : Nat → NotS) (x : Int) (hs : s.Ok) (hn : n ≤ 9223372036854775807) (hN : ∀ i, i < n → (N i).Ok) (hf : fewB s n N = true) (hx : 0 ≤ x ∧ x ≤ 255) (k : Nat) (hk : x % ((n : Int) + 1) = (k : Int)) (hkn : k ≤ n) (hn10 : n ≤ 10) : CallsP Tryz.prog 6 [(shP s), .one (.lst 7 n (notF N)), .one (.g (.int .u8 x))] (.t (.one (.g (.bool (true))))) := by
  refine CallsP_of Tryz.func6 rfl (by rw [Tryz.ntmps6]; simp) ?_
  simp only [shP, Tryz.ntmps6, zM, PT.tv, argEnv, Nat.zero_add, Nat.reduceAdd]
  repeat' (first
 | ((with_reducible show AW _ _ _ _); first
 | (with_reducible first | refine aS (fun K hK => ?_) | refine aI ?_ | refine aT ?_ | refine aC ?_)
 | (first
 | (with_reducible first | refine aP 0 [0,1,2] ?_ | refine aP 1 [1,2,3] ?_ | refine aP 2 [1,2,3,7] ?_ | refine aP 3 [7] ?_ | refine aP 4 [1,2,3,7] ?_ | refine aP 5 [1,3,7,8] ?_)
 | ((with_reducible refine aR (c := Code.region 6 _ true) [1,3,7,8,9,10] ?_); (with_reducible refine aD ?_ ?_ ?_ ?_); (focus kernel_rfl); (focus kernel_rfl); (focus kernel_rfl))
 | (with_reducible first | refine aP 7 [1,7,9,10,11,12] ?_ | refine aP 8 [7,9,10,11,12,13,14] ?_ | refine aP 9 [7,10,11,12] ?_ | refine aP 10 [7,9,10,13] ?_ | refine aP 11 [7,9,10,13,15,16] ?_)))
 | ((first | (with_reducible refine And.intro ?_ ?_) | (with_reducible refine Need.mk ?_)); focus (first | exact True.intro | omega | (simp; done) | (simp; omega)))
 | (with_reducible refine retK_n ?_)
 | ((with_reducible show condN _ _ _ _ _ _); first
 | ((with_reducible refine condN_t ?_ ?_) <;> (intro hc; (try simp only [zB, zC, reduceCtorEq] at hc); (try (exfalso; contradiction)))))
 | ((with_reducible refine And.intro ?_ ?_); focus ((with_reducible show chkR _ _ _ = true); kernel_rfl))
 | ((with_reducible show callN _ _ _ _ _ _ _ _ _ _); first
 | (refine callN_q (k := 10) fnok_10 (head_p) ?_ ?_)
 | (refine callN_q (k := 11) fnok_11 (few_p s n N hs hn hN) ?_ ?_)
 | (refine callN_q (k := 21) fnok_21 (mk_p s n N hs hn hN) ?_ ?_)
 | (refine callN_q (k := 21) fnok_21 (mk_p (MkS s k N) n N (MkS_ok s k N) hn hN) ?_ ?_)
 | (refine callN_q (k := 29) fnok_29 (cp_p (MkS s n N) (MkS (MkS s k N) n N) (MkS_ok _ _ _) (MkS_ok _ _ _)) ?_ ?_))
 | ((with_reducible show callDN _ _ _ _ _ _ _ _ _ _ _ _ _); (refine callDN_q (k := 21) fnok_21 (mk_q s k N hs (by omega) (fun i _ => hN i (by omega)) _ (fun i o hi ho => IV.eqv_refl _)) ?_ ?_))
 | ((fail_if_success (with_reducible show AW _ _ _ _)); simp (maxSteps := 2000000) only [go_sem, reduceIte, reduceCtorEq, xA, xL, xD, xE, xM, xS, xB, Tryz.f6, hf, beq_self_eq_true, Bool.and_self, intI, hk])
 | ((fail_if_success (with_reducible show AW _ _ _ _)); simp (disch := omega) only [seaWrap, seaDiv, seaMod])
 | ((with_reducible refine hK _ ?_); clear hK K))
  all_goals first
    | (have g := sev (s := s) (N := N) hkn (by assumption)
       have e : MkE s n N ≠ 0 := fun h => by
         have := g.1.2 h
         rcases hc with k | k
         · exact k this.1
         · exact k this.2
       simp [e])
    | (have g := sev (s := s) (N := N) hkn (by assumption)
       have e := g.1.1 hc
       have hS := (g.2 e).1
       have hv := (mk_v e).2.2
       have h := sev_cp hv (mk_v hc.2).2.2 hS
       have hd := sht_ed hv
       have h5 : (MkS (MkS s k N) n N).ed = (MkS s n N).ed + 1 := by rw [hS]
       rw [e, h.1, h.2, h5]
       simp (disch := omega) only [seaWrap]
       simp)
theorem sev_law (s : ShtS) (n : Nat) (N : Nat → NotS) (x : Int) (hs : s.Ok) (hn : n ≤ 9223372036854775807) (hN : ∀ i, i < n → (N i).Ok) (hx : 0 ≤ x ∧ x ≤ 255) : CallsP Tryz.prog 6 [(shP s), .one (.lst 7 n (notF N)), .one (.g (.int .u8 x))] (.t (.one (.g (.bool (true))))) := by
  cases hf : fewB s n N with
  | false => exact sev_f s n N x hs hn hN hf
  | true =>
    have h := of_decide_eq_true hf
    have h1 := Int.emod_nonneg x (show ((n : Int) + 1) ≠ 0 by omega)
    have h2 := Int.emod_lt_of_pos x (show 0 < ((n : Int) + 1) by omega)
    exact sev_y s n N x hs hn hN hf hx (x % ((n : Int) + 1)).toNat (by omega) (by omega) h.2.2.1
end Go.Proofs.YtdhgiklbkmkblaaGreat
namespace Go.Proofs.YtdhgiklbkmkblaaGreat
open Go.RowKit Go.Sea
theorem fnok_116 : fnOk Tryz.prog 116 = true := by kernel_rfl
theorem fnok_117 : fnOk Tryz.prog 117 = true := by kernel_rfl
theorem fnok_118 : fnOk Tryz.prog 118 = true := by kernel_rfl
theorem fnok_75 : fnOk Tryz.prog 75 = true := by kernel_rfl
theorem fnok_76 : fnOk Tryz.prog 76 = true := by kernel_rfl
theorem fnok_77 : fnOk Tryz.prog 77 = true := by kernel_rfl
theorem mp_118 : mpD Tryz.prog 118 = some 4 := by kernel_rfl
theorem zp_4 : zPT Tryz.prog 4 = some (.one (.g (.bool false))) := by kernel_rfl
def setO (l : List Int) (k : Int) : Option PT := if l.contains k = true then some (.one (.g (.bool true))) else none
theorem setO_nil : setO [] = fun _ => none := rfl
theorem setO_t {l : List Int} {k : Int} (h : l.contains k = true) : setO l k = some (.one (.g (.bool true))) := by unfold setO; rw [if_pos h]
theorem setO_f {l : List Int} {k : Int} (h : l.contains k = false) : setO l k = none := by unfold setO; rw [if_neg (by rw [h]; simp)]
theorem setO_put (l : List Int) (k : Int) : mputF (setO l) k (.one (.g (.bool true))) = setO (l ++ [k]) := by
  funext j
  unfold mputF setO
  by_cases h : j = k
  · rw [if_pos h, if_pos (by simp [h])]
  · rw [if_neg h]
    have : (l ++ [k]).contains j = l.contains j := by
      rw [Bool.eq_iff_iff]; simp [h]
    rw [this]
theorem setO_len {l : List Int} {k : Int} {n : Nat} (h : l.contains k = false) : mputN n (setO l) k = n + 1 := by unfold mputN; rw [setO_f h]; rfl
theorem oeqv_rf2 : ∀ x : Option PT, oeqv x x
  | none => trivial
  | some x => PT.eqv_refl x
def nuL (l : List StepS) (i : Nat) : List Int := (List.range i).map fun j => (l.getD j stp0).nu
theorem nuL_0 (l : List StepS) : nuL l 0 = [] := rfl
theorem nuL_s (l : List StepS) (i : Nat) : nuL l (i + 1) = nuL l i ++ [(l.getD i stp0).nu] := by unfold nuL; rw [List.range_succ, List.map_append]; rfl
structure VS (l : List StepS) : Prop where
  n : l.length ≤ 200
  nu : ∀ i, i < l.length → 1 ≤ (l.getD i stp0).nu ∧ (l.getD i stp0).nu ≤ 10000
  r : ∀ i j, i < j → j < l.length → (l.getD i stp0).nu < (l.getD j stp0).nu
  q : ∀ i, i < l.length → (l.getD i stp0).q ≤ 200
  s : ∀ i, i < l.length → ∀ j, 0 < j → j < (l.getD i stp0).q → (l.getD i stp0).a (j - 1) < (l.getD i stp0).a j
  a : ∀ i, i < l.length → ∀ j, j < (l.getD i stp0).q → (nuL l i).contains ((l.getD i stp0).a j) = true
theorem nuL_mem {l : List StepS} {i : Nat} {x : Int} : (nuL l i).contains x = true ↔ ∃ j, j < i ∧ (l.getD j stp0).nu = x := by
  unfold nuL; simp
theorem VS.new {l : List StepS} (h : VS l) {i : Nat} (hi : i < l.length) : (nuL l i).contains (l.getD i stp0).nu = false := by
  cases e : (nuL l i).contains (l.getD i stp0).nu with
  | false => rfl
  | true =>
    obtain ⟨j, h1, h2⟩ := nuL_mem.1 e
    have := h.r j i h1 hi
    omega
theorem VS.last {l : List StepS} (h : VS l) {i : Nat} (hi : i < l.length) : lstP (fun j => (l.getD j stp0).nu) i < (l.getD i stp0).nu := by
  unfold lstP
  split
  · have := h.nu i hi; omega
  · exact h.r (i - 1) i (by omega) hi
def ordI (l : List StepS) (d : List Int) (i : Nat) : List Int := (nuL l i).filter fun x => !d.contains x
theorem ordI_0 (l : List StepS) (d : List Int) : ordI l d 0 = [] := rfl
theorem ordI_t {l : List StepS} {d : List Int} {i : Nat} (h : d.contains (l.getD i stp0).nu = false) : ordI l d (i + 1) = ordI l d i ++ [(l.getD i stp0).nu] := by
  unfold ordI; rw [nuL_s, List.filter_append]; congr 1; rw [List.filter_cons_of_pos (by rw [h]; rfl)]; rfl
theorem ordI_f {l : List StepS} {d : List Int} {i : Nat} (h : d.contains (l.getD i stp0).nu = true) : ordI l d (i + 1) = ordI l d i := by
  unfold ordI; rw [nuL_s, List.filter_append, List.filter_cons_of_neg (by rw [h]; simp)]; simp
theorem ordI_le (l : List StepS) (d : List Int) (i : Nat) : (ordI l d i).length ≤ i := by
  have := List.length_filter_le (fun x => !d.contains x) (nuL l i)
  simpa [ordI, nuL] using this
theorem ord_in {l : List StepS} (h : VS l) {d : List Int} {i : Nat} (hi : i < l.length) : (d ++ ordI l d i).contains (l.getD i stp0).nu = d.contains (l.getD i stp0).nu := by
  have e : (ordI l d i).contains (l.getD i stp0).nu = false := by
    cases g : (ordI l d i).contains (l.getD i stp0).nu with
    | false => rfl
    | true =>
      have hm : (l.getD i stp0).nu ∈ nuL l i := (List.mem_filter.1 (List.contains_iff_mem.1 g)).1
      have := h.new hi
      rw [List.contains_iff_mem.2 hm] at this; cases this
  rw [Bool.eq_iff_iff]
  simp only [List.contains_append, e, Bool.or_false]
structure DS (k : Nat) (d : Nat → Int) : Prop where
  kk : k ≤ 200
  r : ∀ i j, i < j → j < k → d i < d j
  b : ∀ i, i < k → 1 ≤ d i ∧ d i ≤ 10000
theorem liI_s (k : Nat) (d : Nat → Int) : liI (k + 1) d = liI k d ++ [d k] := by unfold liI; rw [List.range_succ, List.map_append]; rfl
theorem DS.new {k : Nat} {d : Nat → Int} (h : DS k d) {i : Nat} (hi : i < k) : (liI i d).contains (d i) = false := by
  rw [has_con]
  exact decide_eq_false fun ⟨j, h1, h2⟩ => by have := h.r j i h1 hi; omega
set_option maxRecDepth 100000 in
set_option maxHeartbeats 4000000 in
theorem fnum_p (x : Int) : CallsP Tryz.prog 116 [.one (.g (.int .i64 x))] (.t (.one (.g (.bool (decide (1 ≤ x ∧ x ≤ 10000)))))) := by
  refine CallsP_of Tryz.func116 rfl (by rw [Tryz.ntmps116]; simp) ?_
  simp only [Tryz.ntmps116, List.map_cons, List.map_nil, PT.tv, argEnv, Nat.zero_add, Nat.reduceAdd]
  repeat' (first
 | ((with_reducible show AW _ _ _ _); first
 | (with_reducible first | refine aS (fun K hK => ?_) | refine aI ?_ | refine aX ?_ | refine aT ?_ | refine aC ?_ | refine aB ?_)
 | ((with_reducible show AW _ (Code.region _ _ _) _ _); first
 | (with_reducible first | refine aP 0 [0] ?_ | refine aP 1 [0] ?_)))
 | ((first | (with_reducible refine And.intro ?_ ?_) | (with_reducible refine Need.mk ?_)); focus (first | exact True.intro | (with_reducible assumption) | omega | (refine ⟨?_, ?_⟩ <;> omega) | (intro _; first | exact True.intro | (with_reducible assumption) | omega) | (intros; (repeat' (first | exact True.intro | omega | (with_reducible assumption) | (with_reducible refine And.intro ?_ ?_))); done) | (simp (disch := omega) only [Bool.and_eq_true, Bool.or_eq_true, decide_eq_true_eq, bne_iff_ne, ne_eq] at *; first | done | omega | (intros; omega)) | (simp; done) | (simp; omega) | (simp +contextual; done) | (intro h; rw [h]; rfl) | (intro hq; have hq2 := hq; simp only [Bool.and_eq_true, Bool.or_eq_true, Bool.not_eq_true', Bool.not_not, Bool.not_eq_false', decide_eq_true_eq, decide_eq_false_iff_not] at hq2; (repeat' (first | exact hq | (with_reducible refine And.intro ?_ ?_) | omega | (simp_all; done))); done) | (intros; simp_all; done)))
 | (with_reducible refine retK_n ?_)
 | (with_reducible refine retK_n' ?_)
 | (with_reducible refine retH_n rfl rfl rfl ?_)
 | (with_reducible refine retH_n' rfl rfl rfl ?_)
 | ((with_reducible show condN _ _ _ _ _ _); first
 | ((with_reducible refine condN_t ?_ ?_) <;> (intro hc; (try simp only [Bool.and_eq_true, Bool.or_eq_true, Bool.not_eq_true', Bool.and_eq_false_iff, Bool.or_eq_false_iff, decide_eq_true_eq, decide_eq_false_iff_not, bne_iff_ne, beq_iff_eq, reduceCtorEq, bne_eq_false_iff_eq, beq_eq_false_iff_ne, Bool.not_eq_false', Int.not_le, Int.not_lt, Bool.not_not] at hc); (skip); (try (exfalso; first | contradiction | omega)))))
 | ((fail_if_success (with_reducible show AW _ _ _ _)); simp (maxSteps := 2000000) only [go_sem, reduceIte, reduceCtorEq, Nat.reduceAdd, Nat.reduceLT, Nat.reduceLeDiff, Nat.reduceEqDiff, Nat.reduceMul, Nat.reduceSub, Nat.reduceBEq, Tryz.f116])
 | ((with_reducible refine hK _ ?_); clear hK K))
  all_goals (first | (try refine Bool.eq_iff_iff.2 ?_); (simp only [Bool.and_eq_true, Bool.or_eq_true, Bool.not_eq_true', decide_eq_true_eq, decide_eq_false_iff_not, bne_iff_ne, beq_iff_eq, ne_eq, ge_iff_le, gt_iff_lt, cond_eq_ite, iff_self, eq_self]; first | done | omega) | skip)
set_option maxRecDepth 100000 in
set_option maxHeartbeats 4000000 in
theorem fris_p (q : Nat) (a : Nat → Int) (hq : q ≤ 1000000) (hr : ∀ j, 0 < j → j < q → a (j - 1) < a j) : CallsP Tryz.prog 117 [.one (.lst 1 q (intI a))] (.t (.one (.g (.bool (true))))) := by
  have hsx : True := trivial
  refine CallsP_of Tryz.func117 rfl (by rw [Tryz.ntmps117]; simp) ?_
  simp only [Tryz.ntmps117, List.map_cons, List.map_nil, PT.tv, argEnv, Nat.zero_add, Nat.reduceAdd]
  repeat' (first
 | ((with_reducible show AW _ _ _ _); first
 | (with_reducible first | refine aS (fun K hK => ?_) | refine aI ?_ | refine aX ?_ | refine aT ?_ | refine aC ?_ | refine aB ?_)
 | ((with_reducible show AW _ (Code.region _ _ _) _ _); first
 | (with_reducible first | refine aP 0 [0] ?_ | refine aP 1 [0] ?_ | refine aP 2 [0, 3] ?_ | refine aP 3 [0, 3] ?_)
 | ((with_reducible refine aR (c := Code.region 4 _ true) [0, 3] ?_); (with_reducible refine aD ?_ ?_ ?_ ?_); (focus kernel_rfl); (focus kernel_rfl); (focus kernel_rfl))
 | (with_reducible first | refine aP 5 [] ?_ | refine aP 6 [] ?_))
 | ((with_reducible show AW _ (Code.loop _) _ _); first
 | ((with_reducible refine aL (c := (Code.seq (Code.seq (Code.region 2 _ _) _) _)) (ι := Nat) [0] (fun j => [(3, iA .i64 ((j : Int) + 1))]) (fun j => []) (fun j => j + 1 ≤ q ∨ j = 0) (fun j => q - j) 0 ?lg2 ?l12 ?l22 ?li2 ?lr2); (case' lg2 => rintro j _); (case' li2 => try (exact Or.inr rfl)); (case' lr2 => rintro j hj KR hR2; skip; simp only [keepE, hupd, hset, lk, if_true, if_false, Nat.reduceEqDiff, reduceIte, List.cons_append, List.nil_append, intI, hsx]))))
 | ((first | (with_reducible refine And.intro ?_ ?_) | (with_reducible refine Need.mk ?_)); focus (first | exact True.intro | (with_reducible assumption) | omega | (refine ⟨?_, ?_⟩ <;> omega) | (intro _; first | exact True.intro | (with_reducible assumption) | omega) | (intros; (repeat' (first | exact True.intro | omega | (with_reducible assumption) | (with_reducible refine And.intro ?_ ?_))); done) | (simp (disch := omega) only [Bool.and_eq_true, Bool.or_eq_true, decide_eq_true_eq, bne_iff_ne, ne_eq] at *; first | done | omega | (intros; omega)) | (simp; done) | (simp; omega) | (simp +contextual; done) | (intro h; rw [h]; rfl) | (intro hq; have hq2 := hq; simp only [Bool.and_eq_true, Bool.or_eq_true, Bool.not_eq_true', Bool.not_not, Bool.not_eq_false', decide_eq_true_eq, decide_eq_false_iff_not] at hq2; (repeat' (first | exact hq | (with_reducible refine And.intro ?_ ?_) | omega | (simp_all; done))); done) | (intros; simp_all; done)))
 | (with_reducible refine retK_n ?_)
 | (with_reducible refine retK_n' ?_)
 | (with_reducible refine retH_n rfl rfl rfl ?_)
 | (with_reducible refine retH_n' rfl rfl rfl ?_)
 | ((with_reducible show condN _ _ _ _ _ _); first
 | ((with_reducible refine condN_t ?_ ?_) <;> (intro hc; (try simp only [Bool.and_eq_true, Bool.or_eq_true, Bool.not_eq_true', Bool.and_eq_false_iff, Bool.or_eq_false_iff, decide_eq_true_eq, decide_eq_false_iff_not, bne_iff_ne, beq_iff_eq, reduceCtorEq, bne_eq_false_iff_eq, beq_eq_false_iff_ne, Bool.not_eq_false', Int.not_le, Int.not_lt, Bool.not_not] at hc); ((try (have hsx : (((j : Int) + 1 - 1).toNat) = j := by omega)); (try (have hlt : a j < a (j + 1) := hr (j + 1) (by omega) (by omega)))); (try (exfalso; first | contradiction | omega)))))
 | ((with_reducible refine And.intro ?_ ?_); focus ((with_reducible show chkR _ _ _ = true); kernel_rfl))
 | ((with_reducible refine hR2 _ (j + 1) ?_); (try clear hR2 KR))
 | ((with_reducible refine Told.mk ?_); simp only [go_sem, reduceIte, reduceCtorEq, Nat.reduceAdd, Nat.reduceLT, Nat.reduceLeDiff, Nat.reduceEqDiff, Nat.reduceMul, Nat.reduceSub, Nat.reduceBEq, intI, hsx] <;> (first | exact True.intro | (((try simp (disch := omega) only [seaWrap, Int.natCast_add, Int.cast_ofNat_Int, and_true, true_and, and_self]); (repeat' (first | exact True.intro | omega | rfl | (with_reducible assumption) | (with_reducible refine And.intro ?_ ?_) | (exact all_succ (by assumption) (by assumption)) | ((exact rfl)) | ((exact Or.inl (by omega))))); done)) | (refine Stuck.out ?_)))
 | ((fail_if_success (with_reducible show AW _ _ _ _)); simp (maxSteps := 2000000) only [go_sem, reduceIte, reduceCtorEq, Nat.reduceAdd, Nat.reduceLT, Nat.reduceLeDiff, Nat.reduceEqDiff, Nat.reduceMul, Nat.reduceSub, Nat.reduceBEq, Tryz.f117, le_24, sl_24, ar_24, ty_3, intI, hsx])
 | ((fail_if_success (with_reducible show AW _ _ _ _)); simp (disch := omega) only [seaWrap, seaDiv, seaMod])
 | ((with_reducible refine hK _ ?_); clear hK K)
 | (with_reducible apply_assumption -exfalso only [*]))
set_option maxRecDepth 100000 in
set_option maxHeartbeats 4000000 in
theorem fdn_p (k : Nat) (d : Nat → Int) (h : DS k d) : CallsP Tryz.prog 76 [.one (.lst 1 k (intI d))] (.t (.one (.g (.bool (true))))) := by
  have hk := h.kk
  refine CallsP_of Tryz.func76 rfl (by rw [Tryz.ntmps76]; simp) ?_
  simp only [Tryz.ntmps76, List.map_cons, List.map_nil, PT.tv, argEnv, Nat.zero_add, Nat.reduceAdd]
  repeat' (first
 | ((with_reducible show AW _ _ _ _); first
 | (with_reducible first | refine aS (fun K hK => ?_) | refine aI ?_ | refine aX ?_ | refine aT ?_ | refine aC ?_ | refine aB ?_)
 | ((with_reducible show AW _ (Code.region _ _ _) _ _); first
 | (with_reducible first | refine aP 0 [0] ?_ | refine aP 1 [0] ?_)))
 | ((first | (with_reducible refine And.intro ?_ ?_) | (with_reducible refine Need.mk ?_)); focus (first | exact True.intro | (with_reducible assumption) | omega | (refine ⟨?_, ?_⟩ <;> omega) | (intro _; first | exact True.intro | (with_reducible assumption) | omega) | (intros; (repeat' (first | exact True.intro | omega | (with_reducible assumption) | (with_reducible refine And.intro ?_ ?_))); done) | (simp (disch := omega) only [Bool.and_eq_true, Bool.or_eq_true, decide_eq_true_eq, bne_iff_ne, ne_eq] at *; first | done | omega | (intros; omega)) | (simp; done) | (simp; omega) | (simp +contextual; done) | (intro h; rw [h]; rfl) | (intro hq; have hq2 := hq; simp only [Bool.and_eq_true, Bool.or_eq_true, Bool.not_eq_true', Bool.not_not, Bool.not_eq_false', decide_eq_true_eq, decide_eq_false_iff_not] at hq2; (repeat' (first | exact hq | (with_reducible refine And.intro ?_ ?_) | omega | (simp_all; done))); done) | (intros; simp_all; done)))
 | (with_reducible refine retK_n ?_)
 | (with_reducible refine retK_n' ?_)
 | (with_reducible refine retH_n rfl rfl rfl ?_)
 | (with_reducible refine retH_n' rfl rfl rfl ?_)
 | ((with_reducible show condN _ _ _ _ _ _); first
 | ((with_reducible refine condN_t ?_ ?_) <;> (intro hc; (try simp only [Bool.and_eq_true, Bool.or_eq_true, Bool.not_eq_true', Bool.and_eq_false_iff, Bool.or_eq_false_iff, decide_eq_true_eq, decide_eq_false_iff_not, bne_iff_ne, beq_iff_eq, reduceCtorEq, bne_eq_false_iff_eq, beq_eq_false_iff_ne, Bool.not_eq_false', Int.not_le, Int.not_lt, Bool.not_not] at hc); (skip); (try (exfalso; first | contradiction | omega)))))
 | ((with_reducible show callGN _ _ _ _ _ _ _ _ _ _); first
 | (refine callGN_q (k := 117) fnok_117 (fun hg => fris_p k d (by have := h.kk; omega) (fun j h0 h1 => h.r (j - 1) j (by omega) h1)) ?_ ?_))
 | ((fail_if_success (with_reducible show AW _ _ _ _)); simp (maxSteps := 2000000) only [go_sem, reduceIte, reduceCtorEq, Nat.reduceAdd, Nat.reduceLT, Nat.reduceLeDiff, Nat.reduceEqDiff, Nat.reduceMul, Nat.reduceSub, Nat.reduceBEq, Tryz.f76, le_24, fnok_117, sl_24, ar_24, ty_3, intI])
 | ((fail_if_success (with_reducible show AW _ _ _ _)); simp (disch := omega) only [seaWrap, seaDiv, seaMod])
 | ((with_reducible refine hK _ ?_); clear hK K))
  all_goals (first | exact decide_eq_true (by omega) | (rcases (by omega : k = 0 ∨ 0 < k) with e | e; · { subst e; rfl }; · { have b1 := (h.b 0 e).1; have b2 := (h.b (k - 1) (by omega)).2; simp [b1, b2]; omega }))
set_option maxRecDepth 100000 in
set_option maxHeartbeats 4000000 in
theorem fval_p (l : List StepS) (h : VS l) : CallsP Tryz.prog 75 [.one (.lst 2 l.length (stpF l))] (.t (.one (.g (.bool (true))))) := by
  have hn := h.n
  have hfk : True := trivial
  refine CallsP_of Tryz.func75 rfl (by rw [Tryz.ntmps75]; simp) ?_
  simp only [Tryz.ntmps75, List.map_cons, List.map_nil, PT.tv, argEnv, Nat.zero_add, Nat.reduceAdd]
  repeat' (first
 | ((with_reducible show callGN _ _ _ _ _ _ _ _ _ _); first
 | ((refine callGN_sq ?_ ?_) <;> (intro hc; (try rw [hc]); (try simp only [Bool.and_eq_true, Bool.or_eq_true, Bool.not_eq_true', Bool.and_eq_false_iff, Bool.or_eq_false_iff, decide_eq_true_eq, decide_eq_false_iff_not, bne_iff_ne, beq_iff_eq, reduceCtorEq, bne_eq_false_iff_eq, beq_eq_false_iff_ne, Bool.not_eq_false', Int.not_le, Int.not_lt, Bool.not_not] at hc); (try (exfalso; first | contradiction | omega))))
 | (refine callGN_q (k := 117) fnok_117 (fun hg => fris_p (l.getD i stp0).q (l.getD i stp0).a (by have := h.q i (by omega); omega) (h.s i (by omega))) ?_ ?_))
 | ((with_reducible show AW _ _ _ _); first
 | (with_reducible first | refine aS (fun K hK => ?_) | refine aI ?_ | refine aX ?_ | refine aT ?_ | refine aC ?_ | refine aB ?_)
 | ((with_reducible show AW _ (Code.region _ _ _) _ _); first
 | (with_reducible first | refine aP (ops := #[⟨some 2, _, _, _, _, _⟩]) 0 [0] ?_ | refine aP (ops := #[⟨some 4, _, _, _, _, _⟩]) 0 [0, 1] ?_ | refine aP (ops := #[⟨some 7, _, _, _, _, _⟩, _]) 1 [0] ?_ | refine aP (ops := #[⟨some 7, _, _, _, _, _⟩, _, _]) 1 [0, 1] ?_ | refine aP (ops := #[⟨some 4, _, _, _, _, _⟩]) 2 [0, 3] ?_ | refine aP (ops := #[⟨some 10, _, _, _, _, _⟩]) 2 [0, 7, 8, 9] ?_ | refine aP (ops := #[⟨some 8, _, _, _, _, _⟩, _, _]) 3 [0, 3, 4] ?_ | refine aP (ops := #[⟨some 11, _, _, _, _, _⟩, _, _]) 3 [0, 7, 8, 9] ?_ | refine aP (ops := #[⟨some 11, _, _, _, _, _⟩]) 4 [0, 3, 4, 8, 9, 10] ?_ | refine aP (ops := #[⟨some 13, _, _, _, _, _⟩, _, _, _]) 4 [0, 6, 7, 8, 9] ?_ | refine aP (ops := #[⟨some 12, _, _, _, _, _⟩, _, _, _]) 5 [0, 3, 4, 8, 9, 10] ?_ | refine aP (ops := #[⟨some 4, _, _, _, _, _⟩]) 5 [] ?_ | refine aP (ops := #[⟨some 14, _, _, _, _, _⟩, _, _, _, _, _, _, _, _, _, _, _, _, _, _, _, _, _, _, _, _, _, _]) 6 [0, 3, 4, 6, 8, 9, 10] ?_ | refine aP (ops := #[⟨some 17, _, _, _, _, _⟩, _]) 6 [0, 7, 8, 9] ?_ | refine aP (ops := #[⟨some 2, _, _, _, _, _⟩]) 7 [] ?_ | refine aP (ops := #[⟨some 4, _, _, _, _, _⟩]) 7 [] ?_ | refine aP 8 [0, 3, 6, 8, 9, 10] ?_ | refine aP 9 [0, 3, 4, 8, 9, 10] ?_ | refine aP 10 [0, 3, 4, 8, 9, 10] ?_ | refine aP 11 [0] ?_))
 | ((with_reducible show AW _ (Code.loop _) _ _); first
 | ((with_reducible refine aL (c := (Code.seq (Code.region 4 _ _) _)) (ι := Nat) [0, 3, 8, 9] (fun i => [(4, iA .i64 (lstP (fun j => (l.getD j stp0).nu) i)), (10, iA .i64 (i : Int))]) (fun i => [(0, [.mi none i (setO (nuL l i))])]) (fun i => i ≤ l.length) (fun i => l.length - i) 0 ?lg4 ?l14 ?l24 ?li4 ?lr4); (case' lg4 => rintro i _); (case' li4 => try (first | trivial | omega | (simp; done) | (simp; omega))); (case' lr4 => rintro i hi KR hR4; skip; simp only [keepE, hupd, hset, lk, if_true, if_false, Nat.reduceEqDiff, reduceIte, List.cons_append, List.nil_append, intI, stpF, stpG, hfk, setO_put, setO_nil, lstP_s]))
 | ((with_reducible refine aL (c := (Code.seq (Code.region 2 _ _) _)) (ι := Nat) [0, 7, 8] (fun j => [(9, iA .i64 (j : Int))]) (fun j => []) (fun j => j ≤ (l.getD i stp0).q) (fun j => (l.getD i stp0).q - j) 0 ?lg2 ?l12 ?l22 ?li2 ?lr2); (case' lg2 => rintro j _); (case' li2 => try (first | trivial | omega | (simp; done) | (simp; omega))); (case' lr2 => rintro j hj KR hR2; skip; simp only [keepE, hupd, hset, lk, if_true, if_false, Nat.reduceEqDiff, reduceIte, List.cons_append, List.nil_append, intI, stpF, stpG, hfk, setO_put, setO_nil, lstP_s]))))
 | ((first | (with_reducible refine And.intro ?_ ?_) | (with_reducible refine Need.mk ?_)); focus (first | exact True.intro | (with_reducible assumption) | omega | (refine ⟨?_, ?_⟩ <;> omega) | (intro _; first | exact True.intro | (with_reducible assumption) | omega) | (intros; (repeat' (first | exact True.intro | omega | (with_reducible assumption) | (with_reducible refine And.intro ?_ ?_))); done) | (simp (disch := omega) only [Bool.and_eq_true, Bool.or_eq_true, decide_eq_true_eq, bne_iff_ne, ne_eq] at *; first | done | omega | (intros; omega)) | (simp; done) | (simp; omega) | (simp +contextual; done) | (intro h; rw [h]; rfl) | (intro hq; have hq2 := hq; simp only [Bool.and_eq_true, Bool.or_eq_true, Bool.not_eq_true', Bool.not_not, Bool.not_eq_false', decide_eq_true_eq, decide_eq_false_iff_not] at hq2; (repeat' (first | exact hq | (with_reducible refine And.intro ?_ ?_) | omega | (simp_all; done))); done) | (intros; simp_all; done)))
 | (with_reducible refine retK_n ?_)
 | (with_reducible refine retK_n' ?_)
 | (with_reducible refine retH_n rfl rfl rfl ?_)
 | (with_reducible refine retH_n' rfl rfl rfl ?_)
 | ((with_reducible show condN _ _ _ _ _ _); first
 | ((with_reducible refine condN_t ?_ ?_) <;> (intro hc; (try simp only [Bool.and_eq_true, Bool.or_eq_true, Bool.not_eq_true', Bool.and_eq_false_iff, Bool.or_eq_false_iff, decide_eq_true_eq, decide_eq_false_iff_not, bne_iff_ne, beq_iff_eq, reduceCtorEq, bne_eq_false_iff_eq, beq_eq_false_iff_ne, Bool.not_eq_false', Int.not_le, Int.not_lt, Bool.not_not] at hc); ((try (clear hfk; have hfk := setO_t (h.a i (by omega) j (by omega)))); (try (have hq2 := h.q i (by omega); have hnu := h.nu i (by omega); have hnew := h.new (i := i) (by omega); have hla := h.last (i := i) (by omega)))); (try (exfalso; first | contradiction | omega)))))
 | ((with_reducible show callN _ _ _ _ _ _ _ _ _ _); first
 | (refine callN_q (k := 116) fnok_116 (fnum_p (l.getD i stp0).nu) ?_ ?_)
 | (refine callN_q (k := 117) fnok_117 (fris_p (l.getD i stp0).q (l.getD i stp0).a (by have := h.q i (by omega); omega) (h.s i (by omega))) ?_ ?_)
 | ((refine callN_i (k := 118) Tryz.func118 rfl fnok_118 (by rw [Tryz.ntmps118]; simp) ?_ ?_ (fun K hK => ?_)); (focus (first | exact True.intro | (with_reducible assumption) | omega | (refine ⟨?_, ?_⟩ <;> omega) | (intro _; first | exact True.intro | (with_reducible assumption) | omega) | (intros; (repeat' (first | exact True.intro | omega | (with_reducible assumption) | (with_reducible refine And.intro ?_ ?_))); done) | (simp (disch := omega) only [Bool.and_eq_true, Bool.or_eq_true, decide_eq_true_eq, bne_iff_ne, ne_eq] at *; first | done | omega | (intros; omega)) | (simp; done) | (simp; omega) | (simp +contextual; done) | (intro h; rw [h]; rfl) | (intro hq; have hq2 := hq; simp only [Bool.and_eq_true, Bool.or_eq_true, Bool.not_eq_true', Bool.not_not, Bool.not_eq_false', decide_eq_true_eq, decide_eq_false_iff_not] at hq2; (repeat' (first | exact hq | (with_reducible refine And.intro ?_ ?_) | omega | (simp_all; done))); done) | (intros; simp_all; done))); (focus (first | (simp [lsF]; done) | assumption | exact ⟨Nat.ne_of_lt (Nat.lt_succ_self _), by assumption⟩)); simp only [Tryz.ntmps118, List.map_cons, List.map_nil, List.nil_append, List.cons_append, List.append_nil, LV.tv, argEnv, Nat.zero_add, Nat.reduceAdd]))
 | ((with_reducible refine hR4 _ (i + 1) ?_); (try clear hR4 KR))
 | ((with_reducible refine hR2 _ (j + 1) ?_); (try clear hR2 KR))
 | ((with_reducible refine Told.mk ?_); simp only [go_sem, reduceIte, reduceCtorEq, Nat.reduceAdd, Nat.reduceLT, Nat.reduceLeDiff, Nat.reduceEqDiff, Nat.reduceMul, Nat.reduceSub, Nat.reduceBEq, intI, stpF, stpG, hfk, setO_put, setO_nil, lstP_s] <;> (first | exact True.intro | (((try simp (disch := omega) only [seaWrap, Int.natCast_add, Int.cast_ofNat_Int, and_true, true_and, and_self]); (repeat' (first | exact True.intro | omega | rfl | (with_reducible assumption) | (with_reducible refine And.intro ?_ ?_) | (exact all_succ (by assumption) (by assumption)) | ((exact rfl)) | ((exact Or.inr fun k => by rw [nuL_0]; exact oeqv_rf2 _)) | ((exact Or.inr ⟨setO_len hnew, fun k => by rw [nuL_s]; exact oeqv_rf2 _⟩)))); done)) | (((try simp (disch := omega) only [seaWrap, Int.natCast_add, Int.cast_ofNat_Int, and_true, true_and, and_self]); (repeat' (first | exact True.intro | omega | rfl | (with_reducible assumption) | (with_reducible refine And.intro ?_ ?_) | (exact all_succ (by assumption) (by assumption)) | ((exact rfl)))); done)) | (refine Stuck.out ?_)))
 | ((fail_if_success (with_reducible show AW _ _ _ _)); simp (maxSteps := 2000000) only [go_sem, reduceIte, reduceCtorEq, Nat.reduceAdd, Nat.reduceLT, Nat.reduceLeDiff, Nat.reduceEqDiff, Nat.reduceMul, Nat.reduceSub, Nat.reduceBEq, Tryz.f75, Tryz.f118, mp_118, le_38, sl_38, ar_38, ty_43, zc_43, of_43_0, ty_3, fnok_116, of_43_1, ty_24, fnok_117, fnok_118, le_24, sl_24, ar_24, zp_4, intI, stpF, stpG, hfk, setO_put, setO_nil, lstP_s])
 | ((fail_if_success (with_reducible show AW _ _ _ _)); simp (disch := omega) only [seaWrap, seaDiv, seaMod])
 | ((with_reducible refine hK _ ?_); clear hK K)
 | (with_reducible apply_assumption -exfalso only [*]))
  all_goals (exact decide_eq_true (by omega))
set_option maxRecDepth 100000 in
set_option maxHeartbeats 4000000 in
theorem ford_p (l : List StepS) (h : VS l) (k : Nat) (d : Nat → Int) (hd : DS k d) : CallsP Tryz.prog 38 [.one (.lst 2 l.length (stpF l)), .one (.lst 1 k (intI d))] (.tup [.one (.lst 1 (ordI l (liI k d) l.length).length (intI (zL (ordI l (liI k d) l.length)))), .one (.g (.int .i64 (0)))]) := by
  have hn := h.n
  have hk := hd.kk
  have hfk : True := trivial
  have mk0 : True := trivial
  have mk1 : True := trivial
  refine CallsP_of Tryz.func38 rfl (by rw [Tryz.ntmps38]; simp) ?_
  simp only [Tryz.ntmps38, List.map_cons, List.map_nil, PT.tv, argEnv, Nat.zero_add, Nat.reduceAdd]
  repeat' (first
 | ((with_reducible show AW _ _ _ _); first
 | (with_reducible first | refine aS (fun K hK => ?_) | refine aI ?_ | refine aX ?_ | refine aT ?_ | refine aC ?_ | refine aB ?_)
 | ((with_reducible show AW _ (Code.region _ _ _) _ _); first
 | (with_reducible first | refine aP (ops := #[⟨some 4, _, _, _, _, _⟩, _]) 0 [0, 1] ?_ | refine aP (ops := #[⟨some 2, _, _, _, _, _⟩]) 0 [0] ?_ | refine aP (ops := #[⟨some 10, _, _, _, _, _⟩, _, _, _, _, _, _, _]) 1 [0, 1] ?_ | refine aP (ops := #[⟨some 6, _, _, _, _, _⟩, _]) 1 [0] ?_ | refine aP (ops := #[⟨some 4, _, _, _, _, _⟩, _]) 2 [] ?_ | refine aP (ops := #[⟨some 7, _, _, _, _, _⟩, _, _]) 2 [0, 3] ?_ | refine aP (ops := #[⟨some 18, _, _, _, _, _⟩, _, _]) 3 [0, 1] ?_ | refine aP (ops := #[⟨some 10, _, _, _, _, _⟩]) 3 [3, 7, 8, 9] ?_ | refine aP (ops := #[⟨some 7, _, _, _, _, _⟩]) 4 [0, 6] ?_ | refine aP (ops := #[⟨some 11, _, _, _, _, _⟩, _, _]) 4 [3, 7, 8, 9] ?_ | refine aP (ops := #[⟨some 20, _, _, _, _, _⟩, _, _]) 5 [0, 6, 7] ?_ | refine aP (ops := #[⟨some 13, _, _, _, _, _⟩, _, _]) 5 [3, 5, 7, 8, 9] ?_ | refine aP (ops := #[⟨some 23, _, _, _, _, _⟩]) 6 [6, 7, 20, 21, 22] ?_ | refine aP (ops := #[⟨some 15, _, _, _, _, _⟩, _]) 6 [3, 7, 8, 9] ?_ | refine aP (ops := #[⟨some 24, _, _, _, _, _⟩, _, _, _]) 7 [6, 7, 20, 21, 22] ?_ | refine aP (ops := #[⟨some 16, _, _, _, _, _⟩, _]) 7 [3] ?_ | refine aP 8 [6, 7, 9, 20, 21, 22] ?_ | refine aP 9 [6, 7, 9, 20, 21, 22] ?_ | refine aP 10 [6, 7, 9, 20, 21, 22] ?_ | refine aP 11 [6, 7, 20, 21, 22] ?_ | refine aP 12 [7] ?_))
 | ((with_reducible show AW _ (Code.loop _) _ _); first
 | ((with_reducible refine aL (c := (Code.seq (Code.region 3 _ _) _)) (ι := Nat) [3, 7, 8] (fun u => [(9, iA .i64 (u : Int))]) (fun u => [(0, [.mi none u (setO (liI u d))])]) (fun u => u ≤ k) (fun u => k - u) 0 ?lg3 ?l13 ?l23 ?li3 ?lr3); (case' lg3 => rintro u _); (case' li3 => try (first | trivial | omega | (simp; done) | (simp; omega))); (case' lr3 => rintro u hu KR hR3; skip; simp only [keepE, hupd, hset, lk, if_true, if_false, Nat.reduceEqDiff, reduceIte, List.cons_append, List.nil_append, intI, stpF, stpG, hfk, setO_put, setO_nil, ordI_0, rowI_pur, rowI_snoc, rowI_len, maxLen, List.append_nil, List.length_append, List.length_cons, List.length_nil]))
 | ((with_reducible refine aL (c := (Code.seq (Code.region 6 _ _) _)) (ι := Nat) [6, 20, 21] (fun i => [(7, .t (.one (.slc 1 0 (ordI l (liI k d) i).length 1))), (22, iA .i64 (i : Int))]) (fun i => [(0, [.mi none (k + (ordI l (liI k d) i).length) (setO ((liI k d) ++ (ordI l (liI k d) i)))]), (1, rowI (ordI l (liI k d) i))]) (fun i => i ≤ l.length) (fun i => l.length - i) 0 ?lg6 ?l16 ?l26 ?li6 ?lr6); (case' lg6 => rintro i _); (case' li6 => try (first | trivial | omega | (simp; done) | (simp; omega))); (case' lr6 => rintro i hi KR hR6; skip; simp only [keepE, hupd, hset, lk, if_true, if_false, Nat.reduceEqDiff, reduceIte, List.cons_append, List.nil_append, intI, stpF, stpG, hfk, setO_put, setO_nil, ordI_0, rowI_pur, rowI_snoc, rowI_len, maxLen, List.append_nil, List.length_append, List.length_cons, List.length_nil]))))
 | ((first | (with_reducible refine And.intro ?_ ?_) | (with_reducible refine Need.mk ?_)); focus (first | exact True.intro | (with_reducible assumption) | omega | (refine ⟨?_, ?_⟩ <;> omega) | (intro _; first | exact True.intro | (with_reducible assumption) | omega) | (intros; (repeat' (first | exact True.intro | omega | (with_reducible assumption) | (with_reducible refine And.intro ?_ ?_))); done) | (simp (disch := omega) only [Bool.and_eq_true, Bool.or_eq_true, decide_eq_true_eq, bne_iff_ne, ne_eq] at *; first | done | omega | (intros; omega)) | (simp; done) | (simp; omega) | (simp +contextual; done) | (intro h; rw [h]; rfl) | (intro hq; have hq2 := hq; simp only [Bool.and_eq_true, Bool.or_eq_true, Bool.not_eq_true', Bool.not_not, Bool.not_eq_false', decide_eq_true_eq, decide_eq_false_iff_not] at hq2; (repeat' (first | exact hq | (with_reducible refine And.intro ?_ ?_) | omega | (simp_all; done))); done) | (intros; simp_all; done)))
 | (with_reducible refine retK_n ?_)
 | (with_reducible refine retK_n' ?_)
 | (with_reducible refine retH_n rfl rfl rfl ?_)
 | (with_reducible refine retH_n' rfl rfl rfl ?_)
 | ((with_reducible show condN _ _ _ _ _ _); first
 | ((with_reducible refine condN_t ?_ ?_) <;> (intro hc; (try simp only [Bool.and_eq_true, Bool.or_eq_true, Bool.not_eq_true', Bool.and_eq_false_iff, Bool.or_eq_false_iff, decide_eq_true_eq, decide_eq_false_iff_not, bne_iff_ne, beq_iff_eq, reduceCtorEq, bne_eq_false_iff_eq, beq_eq_false_iff_ne, Bool.not_eq_false', Int.not_le, Int.not_lt, Bool.not_not] at hc); ((try (clear mk0; have hdn := hd.new (i := u) (by omega))); (try (have e0 : k = u := (by omega); subst e0)); (try (clear mk1; clear hfk; have oL := ordI_le l (liI k d) i; have hoi := ord_in h (d := (liI k d)) (i := i) (by omega); cases hq : (liI k d).contains (l.getD i stp0).nu; all_goals (first | (have hfk := setO_t (hoi.trans hq)) | (have hfk := setO_f (hoi.trans hq))))); (try (have e0 : i = l.length := (by omega); subst e0))); (try (exfalso; first | contradiction | omega)))))
 | ((with_reducible show callN _ _ _ _ _ _ _ _ _ _); first
 | (refine callN_q (k := 75) fnok_75 (fval_p l h) ?_ ?_)
 | (refine callN_q (k := 76) fnok_76 (fdn_p k d hd) ?_ ?_)
 | ((refine callN_i (k := 77) Tryz.func77 rfl fnok_77 (by rw [Tryz.ntmps77]; simp) ?_ ?_ (fun K hK => ?_)); (focus (first | exact True.intro | (with_reducible assumption) | omega | (refine ⟨?_, ?_⟩ <;> omega) | (intro _; first | exact True.intro | (with_reducible assumption) | omega) | (intros; (repeat' (first | exact True.intro | omega | (with_reducible assumption) | (with_reducible refine And.intro ?_ ?_))); done) | (simp (disch := omega) only [Bool.and_eq_true, Bool.or_eq_true, decide_eq_true_eq, bne_iff_ne, ne_eq] at *; first | done | omega | (intros; omega)) | (simp; done) | (simp; omega) | (simp +contextual; done) | (intro h; rw [h]; rfl) | (intro hq; have hq2 := hq; simp only [Bool.and_eq_true, Bool.or_eq_true, Bool.not_eq_true', Bool.not_not, Bool.not_eq_false', decide_eq_true_eq, decide_eq_false_iff_not] at hq2; (repeat' (first | exact hq | (with_reducible refine And.intro ?_ ?_) | omega | (simp_all; done))); done) | (intros; simp_all; done))); (focus (first | (simp [lsF]; done) | assumption | exact ⟨Nat.ne_of_lt (Nat.lt_succ_self _), by assumption⟩)); simp only [Tryz.ntmps77, List.map_cons, List.map_nil, List.nil_append, List.cons_append, List.append_nil, LV.tv, argEnv, Nat.zero_add, Nat.reduceAdd]))
 | ((with_reducible show callGN _ _ _ _ _ _ _ _ _ _); first
 | (refine callGN_q (k := 76) fnok_76 (fun hg => fdn_p k d hd) ?_ ?_))
 | ((with_reducible refine hR3 _ (u + 1) ?_); (try clear hR3 KR))
 | ((with_reducible refine hR6 _ (i + 1) ?_); (try clear hR6 KR))
 | ((with_reducible refine Told.mk ?_); simp only [go_sem, reduceIte, reduceCtorEq, Nat.reduceAdd, Nat.reduceLT, Nat.reduceLeDiff, Nat.reduceEqDiff, Nat.reduceMul, Nat.reduceSub, Nat.reduceBEq, intI, stpF, stpG, hfk, setO_put, setO_nil, ordI_0, rowI_pur, rowI_snoc, rowI_len, maxLen, List.append_nil, List.length_append, List.length_cons, List.length_nil] <;> (first | exact True.intro | (((try simp (disch := omega) only [seaWrap, Int.natCast_add, Int.cast_ofNat_Int, and_true, true_and, and_self]); (repeat' (first | exact True.intro | omega | rfl | (with_reducible assumption) | (with_reducible refine And.intro ?_ ?_) | (exact all_succ (by assumption) (by assumption)) | ((exact rfl)) | ((exact Or.inr fun k => oeqv_rf2 _)) | ((exact Or.inr ⟨setO_len hdn, fun k => by rw [liI_s]; exact oeqv_rf2 _⟩)))); done)) | (((try simp (disch := omega) only [seaWrap, Int.natCast_add, Int.cast_ofNat_Int, and_true, true_and, and_self]); (repeat' (first | exact True.intro | omega | rfl | (with_reducible assumption) | (with_reducible refine And.intro ?_ ?_) | (exact all_succ (by assumption) (by assumption)) | ((exact rfl)) | ((exact Or.inr ⟨(by rw [setO_len (hoi.trans hq), ordI_t hq]; simp; omega), fun k => by rw [ordI_t hq, ← List.append_assoc]; exact oeqv_rf2 _⟩)) | ((exact Or.inr ⟨(by rw [ordI_f hq]), fun k => by rw [ordI_f hq]; exact oeqv_rf2 _⟩)) | ((first | rw [ordI_t hq] | rw [ordI_f hq])) | ((exact wkC_eq rfl (rowI_iv _))) | ((simp only [List.length_append, List.length_cons, List.length_nil, Nat.zero_add]; done)))); done)) | (refine Stuck.out ?_)))
 | ((fail_if_success (with_reducible show AW _ _ _ _)); simp (maxSteps := 2000000) only [go_sem, reduceIte, reduceCtorEq, Nat.reduceAdd, Nat.reduceLT, Nat.reduceLeDiff, Nat.reduceEqDiff, Nat.reduceMul, Nat.reduceSub, Nat.reduceBEq, Tryz.f38, Tryz.f77, fnok_75, fnok_76, fnok_77, le_38, sl_38, ar_38, ty_43, zc_43, of_43_0, ty_3, mp_118, zp_4, sl_24, zc_3, le_24, ar_24, intI, stpF, stpG, hfk, setO_put, setO_nil, ordI_0, rowI_pur, rowI_snoc, rowI_len, maxLen, List.append_nil, List.length_append, List.length_cons, List.length_nil])
 | ((fail_if_success (with_reducible show AW _ _ _ _)); simp (disch := omega) only [seaWrap, seaDiv, seaMod])
 | ((with_reducible refine hK _ ?_); clear hK K)
 | (with_reducible apply_assumption -exfalso only [*]))
  all_goals (first | (exact ⟨⟨fun c hc9 => (by have := rowI_iv _ c hc9; cases c <;> first | trivial | exact this.elim), fun i o hi ho => row_zL _ i o hi ho⟩, rfl⟩) | (exact ⟨fun c hc9 => (by have := rowI_iv _ c hc9; cases c <;> first | trivial | exact this.elim), fun i o hi ho => row_zL _ i o hi ho⟩) | skip)
end Go.Proofs.YtdhgiklbkmkblaaGreat
namespace Go.Proofs.YtdhgiklbkmkblaaGreat
open Go.RowKit Go.Sea
theorem fnok_38 : fnOk Tryz.prog 38 = true := by kernel_rfl
theorem cnI_flt (N : Nat → NotS) (ch : Int) : ∀ i, cnI N ch i = (List.range i).filter fun j => cncB (N j) ch
  | 0 => rfl
  | i + 1 => by
    rw [List.range_succ, List.filter_append, ← cnI_flt N ch i]
    show (if _ then _ else _) = _
    by_cases h : cncB (N i) ch = true
    · rw [if_pos h]; congr 1; simp [h]
    · rw [if_neg h]; simp [h]
theorem cnI_at {N : Nat → NotS} {ch : Int} {n i : Nat} (h : i < (cnI N ch n).length) : (cnI N ch n)[i] < n ∧ cncB (N ((cnI N ch n)[i])) ch = true := by
  have hm : (cnI N ch n)[i] ∈ (List.range n).filter fun j => cncB (N j) ch := by rw [← cnI_flt]; exact List.getElem_mem h
  have := List.mem_filter.1 hm
  exact ⟨List.mem_range.1 this.1, this.2⟩
theorem cnI_rise (N : Nat → NotS) (ch : Int) (n : Nat) : (cnI N ch n).Pairwise (· < ·) := by rw [cnI_flt]; exact List.Pairwise.filter _ List.pairwise_lt_range
theorem cnI_lt {N : Nat → NotS} {ch : Int} {n i j : Nat} (h : j < (cnI N ch n).length) (hij : i < j) : (cnI N ch n)[i] < (cnI N ch n)[j] := List.pairwise_iff_getElem.1 (cnI_rise N ch n) i j (by omega) h hij
theorem stpL_at {N : Nat → NotS} {ch : Int} {ns : List Int} {n i : Nat} (h : i < (cnI N ch n).length) : (stpL N ch ns n).getD i stp0 = stpO ns (N ((cnI N ch n)[i])) (prt (N ((cnI N ch n)[i])) ch) := by
  unfold stpL; rw [List.getD, List.getElem?_map, List.getElem?_eq_getElem h]; rfl
theorem keepL_flt (ns : List Int) (a : Nat → Int) : ∀ j, keepL ns a j = ((List.range j).map a).filter ns.contains
  | 0 => rfl
  | j + 1 => by
    rw [List.range_succ, List.map_append, List.filter_append, ← keepL_flt ns a j]
    show (if _ then _ else _) = _
    by_cases h : ns.contains (a j) = true
    · rw [if_pos h]; congr 1; show _ = List.filter _ [a j]; rw [List.filter_cons_of_pos h]; rfl
    · rw [if_neg h]; show _ = _ ++ List.filter _ [a j]; rw [List.filter_cons_of_neg h]; simp
theorem prt_O {N : NotS} {ch : Int} (h : notB N = true) (hb : prtB N ch = true) : partO (prt N ch) N.nu := by
  have := (of_decide_eq_true h).2 _ (of_decide_eq_true hb)
  exact of_decide_eq_true this.2
theorem rise_lt {a : Nat → Int} {nu : Int} {q : Nat} (h : ∀ i, i < q → aftO a nu i) : ∀ i j, i < j → j < q → a i < a j := fun i j hij hj => by
  induction j with
  | zero => omega
  | succ j ih =>
    have h1 := (h (j + 1) hj).2.2 (by omega)
    rw [Nat.add_sub_cancel] at h1
    rcases Nat.lt_or_ge i j with g | g
    · have := ih g (by omega); omega
    · obtain rfl : i = j := by omega
      exact h1
theorem zL_lt {l : List Int} (h : l.Pairwise (· < ·)) {i j : Nat} (hij : i < j) (hj : j < l.length) : zL l i < zL l j := by
  have := List.pairwise_iff_getElem.1 h i j (by omega) hj hij
  unfold zL
  rw [List.getD, List.getD, List.getElem?_eq_getElem (by omega), List.getElem?_eq_getElem hj]; exact this
theorem zL_mem {l : List Int} {i : Nat} (h : i < l.length) : zL l i ∈ l := by
  unfold zL; rw [List.getD, List.getElem?_eq_getElem h]; exact List.getElem_mem h
theorem VS_St {n : Nat} {N : Nat → NotS} {ch : Int} (h : ntsB n N = true) : VS (stpL N ch (numL N ch n) n) := by
  have hn := (nts_n h).1
  have hN := (nts_n h).2
  have hl := stpL_len N ch (numL N ch n) n
  have hle := cnI_le N ch n
  have hb : ∀ {i} (hi : i < (cnI N ch n).length), notB (N ((cnI N ch n)[i])) = true := fun hi => (hN _ (cnI_at hi).1).1
  have hp : ∀ {i} (hi : i < (cnI N ch n).length), partO (prt (N ((cnI N ch n)[i])) ch) (N ((cnI N ch n)[i])).nu := fun hi => prt_O (hb hi) (by
    have := (cnI_at hi).2; unfold cncB at this; simp only [Bool.and_eq_true] at this; exact this.2)
  refine ⟨by omega, fun i hi => ?_, fun i j hij hj => ?_, fun i hi => ?_, fun i hi j h0 hj => ?_, fun i hi j hj => ?_⟩
  · rw [stpL_at (by omega)]; exact not_nu (hb (by omega))
  · rw [stpL_at (by omega), stpL_at (by omega)]
    exact nts_rise hN _ (cnI_lt (by omega) hij) (cnI_at (by omega)).1
  · rw [stpL_at (by omega)]
    have h1 := (hp (i := i) (by omega)).1.2.1
    have h2 := keepL_le (numL N ch n) (prt (N ((cnI N ch n)[i])) ch).a (prt (N ((cnI N ch n)[i])) ch).q
    show (keepL _ _ _).length ≤ 200
    omega
  · rw [stpL_at (by omega)] at hj ⊢
    have h1 := (hp (i := i) (by omega)).2.1
    refine zL_lt ?_ (by omega) hj
    rw [keepL_flt]
    refine List.Pairwise.filter _ ?_
    rw [List.pairwise_map]
    refine List.Pairwise.imp_of_mem ?_ List.pairwise_lt_range
    intro x y hx hy hxy
    exact rise_lt h1 x y hxy (List.mem_range.1 hy)
  · rw [stpL_at (by omega)] at hj ⊢
    have h1 := (hp (i := i) (by omega)).2.1
    have hm : zL (keepL (numL N ch n) (prt (N ((cnI N ch n)[i])) ch).a (prt (N ((cnI N ch n)[i])) ch).q) j ∈ _ := zL_mem hj
    show (nuL _ i).contains (zL (keepL _ _ _) j) = true
    generalize zL (keepL (numL N ch n) (prt (N ((cnI N ch n)[i])) ch).a (prt (N ((cnI N ch n)[i])) ch).q) j = z at hm ⊢
    rw [keepL_flt] at hm
    obtain ⟨h2, h3⟩ := List.mem_filter.1 hm
    obtain ⟨k, h4, h5⟩ := List.mem_map.1 h2
    have h6 := (h1 k (List.mem_range.1 h4)).2.1
    have h3 := List.contains_iff_mem.1 h3
    unfold numL at h3
    obtain ⟨v, h7, h8⟩ := List.mem_map.1 h3
    obtain ⟨m, hm, h9⟩ := List.getElem_of_mem h7
    rw [nuL_mem]
    have hmi : m < i := by
      rcases Nat.lt_or_ge m i with g | g
      · exact g
      · exfalso
        have : (N ((cnI N ch n)[i])).nu ≤ (N ((cnI N ch n)[m])).nu := by
          rcases Nat.lt_or_ge i m with g2 | g2
          · exact Int.le_of_lt (nts_rise hN _ (cnI_lt hm g2) (cnI_at hm).1)
          · obtain rfl : i = m := by omega
            exact Int.le_refl _
        subst h9
        omega
    refine ⟨m, hmi, ?_⟩
    rw [stpL_at hm]
    show (N _).nu = _
    rw [h9, h8]
def dnL (l : List StepS) (s : ShtS) (i : Nat) : List Int := (nuL l i).filter fun x => hasL s.q s.dn x
theorem dnL_0 (l : List StepS) (s : ShtS) : dnL l s 0 = [] := rfl
theorem dnL_t {l : List StepS} {s : ShtS} {i : Nat} (h : hasL s.q s.dn (l.getD i stp0).nu = true) : dnL l s (i + 1) = dnL l s i ++ [(l.getD i stp0).nu] := by
  unfold dnL; rw [nuL_s, List.filter_append]; congr 1; rw [List.filter_cons_of_pos (by exact h)]; rfl
theorem dnL_f {l : List StepS} {s : ShtS} {i : Nat} (h : hasL s.q s.dn (l.getD i stp0).nu = false) : dnL l s (i + 1) = dnL l s i := by
  unfold dnL; rw [nuL_s, List.filter_append, List.filter_cons_of_neg (by rw [h]; simp)]; simp
theorem dnL_le (l : List StepS) (s : ShtS) (i : Nat) : (dnL l s i).length ≤ i := by
  have := List.length_filter_le (fun x => hasL s.q s.dn x) (nuL l i)
  simpa [dnL, nuL] using this
theorem nuL_rise {l : List StepS} (h : VS l) {i : Nat} (hi : i ≤ l.length) : (nuL l i).Pairwise (· < ·) := by
  unfold nuL
  rw [List.pairwise_map]
  refine List.Pairwise.imp_of_mem ?_ List.pairwise_lt_range
  intro x y hx hy hxy
  exact h.r x y hxy (by have := List.mem_range.1 hy; omega)
theorem DS_dn {l : List StepS} (h : VS l) (s : ShtS) {m : Nat} (hm : m ≤ l.length) : DS (dnL l s m).length (zL (dnL l s m)) := by
  have hn := h.n
  have hle := dnL_le l s m
  refine ⟨by omega, fun i j hij hj => zL_lt (List.Pairwise.filter _ (nuL_rise h hm)) hij hj, fun i hi => ?_⟩
  have := zL_mem hi
  have := (List.mem_filter.1 this).1
  obtain ⟨j, h1, h2⟩ := nuL_mem.1 (List.contains_iff_mem.2 this)
  have := h.nu j (by omega)
  omega
theorem liI_zL (l : List Int) : liI l.length (zL l) = l := by
  refine List.ext_getElem (by simp [liI]) fun i h1 h2 => ?_
  simp only [liI, List.getElem_map, List.getElem_range]
  unfold zL; rw [List.getD, List.getElem?_eq_getElem h2]; rfl
theorem nuL_St {n : Nat} {N : Nat → NotS} {ch : Int} (ns : List Int) : nuL (stpL N ch ns n) (stpL N ch ns n).length = numL N ch n := by
  have hl := stpL_len N ch ns n
  refine List.ext_getElem (by simp [nuL, numL, hl]) fun i h1 h2 => ?_
  have hi : i < (cnI N ch n).length := by simpa [numL] using h2
  simp only [nuL, numL, List.getElem_map, List.getElem_range]
  rw [stpL_at hi]; rfl
theorem num_lak {s : ShtS} {n : Nat} {N : Nat → NotS} : (numL N s.ch n).filter (fun x => !hasL s.q s.dn x) = lakL s N n := by
  rw [lakL_L]; unfold numL LN; rw [cnI_flt, List.filter_map, List.filter_map, List.filter_filter, List.map_map]
  congr 1
  refine List.filter_congr fun x _ => ?_
  show (!hasL s.q s.dn (N x).nu && cncB (N x) s.ch) = (cncB (N x) s.ch && !hasL s.q s.dn (N x).nu)
  exact Bool.and_comm _ _
theorem ord_lak {s : ShtS} {n : Nat} {N : Nat → NotS} {l : List StepS} (hl : l = stpL N s.ch (numL N s.ch n) n) : ordI l (liI (dnL l s l.length).length (zL (dnL l s l.length))) l.length = lakL s N n := by
  rw [liI_zL]
  unfold ordI
  have e : (nuL l l.length).filter (fun x => !(dnL l s l.length).contains x) = (nuL l l.length).filter (fun x => !hasL s.q s.dn x) := by
    refine List.filter_congr fun x hx => ?_
    congr 1
    rw [Bool.eq_iff_iff, List.contains_iff_mem]
    unfold dnL
    rw [List.mem_filter]
    exact ⟨fun h => h.2, fun h => ⟨hx, h⟩⟩
  rw [e, hl, nuL_St, num_lak]
theorem up_all {n : Nat} {N : Nat → NotS} (h : ntsB n N = true) : upL N 10001 n = if n = 0 then 0 else (N (n - 1)).nu := by
  cases n with
  | zero => rfl
  | succ n => rw [upL_t (nu_lt h (Nat.lt_succ_self n)), if_neg (by omega), Nat.add_sub_cancel]
theorem made_no {s : ShtS} {n : Nat} {N : Nat → NotS} (h : MkE s n N ≠ 0) : shtB (MkS s n N) = false := by
  have h0 : shtB sht0 = false := by decide +kernel
  unfold MkE at h
  unfold MkS
  split
  · rename_i hB
    rw [if_pos hB] at h
    split
    · exact h0
    · rename_i h9
      rw [if_neg h9] at h
      rw [mkF_e h]; exact h0
  · exact h0
theorem sev_cq {a b : ShtS} (ha : shtB a = true) (hb : shtB b = true) (h : a = { b with ed := b.ed + 1 }) : CpE a b = 0 ∧ CpV a b = 0 := by
  have hB : CpB a b = true := by unfold CpB; rw [ha, hb]; rfl
  refine ⟨by unfold CpE; rw [if_pos hB], ?_⟩
  have := cp_like (a := a) (b := b) (c := { a with ed := b.ed }) rfl hB
  rw [show ({ a with ed := b.ed } : ShtS) = b by rw [h], seqB_r] at this
  exact of_decide_eq_true this
structure Made (s : ShtS) (n : Nat) (N : Nat → NotS) : Prop where
  nx : NxE (MkS s n N) n N = 4
  ue : UpE (MkS s n N) n N = 0
  uv : UpV (MkS s n N) n N = if n = 0 then 0 else (N (n - 1)).nu
  se : StE n N s.ch = 0
  sl : StL n N s.ch = stpL N s.ch (numL N s.ch n) n
  vs : VS (StL n N s.ch)
  ce : CorE s n N (lakL s N n).length (zL (lakL s N n)) = 0
  ci : CorI s n N (lakL s N n).length (zL (lakL s N n)) = -1
  pe : CpE (CorS s n N (lakL s N n).length (zL (lakL s N n))) (MkS s n N) = 0
  pv : CpV (CorS s n N (lakL s N n).length (zL (lakL s N n))) (MkS s n N) = 0
  v : shtB (MkS s n N) = true
  e : 1 ≤ (MkS s n N).ed ∧ (MkS s n N).ed ≤ 1000
  a : (MkS s n N).ed ≠ 1000 → MkE (MkS s n N) n N = 0 ∧ CpE (MkS (MkS s n N) n N) (MkS s n N) = 0 ∧ CpV (MkS (MkS s n N) n N) (MkS s n N) = 0 ∧ (MkS (MkS s n N) n N).ed = (MkS s n N).ed + 1
theorem made {s : ShtS} {n : Nat} {N : Nat → NotS} (h : MkE s n N = 0) : Made s n N := by
  obtain ⟨hB, he, hv⟩ := mk_v h
  have hs := mk_spl hB
  have hr := mk_run hB he
  have hS := hr.2 h
  have hed := sht_ed hv
  have hed0 := sht_ed hs.1
  have hlk : lakL (MkS s n N) N n = [] := by
    rw [lakL_L]
    have e := lkN_two (s := s) hs.2.1 (Nat.le_refl n) (s.ed + 1)
    rw [← hS] at e
    have e2 : (LN n N).drop n = [] := by rw [List.drop_eq_nil_iff, LN_len]; exact Nat.le_refl _
    rw [e2] at e
    have e3 : ((LN n N).filter fun a => cncB a (MkS s n N).ch && !hasL (MkS s n N).q (MkS s n N).dn a.nu) = [] := e
    rw [e3]; rfl
  have hBF : mkB (MkS s n N) n N = true := by unfold mkB; rw [hv, hs.2.1]; rfl
  have hst : StB n N s.ch = true := by unfold StB; rw [hs.2.1]; simp; omega
  have hsl := st_ok hst
  have hm := mk_t hB he
  have hce : CorE s n N (lakL s N n).length (zL (lakL s N n)) = 0 := hm.2 ▸ h
  have hMS : MkS s n N = { CorS s n N (lakL s N n).length (zL (lakL s N n)) with ed := (CorS s n N (lakL s N n).length (zL (lakL s N n))).ed + 1 } := by rw [hm.1, mkF_0 hce]
  have hl := lk_list (s := s) hs.2.1
  have hc := cor_run (s := s) (mk_cor hB) hl.2
  rw [hl.1] at hc
  have hCv : shtB (CorS s n N (lakL s N n).length (zL (lakL s N n))) = true := by rw [hc.2 hce]; exact okR_v _ hs.1 (hc.1.1 hce)
  have hcp := sev_cp hCv hv hMS
  refine ⟨(nx_n hBF (by rw [hlk]; rfl)).2, (up_t hBF).2, ?_, hsl.2.2, hsl.1, ?_, hce, ?_, hcp.1, hcp.2, hv, ⟨hed.1, hed.2.1⟩, fun h9 => ?_⟩
  · rw [(up_t hBF).1, hlk]; exact up_all hs.2.1
  · rw [hsl.1]; exact VS_St hs.2.1
  · unfold CorI
    rw [if_pos (mk_cor hB)]
    have := (cor0 hce).2.2
    rw [if_neg]
    intro hj
    have hh := (fstB_all (b := fun i => decide (stpE (corS s n N (zL (lakL s N n)) i) n N (zL (lakL s N n) i) ≠ 0)) (k := (lakL s N n).length)).2 hj
    exact of_decide_eq_true hh (this _ hj)
  · have hse : (MkS s n N).ed = s.ed + 1 := by rw [hS]
    have g := sev (s := s) (N := N) (Nat.le_refl n) (by omega)
    have g2 := g.1.2 h
    have g3 := (g.2 h).1
    have hv2 := (mk_v g2.2).2.2
    have hcq := sev_cq hv2 hv g3
    exact ⟨g2.2, hcq.1, hcq.2, by rw [g3]⟩
theorem ford_m {s : ShtS} {n : Nat} {N : Nat → NotS} (hM : Made s n N) (F : Nat → Nat → IV) (hF : ∀ i o, i < (dnL (StL n N s.ch) s (StL n N s.ch).length).length → o < 1 → (F i o).eqv (intI (zL (dnL (StL n N s.ch) s (StL n N s.ch).length)) i o)) : CallsP Tryz.prog 38 [.one (.lst 2 (StL n N s.ch).length (stpF (StL n N s.ch))), .one (.lst 1 (dnL (StL n N s.ch) s (StL n N s.ch).length).length F)] (.tup [.one (.lst 1 (lakL s N n).length (intI (zL (lakL s N n)))), .one (.g (.int .i64 (0)))]) := by
  have h := ford_p (StL n N s.ch) hM.vs (dnL (StL n N s.ch) s (StL n N s.ch).length).length (zL (dnL (StL n N s.ch) s (StL n N s.ch).length)) (DS_dn hM.vs s (Nat.le_refl _))
  rw [ord_lak hM.sl] at h
  exact h.eqv ⟨PT.eqv_refl _, ⟨rfl, rfl, hF⟩, trivial⟩ (PV.eqv_refl _)
set_option maxRecDepth 100000 in
set_option maxHeartbeats 4000000 in
theorem made_f (s : ShtS) (n : Nat) (N : Nat → NotS) (hs : s.Ok) (hn : n ≤ 9223372036854775807) (hN : ∀ i, i < n → (N i).Ok) (hf : fewB s n N = false) : CallsP Tryz.prog 9 [.agg [.g (.int .i64 s.ch), .g (.int .i64 s.sc), .g (.int .i64 s.ed), .g (.int .i64 s.m.A), .g (.int .i64 s.m.B), .g (.int .i64 s.m.C), .g (.int .i64 s.m.D), .g (.int .i64 s.m.E), .g (.int .i64 s.m.F), .g (.int .i64 s.m.R), .g (.int .i64 s.cap), .lst 1 s.q (intI s.dn), .lst 9 s.n (featF s.f)], .one (.lst 7 n (notF N))] (.t (.one (.g (.bool (true))))) := by
  refine CallsP_of Tryz.func9 rfl (by rw [Tryz.ntmps9]; simp) ?_
  simp only [Tryz.ntmps9, List.map_cons, List.map_nil, PT.tv, argEnv, Nat.zero_add, Nat.reduceAdd]
  repeat' (first
 | ((with_reducible show callGN _ _ false _ _ _ _ _ _ _); (with_reducible refine callGN_sq (fun h => by cases h) (fun _ => ?_)))
 | ((with_reducible show callGK _ _ false _ _ _ _); (with_reducible refine callGK_s (fun h => by cases h) (fun _ => ?_)))
 | ((with_reducible show AW _ _ _ _); first
 | (with_reducible first | refine aS (fun K hK => ?_) | refine aI ?_ | refine aX ?_ | refine aT ?_ | refine aC ?_ | refine aB ?_)
 | ((with_reducible show AW _ (Code.region _ _ _) _ _); first
 | (with_reducible first | refine aP 0 [0, 1] ?_ | refine aP 1 [1, 2] ?_ | refine aP 2 [1, 2, 5] ?_ | refine aP 3 [5] ?_ | refine aP 5 [1, 2, 5, 6, 7] ?_ | refine aP 6 [5, 6] ?_ | refine aP 7 [1, 2, 5, 6] ?_ | refine aP 8 [1, 2, 5, 6, 9] ?_ | refine aP 9 [1, 2, 5, 6, 9, 10, 11] ?_ | refine aP 10 [1, 2, 5, 6, 9, 10, 11, 12, 14] ?_ | refine aP 11 [1, 2, 5, 6, 9, 10, 11, 12, 14, 15] ?_ | refine aP 12 [1, 2, 5, 6, 9, 10, 11, 12, 14, 15, 69, 70, 71] ?_ | refine aP 13 [1, 2, 5, 6, 9, 10, 11, 12, 14, 15, 69, 70, 71] ?_ | refine aP 14 [1, 2, 5, 6, 9, 10, 11, 12, 14, 15, 17, 69, 70, 71] ?_ | refine aP 15 [1, 2, 5, 6, 9, 10, 11, 12, 14, 15, 17, 69, 70, 71] ?_ | refine aP 16 [1, 2, 5, 6, 9, 10, 11, 12, 14, 15, 69, 70, 71] ?_ | refine aP 17 [1, 2, 5, 6, 9, 10, 11, 12, 14, 15] ?_ | refine aP 18 [1, 2, 5, 6, 9, 10, 11, 14, 18, 19] ?_ | refine aP 19 [1, 5, 6, 9, 10, 11, 14, 19, 20, 21, 22] ?_ | refine aP 20 [1, 5, 6, 9, 10, 11, 14, 19, 21, 22, 23, 24] ?_ | refine aP 21 [1, 5, 6, 10] ?_ | refine aP 22 [1, 5, 6, 10] ?_ | refine aP 23 [1, 5, 6] ?_ | refine aP 24 [5] ?_ | refine aP 25 [1, 5, 6] ?_ | refine aP 26 [5, 6, 25, 26] ?_ | refine aP 27 [5, 6, 25, 26, 27, 28] ?_)))
 | ((first | (with_reducible refine And.intro ?_ ?_) | (with_reducible refine Need.mk ?_)); focus (first | exact True.intro | (with_reducible assumption) | omega | (refine ⟨?_, ?_⟩ <;> omega) | (intro _; first | exact True.intro | (with_reducible assumption) | omega) | (intros; (repeat' (first | exact True.intro | omega | (with_reducible assumption) | (with_reducible refine And.intro ?_ ?_))); done) | (simp (disch := omega) only [Bool.and_eq_true, Bool.or_eq_true, decide_eq_true_eq, bne_iff_ne, ne_eq] at *; first | done | omega | (intros; omega)) | (simp; done) | (simp; omega) | (simp +contextual; done) | (intro h; rw [h]; rfl) | (intro hq; have hq2 := hq; simp only [Bool.and_eq_true, Bool.or_eq_true, Bool.not_eq_true', Bool.not_not, Bool.not_eq_false', decide_eq_true_eq, decide_eq_false_iff_not] at hq2; (repeat' (first | exact hq | (with_reducible refine And.intro ?_ ?_) | omega | (simp_all; done))); done) | (intros; simp_all; done)))
 | (with_reducible refine retK_n ?_)
 | (with_reducible refine retK_n' ?_)
 | (with_reducible refine retH_n rfl rfl rfl ?_)
 | (with_reducible refine retH_n' rfl rfl rfl ?_)
 | ((with_reducible show condN _ _ _ _ _ _); first
 | ((with_reducible refine condN_t ?_ ?_) <;> (intro hc; (try simp only [Bool.and_eq_true, Bool.or_eq_true, Bool.not_eq_true', Bool.and_eq_false_iff, Bool.or_eq_false_iff, decide_eq_true_eq, decide_eq_false_iff_not, bne_iff_ne, beq_iff_eq, reduceCtorEq, bne_eq_false_iff_eq, beq_eq_false_iff_ne, Bool.not_eq_false', Int.not_le, Int.not_lt, Bool.not_not] at hc); (skip); (try (exfalso; first | contradiction | omega)))))
 | ((with_reducible show callN _ _ _ _ _ _ _ _ _ _); first
 | (refine callN_q (k := 10) fnok_10 (head_p) ?_ ?_)
 | (refine callN_q (k := 11) fnok_11 (few_p s n N hs hn hN) ?_ ?_))
 | ((fail_if_success (with_reducible show AW _ _ _ _)); simp (maxSteps := 2000000) only [go_sem, reduceIte, reduceCtorEq, Nat.reduceAdd, Nat.reduceLT, Nat.reduceLeDiff, Nat.reduceEqDiff, Nat.reduceMul, Nat.reduceSub, Nat.reduceBEq, Tryz.f9, fnok_10, ty_27, fnok_11, fnok_21, zc_27, fnok_34, fnok_25, fnok_23, of_27_0, ty_3, fnok_15, le_38, sl_38, ar_38, ty_43, zc_43, of_27_5, ty_24, of_43_0, fnok_33, sl_24, zc_3, fnok_38, fnok_19, fnok_29, le_31, sl_31, ar_31, of_30_1, of_27_2, hf, intI, notF0, notF1, notF2, notF3, notF4, notF5, notF6])
 | ((fail_if_success (with_reducible show AW _ _ _ _)); simp (disch := omega) only [seaWrap, seaDiv, seaMod])
 | ((with_reducible refine hK _ ?_); clear hK K))
set_option maxRecDepth 100000 in
set_option maxHeartbeats 4000000 in
theorem made_e (s : ShtS) (n : Nat) (N : Nat → NotS) (hs : s.Ok) (hn : n ≤ 9223372036854775807) (hN : ∀ i, i < n → (N i).Ok) (hf : fewB s n N = true) (he : MkE s n N ≠ 0) : CallsP Tryz.prog 9 [.agg [.g (.int .i64 s.ch), .g (.int .i64 s.sc), .g (.int .i64 s.ed), .g (.int .i64 s.m.A), .g (.int .i64 s.m.B), .g (.int .i64 s.m.C), .g (.int .i64 s.m.D), .g (.int .i64 s.m.E), .g (.int .i64 s.m.F), .g (.int .i64 s.m.R), .g (.int .i64 s.cap), .lst 1 s.q (intI s.dn), .lst 9 s.n (featF s.f)], .one (.lst 7 n (notF N))] (.t (.one (.g (.bool (true))))) := by
  have hv := made_no he
  refine CallsP_of Tryz.func9 rfl (by rw [Tryz.ntmps9]; simp) ?_
  simp only [Tryz.ntmps9, List.map_cons, List.map_nil, PT.tv, argEnv, Nat.zero_add, Nat.reduceAdd]
  repeat' (first
 | ((with_reducible show callGN _ _ false _ _ _ _ _ _ _); (with_reducible refine callGN_sq (fun h => by cases h) (fun _ => ?_)))
 | ((with_reducible show callGK _ _ false _ _ _ _); (with_reducible refine callGK_s (fun h => by cases h) (fun _ => ?_)))
 | ((with_reducible show AW _ _ _ _); first
 | (with_reducible first | refine aS (fun K hK => ?_) | refine aI ?_ | refine aX ?_ | refine aT ?_ | refine aC ?_ | refine aB ?_)
 | ((with_reducible show AW _ (Code.region _ _ _) _ _); first
 | (with_reducible first | refine aP 0 [0, 1] ?_ | refine aP 1 [1, 2] ?_ | refine aP 2 [1, 2, 5] ?_ | refine aP 3 [5] ?_ | refine aP 4 [1, 2, 5] ?_ | refine aP 5 [1, 2, 5, 6, 7] ?_ | refine aP 6 [5, 6] ?_ | refine aP 8 [1, 2, 5, 6, 9] ?_ | refine aP 9 [1, 2, 5, 6, 9, 10, 11] ?_ | refine aP 10 [1, 2, 5, 6, 9, 10, 11, 12, 14] ?_ | refine aP 11 [1, 2, 5, 6, 9, 10, 11, 12, 14, 15] ?_ | refine aP 12 [1, 2, 5, 6, 9, 10, 11, 12, 14, 15, 69, 70, 71] ?_ | refine aP 13 [1, 2, 5, 6, 9, 10, 11, 12, 14, 15, 69, 70, 71] ?_ | refine aP 14 [1, 2, 5, 6, 9, 10, 11, 12, 14, 15, 17, 69, 70, 71] ?_ | refine aP 15 [1, 2, 5, 6, 9, 10, 11, 12, 14, 15, 17, 69, 70, 71] ?_ | refine aP 16 [1, 2, 5, 6, 9, 10, 11, 12, 14, 15, 69, 70, 71] ?_ | refine aP 17 [1, 2, 5, 6, 9, 10, 11, 12, 14, 15] ?_ | refine aP 18 [1, 2, 5, 6, 9, 10, 11, 14, 18, 19] ?_ | refine aP 19 [1, 5, 6, 9, 10, 11, 14, 19, 20, 21, 22] ?_ | refine aP 20 [1, 5, 6, 9, 10, 11, 14, 19, 21, 22, 23, 24] ?_ | refine aP 21 [1, 5, 6, 10] ?_ | refine aP 22 [1, 5, 6, 10] ?_ | refine aP 23 [1, 5, 6] ?_ | refine aP 24 [5] ?_ | refine aP 25 [1, 5, 6] ?_ | refine aP 26 [5, 6, 25, 26] ?_ | refine aP 27 [5, 6, 25, 26, 27, 28] ?_)))
 | ((first | (with_reducible refine And.intro ?_ ?_) | (with_reducible refine Need.mk ?_)); focus (first | exact True.intro | (with_reducible assumption) | omega | (refine ⟨?_, ?_⟩ <;> omega) | (intro _; first | exact True.intro | (with_reducible assumption) | omega) | (intros; (repeat' (first | exact True.intro | omega | (with_reducible assumption) | (with_reducible refine And.intro ?_ ?_))); done) | (simp (disch := omega) only [Bool.and_eq_true, Bool.or_eq_true, decide_eq_true_eq, bne_iff_ne, ne_eq] at *; first | done | omega | (intros; omega)) | (simp; done) | (simp; omega) | (simp +contextual; done) | (intro h; rw [h]; rfl) | (intro hq; have hq2 := hq; simp only [Bool.and_eq_true, Bool.or_eq_true, Bool.not_eq_true', Bool.not_not, Bool.not_eq_false', decide_eq_true_eq, decide_eq_false_iff_not] at hq2; (repeat' (first | exact hq | (with_reducible refine And.intro ?_ ?_) | omega | (simp_all; done))); done) | (intros; simp_all; done)))
 | (with_reducible refine retK_n ?_)
 | (with_reducible refine retK_n' ?_)
 | (with_reducible refine retH_n rfl rfl rfl ?_)
 | (with_reducible refine retH_n' rfl rfl rfl ?_)
 | ((with_reducible show condN _ _ _ _ _ _); first
 | ((with_reducible refine condN_t ?_ ?_) <;> (intro hc; (try simp only [Bool.and_eq_true, Bool.or_eq_true, Bool.not_eq_true', Bool.and_eq_false_iff, Bool.or_eq_false_iff, decide_eq_true_eq, decide_eq_false_iff_not, bne_iff_ne, beq_iff_eq, reduceCtorEq, bne_eq_false_iff_eq, beq_eq_false_iff_ne, Bool.not_eq_false', Int.not_le, Int.not_lt, Bool.not_not] at hc); (skip); (try (exfalso; first | contradiction | omega)))))
 | ((with_reducible show callN _ _ _ _ _ _ _ _ _ _); first
 | (refine callN_q (k := 10) fnok_10 (head_p) ?_ ?_)
 | (refine callN_q (k := 11) fnok_11 (few_p s n N hs hn hN) ?_ ?_)
 | (refine callN_q (k := 21) fnok_21 (mk_p s n N hs hn hN) ?_ ?_)
 | (refine callN_q (k := 21) fnok_21 (mk_p (MkS s n N) n N (MkS_ok s n N) hn hN) ?_ ?_))
 | ((with_reducible show callGN _ _ _ _ _ _ _ _ _ _); first
 | (refine callGN_q (k := 34) fnok_34 (fun hg => sheet_p (MkS s n N) (MkS_ok s n N)) ?_ ?_))
 | ((fail_if_success (with_reducible show AW _ _ _ _)); simp (maxSteps := 2000000) only [go_sem, reduceIte, reduceCtorEq, Nat.reduceAdd, Nat.reduceLT, Nat.reduceLeDiff, Nat.reduceEqDiff, Nat.reduceMul, Nat.reduceSub, Nat.reduceBEq, Tryz.f9, fnok_10, ty_27, fnok_11, fnok_21, zc_27, fnok_34, fnok_25, fnok_23, of_27_0, ty_3, fnok_15, le_38, sl_38, ar_38, ty_43, zc_43, of_27_5, ty_24, of_43_0, fnok_33, sl_24, zc_3, fnok_38, fnok_19, fnok_29, le_31, sl_31, ar_31, of_30_1, of_27_2, hf, he, hv, intI, notF0, notF1, notF2, notF3, notF4, notF5, notF6])
 | ((fail_if_success (with_reducible show AW _ _ _ _)); simp (disch := omega) only [seaWrap, seaDiv, seaMod])
 | ((with_reducible refine hK _ ?_); clear hK K))
set_option maxRecDepth 100000 in
set_option maxHeartbeats 4000000 in
theorem made_y (s : ShtS) (n : Nat) (N : Nat → NotS) (hs : s.Ok) (hn : n ≤ 9223372036854775807) (hN : ∀ i, i < n → (N i).Ok) (hf : fewB s n N = true) (he : MkE s n N = 0) : CallsP Tryz.prog 9 [.agg [.g (.int .i64 s.ch), .g (.int .i64 s.sc), .g (.int .i64 s.ed), .g (.int .i64 s.m.A), .g (.int .i64 s.m.B), .g (.int .i64 s.m.C), .g (.int .i64 s.m.D), .g (.int .i64 s.m.E), .g (.int .i64 s.m.F), .g (.int .i64 s.m.R), .g (.int .i64 s.cap), .lst 1 s.q (intI s.dn), .lst 9 s.n (featF s.f)], .one (.lst 7 n (notF N))] (.t (.one (.g (.bool (true))))) := by
  have hM := made he
  have hM1 := hM.nx
  have hn10 := (of_decide_eq_true hf).2.2.1
  have hkl := lakL_le s N n
  have hsl := StL_le n N s.ch
  have hMe := hM.e
  refine CallsP_of Tryz.func9 rfl (by rw [Tryz.ntmps9]; simp) ?_
  simp only [Tryz.ntmps9, List.map_cons, List.map_nil, PT.tv, argEnv, Nat.zero_add, Nat.reduceAdd]
  repeat' (first
 | ((with_reducible show AW _ _ _ _); first
 | (with_reducible first | refine aS (fun K hK => ?_) | refine aI ?_ | refine aX ?_ | refine aT ?_ | refine aC ?_ | refine aB ?_)
 | ((with_reducible show AW _ (Code.region _ _ _) _ _); first
 | (with_reducible first | refine aP 0 [0, 1] ?_ | refine aP 1 [1, 2] ?_ | refine aP 2 [1, 2, 5] ?_ | refine aP 3 [5] ?_ | refine aP 4 [1, 2, 5] ?_ | refine aP 5 [1, 2, 5, 6, 7] ?_ | refine aP 6 [5, 6] ?_ | refine aP 7 [1, 2, 5, 6] ?_ | refine aP 8 [1, 2, 5, 6, 9] ?_ | refine aP 9 [1, 2, 5, 6, 9, 10, 11] ?_ | refine aP 10 [1, 2, 5, 6, 9, 10, 11, 12, 14] ?_ | refine aP 11 [1, 2, 5, 6, 9, 10, 11, 12, 14, 15] ?_ | refine aP 12 [1, 2, 5, 6, 9, 10, 11, 12, 14, 15, 69, 70, 71] ?_ | refine aP 13 [1, 2, 5, 6, 9, 10, 11, 12, 14, 15, 69, 70, 71] ?_ | refine aP 14 [1, 2, 5, 6, 9, 10, 11, 12, 14, 15, 17, 69, 70, 71] ?_ | refine aP 15 [1, 2, 5, 6, 9, 10, 11, 12, 14, 15, 17, 69, 70, 71] ?_ | refine aP 16 [1, 2, 5, 6, 9, 10, 11, 12, 14, 15, 69, 70, 71] ?_ | refine AW_frz (c := Code.region 17 _ false) [2] ?_ (aP 17 [1, 2, 5, 6, 9, 10, 11, 12, 14, 15] ?_) | refine aP 18 [1, 2, 5, 6, 9, 10, 11, 14, 18, 19] ?_ | refine aP 19 [1, 5, 6, 9, 10, 11, 14, 19, 20, 21, 22] ?_ | refine aP 20 [1, 5, 6, 9, 10, 11, 14, 19, 21, 22, 23, 24] ?_ | refine aP 21 [1, 5, 6, 10] ?_ | refine aP 22 [1, 5, 6, 10] ?_ | refine aP 23 [1, 5, 6] ?_ | refine aP 24 [5] ?_ | refine aP 25 [1, 5, 6] ?_ | refine aP 26 [5, 6, 25, 26] ?_ | refine aP 27 [5, 6, 25, 26, 27, 28] ?_))
 | ((with_reducible show AW _ (Code.loop _) _ _); first
 | ((with_reducible refine aL (c := (Code.seq (Code.region 12 _ _) _)) (ι := Nat) [1, 2, 5, 6, 9, 10, 11, 12, 14, 69, 70] (fun i => [(15, .t (.one (.slc 2 0 (dnL (StL n N s.ch) s i).length 1))), (71, iA .i64 (i : Int))]) (fun i => [(2, rowI (dnL (StL n N s.ch) s i))]) (fun i => i ≤ (StL n N s.ch).length) (fun i => (StL n N s.ch).length - i) 0 ?lg12 ?l112 ?l212 ?li12 ?lr12); (case' lg12 => rintro i _); (case' li12 => try (first | trivial | omega | (simp; done) | (simp; omega))); (case' lr12 => rintro i hi KR hR12; have oL := dnL_le (StL n N s.ch) s i; simp only [keepE, hupd, hset, lk, if_true, if_false, Nat.reduceEqDiff, reduceIte, List.cons_append, List.nil_append, hf, he, hM1, beq_self_eq_true, Bool.and_self, intI, notF0, notF1, notF2, notF3, notF4, notF5, notF6, dnL_0, rowI_pur, rowI_snoc, rowI_len, rowI_frz, maxLen, List.length_append, List.length_cons, List.length_nil, stpF, stpG]))))
 | ((first | (with_reducible refine And.intro ?_ ?_) | (with_reducible refine Need.mk ?_)); focus (first | exact rowI_iv _ | first | exact True.intro | (with_reducible assumption) | omega | (refine ⟨?_, ?_⟩ <;> omega) | (intro _; first | exact True.intro | (with_reducible assumption) | omega) | (intros; (repeat' (first | exact True.intro | omega | (with_reducible assumption) | (with_reducible refine And.intro ?_ ?_))); done) | (simp (disch := omega) only [Bool.and_eq_true, Bool.or_eq_true, decide_eq_true_eq, bne_iff_ne, ne_eq] at *; first | done | omega | (intros; omega)) | (simp; done) | (simp; omega) | (simp +contextual; done) | (intro h; rw [h]; rfl) | (intro hq; have hq2 := hq; simp only [Bool.and_eq_true, Bool.or_eq_true, Bool.not_eq_true', Bool.not_not, Bool.not_eq_false', decide_eq_true_eq, decide_eq_false_iff_not] at hq2; (repeat' (first | exact hq | (with_reducible refine And.intro ?_ ?_) | omega | (simp_all; done))); done) | (intros; simp_all; done)))
 | (with_reducible refine retK_n ?_)
 | (with_reducible refine retK_n' ?_)
 | (with_reducible refine retH_n rfl rfl rfl ?_)
 | (with_reducible refine retH_n' rfl rfl rfl ?_)
 | ((with_reducible show condN _ _ _ _ _ _); first
 | ((with_reducible refine condN_t ?_ ?_) <;> (intro hc; (try simp only [Bool.and_eq_true, Bool.or_eq_true, Bool.not_eq_true', Bool.and_eq_false_iff, Bool.or_eq_false_iff, decide_eq_true_eq, decide_eq_false_iff_not, bne_iff_ne, beq_iff_eq, reduceCtorEq, bne_eq_false_iff_eq, beq_eq_false_iff_ne, Bool.not_eq_false', Int.not_le, Int.not_lt, Bool.not_not] at hc); ((try (have e0 : (StL n N s.ch).length = i := (by omega); subst e0))); (try (exfalso; first | contradiction | omega)))))
 | ((with_reducible show callN _ _ _ _ _ _ _ _ _ _); first
 | (refine callN_q (k := 10) fnok_10 (head_p) ?_ ?_)
 | (refine callN_q (k := 11) fnok_11 (few_p s n N hs hn hN) ?_ ?_)
 | (refine callN_q (k := 21) fnok_21 (mk_p s n N hs hn hN) ?_ ?_)
 | (refine callN_q (k := 21) fnok_21 (mk_p (MkS s n N) n N (MkS_ok s n N) hn hN) ?_ ?_)
 | (refine callN_q (k := 25) fnok_25 (nx_p (MkS s n N) n N (MkS_ok s n N) hn hN) ?_ ?_)
 | (refine callN_q (k := 23) fnok_23 (up_p (MkS s n N) n N (MkS_ok s n N) hn hN) ?_ ?_)
 | (refine callN_q (k := 15) fnok_15 (st_p n N s.ch hn hN) ?_ ?_)
 | (refine callN_q (k := 33) fnok_33 (rhas_p s.q s.dn ((StL n N s.ch).getD i stp0).nu hs.q) ?_ ?_)
 | (refine callN_q (k := 38) fnok_38 (ford_m hM _ (row_zL _)) ?_ ?_)
 | (refine callN_q (k := 19) fnok_19 (cor_p s n N (lakL s N n).length (zL (lakL s N n)) hs hn hN (by omega)) ?_ ?_)
 | (refine callN_q (k := 29) fnok_29 (cp_p (CorS s n N (lakL s N n).length (zL (lakL s N n))) (MkS s n N) (CorS_ok _ _ _ _ _) (MkS_ok _ _ _)) ?_ ?_)
 | (refine callN_q (k := 29) fnok_29 (cp_p (MkS (MkS s n N) n N) (MkS s n N) (MkS_ok _ _ _) (MkS_ok _ _ _)) ?_ ?_))
 | ((with_reducible show callGN _ _ _ _ _ _ _ _ _ _); first
 | (refine callGN_q (k := 34) fnok_34 (fun hg => sheet_p (MkS s n N) (MkS_ok s n N)) ?_ ?_))
 | ((with_reducible refine hR12 _ (i + 1) ?_); (try clear hR12 KR))
 | ((with_reducible refine Told.mk ?_); simp only [go_sem, reduceIte, reduceCtorEq, Nat.reduceAdd, Nat.reduceLT, Nat.reduceLeDiff, Nat.reduceEqDiff, Nat.reduceMul, Nat.reduceSub, Nat.reduceBEq, hf, he, hM1, beq_self_eq_true, Bool.and_self, intI, notF0, notF1, notF2, notF3, notF4, notF5, notF6, dnL_0, rowI_pur, rowI_snoc, rowI_len, rowI_frz, maxLen, List.length_append, List.length_cons, List.length_nil, stpF, stpG] <;> (first | exact True.intro | (((try simp (disch := omega) only [seaWrap, Int.natCast_add, Int.cast_ofNat_Int, and_true, true_and, and_self]); (repeat' (first | exact True.intro | omega | rfl | (with_reducible assumption) | (with_reducible refine And.intro ?_ ?_) | (exact all_succ (by assumption) (by assumption)) | ((first | rw [dnL_t (by assumption)] | rw [dnL_f (by assumption)])) | ((exact wkC_eq rfl (rowI_iv _))) | ((simp only [List.length_append, List.length_cons, List.length_nil, Nat.zero_add]; done)))); done)) | (refine Stuck.out ?_)))
 | ((fail_if_success (with_reducible show AW _ _ _ _)); simp (maxSteps := 2000000) only [go_sem, reduceIte, reduceCtorEq, Nat.reduceAdd, Nat.reduceLT, Nat.reduceLeDiff, Nat.reduceEqDiff, Nat.reduceMul, Nat.reduceSub, Nat.reduceBEq, Tryz.f9, fnok_10, ty_27, fnok_11, fnok_21, zc_27, fnok_34, fnok_25, fnok_23, of_27_0, ty_3, fnok_15, le_38, sl_38, ar_38, ty_43, zc_43, of_27_5, ty_24, of_43_0, fnok_33, sl_24, zc_3, fnok_38, fnok_19, fnok_29, le_31, sl_31, ar_31, of_30_1, of_27_2, hf, he, hM1, beq_self_eq_true, Bool.and_self, intI, notF0, notF1, notF2, notF3, notF4, notF5, notF6, dnL_0, rowI_pur, rowI_snoc, rowI_len, rowI_frz, maxLen, List.length_append, List.length_cons, List.length_nil, stpF, stpG])
 | ((fail_if_success (with_reducible show AW _ _ _ _)); simp (disch := omega) only [seaWrap, seaDiv, seaMod])
 | ((with_reducible refine hK _ ?_); clear hK K)
 | (with_reducible apply_assumption -exfalso only [*]))
  all_goals first
    | (have ha := hM.a (by assumption); have hu := hM.uv; (try rw [if_neg (by omega)] at hu); simp [hM.ue, hM.se, hM.ci, hM.ce, hM.pe, hM.pv, hM.v, ha.1, ha.2.1, ha.2.2.1, ha.2.2.2, hu]; done)
    | (have hu := hM.uv; (try rw [if_neg (by omega)] at hu); simp [hM.ue, hM.se, hM.ci, hM.ce, hM.pe, hM.pv, hM.v, hu]; done)
theorem made_law (s : ShtS) (n : Nat) (N : Nat → NotS) (hs : s.Ok) (hn : n ≤ 9223372036854775807) (hN : ∀ i, i < n → (N i).Ok) : CallsP Tryz.prog 9 [.agg [.g (.int .i64 s.ch), .g (.int .i64 s.sc), .g (.int .i64 s.ed), .g (.int .i64 s.m.A), .g (.int .i64 s.m.B), .g (.int .i64 s.m.C), .g (.int .i64 s.m.D), .g (.int .i64 s.m.E), .g (.int .i64 s.m.F), .g (.int .i64 s.m.R), .g (.int .i64 s.cap), .lst 1 s.q (intI s.dn), .lst 9 s.n (featF s.f)], .one (.lst 7 n (notF N))] (.t (.one (.g (.bool (true))))) := by
  cases hf : fewB s n N with
  | false => exact made_f s n N hs hn hN hf
  | true =>
    by_cases he : MkE s n N = 0
    · exact made_y s n N hs hn hN hf he
    · exact made_e s n N hs hn hN hf he
end Go.Proofs.YtdhgiklbkmkblaaGreat
