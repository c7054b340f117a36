/- Tide: what Meet and Join leave. -/
import Derived.Test.YtmljnelmnagfoaaJ6
import Derived.Test.YtmljnelmnagfoaaN
set_option linter.unusedVariables false
set_option linter.unusedSimpArgs false
namespace Go.Proofs.Ytmljnelmnagfoaa
open Go.RowKit
attribute [local go_sem] World.cell?_alloc_some frozen_alloc_some isSome_alloc isSome_setCell

def jl (lo hi lo' hi' : Nat → Int) (i : Nat) : Int := jL (lo i) (hi i) (lo' i) (hi' i)
def jh (lo hi lo' hi' : Nat → Int) (i : Nat) : Int := jH (lo i) (hi i) (lo' i) (hi' i)
def ml (lo hi lo' hi' : Nat → Int) (i : Nat) : Int := mL (lo i) (hi i) (lo' i) (hi' i)
def mh (lo hi lo' hi' : Nat → Int) (i : Nat) : Int := mH (lo i) (hi i) (lo' i) (hi' i)
def mgo (n : Nat) (lo hi lo' hi' : Nat → Int) : Prop := ∀ i, i < n → mE (lo i) (hi i) (lo' i) (hi' i) = 0

theorem tmeet_e1 (s st : Int) (p : Option Addr) (n c : Nat) (lo hi : Nat → Int) (s' st' : Int) (p' : Option Addr) (n' c' : Nat) (lo' hi' : Nat → Int) (w : World) (hL : Lie w p n lo hi) (hL' : Lie w p' n' lo' hi') (h : (tval s st n lo hi && tval s' st' n' lo' hi') = false) : Calls Try.prog 28 #[tv s st p n c, tv s' st' p' n' c'] w fun e w' => e = .returned (.tuple #[tv 0 0 none 0 0, .int .i64 1]) ∧ Below w.heap.size w w' := by
  cases h1 : tval s st n lo hi with
  | false => exact tmeet_B1 s st p n c lo hi s' st' p' n' c' lo' hi' w hL hL' h1
  | true => exact tmeet_B2 s st p n c lo hi s' st' p' n' c' lo' hi' w hL hL' h1 (by rw [h1] at h; simpa using h)
theorem tmeet_e6 (s st : Int) (p : Option Addr) (n c : Nat) (lo hi : Nat → Int) (s' st' : Int) (p' : Option Addr) (n' c' : Nat) (lo' hi' : Nat → Int) (w : World) (hL : Lie w p n lo hi) (hL' : Lie w p' n' lo' hi') (h1 : tval s st n lo hi = true) (h2 : tval s' st' n' lo' hi' = true) (h : ¬ (s = s' ∧ st = st' ∧ n = n')) : Calls Try.prog 28 #[tv s st p n c, tv s' st' p' n' c'] w fun e w' => e = .returned (.tuple #[tv 0 0 none 0 0, .int .i64 6]) ∧ Below w.heap.size w w' := by
  by_cases k1 : s = s'
  · subst k1
    by_cases k2 : st = st'
    · subst k2
      exact tmeet_S3 s st p n c lo hi p' n' c' lo' hi' w hL hL' h1 h2 (fun k => h ⟨rfl, rfl, k⟩)
    · exact tmeet_S2 s st p n c lo hi st' p' n' c' lo' hi' w hL hL' h1 h2 k2
  · exact tmeet_S1 s st p n c lo hi s' st' p' n' c' lo' hi' w hL hL' h1 h2 k1

theorem tjoin_e1 (s st : Int) (p : Option Addr) (n c : Nat) (lo hi : Nat → Int) (s' st' : Int) (p' : Option Addr) (n' c' : Nat) (lo' hi' : Nat → Int) (w : World) (hL : Lie w p n lo hi) (hL' : Lie w p' n' lo' hi') (h : (tval s st n lo hi && tval s' st' n' lo' hi') = false) : Calls Try.prog 31 #[tv s st p n c, tv s' st' p' n' c'] w fun e w' => e = .returned (.tuple #[tv 0 0 none 0 0, .int .i64 1]) ∧ Below w.heap.size w w' := by
  cases h1 : tval s st n lo hi with
  | false => exact tjoin_B1 s st p n c lo hi s' st' p' n' c' lo' hi' w hL hL' h1
  | true => exact tjoin_B2 s st p n c lo hi s' st' p' n' c' lo' hi' w hL hL' h1 (by rw [h1] at h; simpa using h)
theorem tjoin_e6 (s st : Int) (p : Option Addr) (n c : Nat) (lo hi : Nat → Int) (s' st' : Int) (p' : Option Addr) (n' c' : Nat) (lo' hi' : Nat → Int) (w : World) (hL : Lie w p n lo hi) (hL' : Lie w p' n' lo' hi') (h1 : tval s st n lo hi = true) (h2 : tval s' st' n' lo' hi' = true) (h : ¬ (s = s' ∧ st = st' ∧ n = n')) : Calls Try.prog 31 #[tv s st p n c, tv s' st' p' n' c'] w fun e w' => e = .returned (.tuple #[tv 0 0 none 0 0, .int .i64 6]) ∧ Below w.heap.size w w' := by
  by_cases k1 : s = s'
  · subst k1
    by_cases k2 : st = st'
    · subst k2
      exact tjoin_S3 s st p n c lo hi p' n' c' lo' hi' w hL hL' h1 h2 (fun k => h ⟨rfl, rfl, k⟩)
    · exact tjoin_S2 s st p n c lo hi st' p' n' c' lo' hi' w hL hL' h1 h2 k2
  · exact tjoin_S1 s st p n c lo hi s' st' p' n' c' lo' hi' w hL hL' h1 h2 k1

theorem jall {s st : Int} {n : Nat} {lo hi lo' hi' : Nat → Int} (h1 : Tv s st n lo hi) (h2 : Tv s st n lo' hi') {i : Nat} (hi_ : i < n) : jE (lo i) (hi i) (lo' i) (hi' i) = 0 ∧ jl lo hi lo' hi' i = min (lo i) (lo' i) ∧ jh lo hi lo' hi' i = max (hi i) (hi' i) := jj (h1.hs i hi_) (h2.hs i hi_)
theorem tjoin_yes (s st : Int) (p : Option Addr) (n c : Nat) (lo hi : Nat → Int) (p' : Option Addr) (c' : Nat) (lo' hi' : Nat → Int) (w : World) (hL : Lie w p n lo hi) (hL' : Lie w p' n lo' hi') (h1 : tval s st n lo hi = true) (h2 : tval s st n lo' hi' = true) : Calls Try.prog 31 #[tv s st p n c, tv s st p' n c'] w fun e w' => (∃ p2 c2, e = .returned (.tuple #[tv s st p2 n c2, .int .i64 0]) ∧ Lie w' p2 n (jl lo hi lo' hi') (jh lo hi lo' hi')) ∧ Below w.heap.size w w' := by
  refine (tjoin_OK s st p n c lo hi p' c' lo' hi' w hL hL' h1 h2).mono ?_
  rintro e w' ⟨⟨_, p2, c2, rfl, hl⟩ | ⟨⟨i, hi_, hn⟩, _⟩, hb⟩
  · exact ⟨⟨p2, c2, rfl, hl.1⟩, hb⟩
  · exact absurd (jall (tval_tv h1) (tval_tv h2) hi_).1 hn
theorem tmeet_yes (s st : Int) (p : Option Addr) (n c : Nat) (lo hi : Nat → Int) (p' : Option Addr) (c' : Nat) (lo' hi' : Nat → Int) (w : World) (hL : Lie w p n lo hi) (hL' : Lie w p' n lo' hi') (h1 : tval s st n lo hi = true) (h2 : tval s st n lo' hi' = true) (h : mgo n lo hi lo' hi') : Calls Try.prog 28 #[tv s st p n c, tv s st p' n c'] w fun e w' => (∃ p2 c2, e = .returned (.tuple #[tv s st p2 n c2, .int .i64 0]) ∧ Lie w' p2 n (ml lo hi lo' hi') (mh lo hi lo' hi')) ∧ Below w.heap.size w w' := by
  refine (tmeet_OK s st p n c lo hi p' c' lo' hi' w hL hL' h1 h2).mono ?_
  rintro e w' ⟨⟨_, p2, c2, rfl, hl⟩ | ⟨⟨i, hi_, hn⟩, _⟩, hb⟩
  · exact ⟨⟨p2, c2, rfl, hl.1⟩, hb⟩
  · exact absurd (h i hi_) hn
theorem tmeet_no (s st : Int) (p : Option Addr) (n c : Nat) (lo hi : Nat → Int) (p' : Option Addr) (c' : Nat) (lo' hi' : Nat → Int) (w : World) (hL : Lie w p n lo hi) (hL' : Lie w p' n lo' hi') (h1 : tval s st n lo hi = true) (h2 : tval s st n lo' hi' = true) (h : ¬ mgo n lo hi lo' hi') : Calls Try.prog 28 #[tv s st p n c, tv s st p' n c'] w fun e w' => e = .returned (.tuple #[tv 0 0 none 0 0, .int .i64 18]) ∧ Below w.heap.size w w' := by
  refine (tmeet_OK s st p n c lo hi p' c' lo' hi' w hL hL' h1 h2).mono ?_
  rintro e w' ⟨⟨g, _⟩ | ⟨_, rfl⟩, hb⟩
  · exact absurd g h
  · exact ⟨rfl, hb⟩
theorem mm {a b c d : Int} (h1 : -100000 ≤ a ∧ a ≤ b ∧ b ≤ 100000) (h2 : -100000 ≤ c ∧ c ≤ d ∧ d ≤ 100000) : (mE a b c d = 0 ↔ max a c ≤ min b d) ∧ (max a c ≤ min b d → mL a b c d = max a c ∧ mH a b c d = min b d) := by
  have k1 : sv a b = true := sv_t (by omega)
  have k2 : sv c d = true := sv_t (by omega)
  by_cases k : min b d < max a c
  · refine ⟨⟨fun h => ?_, fun h => by omega⟩, fun h => by omega⟩
    simp [mE, k1, k2, k] at h
  · refine ⟨⟨fun _ => by omega, fun h => by simp [mE, k1, k2, k]⟩, fun h => by simp [mL, mH, k1, k2, k]⟩
theorem mgo_symm {s st : Int} {n : Nat} {lo hi lo' hi' : Nat → Int} (h1 : Tv s st n lo hi) (h2 : Tv s st n lo' hi') (h : mgo n lo hi lo' hi') : mgo n lo' hi' lo hi := fun i hi_ => by
  have := (mm (h1.hs i hi_) (h2.hs i hi_)).1.1 (h i hi_)
  exact (mm (h2.hs i hi_) (h1.hs i hi_)).1.2 (by omega)
theorem mgo_at {s st : Int} {n : Nat} {lo hi lo' hi' : Nat → Int} (h1 : Tv s st n lo hi) (h2 : Tv s st n lo' hi') (h : mgo n lo hi lo' hi') {i : Nat} (hi_ : i < n) : ml lo hi lo' hi' i = max (lo i) (lo' i) ∧ mh lo hi lo' hi' i = min (hi i) (hi' i) ∧ max (lo i) (lo' i) ≤ min (hi i) (hi' i) := by
  have k := (mm (h1.hs i hi_) (h2.hs i hi_)).1.1 (h i hi_)
  have := (mm (h1.hs i hi_) (h2.hs i hi_)).2 k
  exact ⟨this.1, this.2, k⟩
theorem tval_of {s st : Int} {n : Nat} {lo hi lo2 hi2 : Nat → Int} (h1 : tval s st n lo hi = true) (h : ∀ i, i < n → -100000 ≤ lo2 i ∧ lo2 i ≤ hi2 i ∧ hi2 i ≤ 100000) : tval s st n lo2 hi2 = true := by
  unfold tval at h1 ⊢
  rw [Bool.and_eq_true] at h1 ⊢
  exact ⟨h1.1, decide_eq_true fun i hi' => decide_eq_true (h i hi')⟩
theorem tval_j {s st : Int} {n : Nat} {lo hi lo' hi' : Nat → Int} (h1 : tval s st n lo hi = true) (h2 : tval s st n lo' hi' = true) : tval s st n (jl lo hi lo' hi') (jh lo hi lo' hi') = true := tval_of h1 fun i hi_ => by
  obtain ⟨_, e1, e2⟩ := jall (tval_tv h1) (tval_tv h2) hi_
  have := (tval_tv h1).hs i hi_
  have := (tval_tv h2).hs i hi_
  omega
theorem tval_m {s st : Int} {n : Nat} {lo hi lo' hi' : Nat → Int} (h1 : tval s st n lo hi = true) (h2 : tval s st n lo' hi' = true) (h : mgo n lo hi lo' hi') : tval s st n (ml lo hi lo' hi') (mh lo hi lo' hi') = true := tval_of h1 fun i hi_ => by
  obtain ⟨e1, e2, e3⟩ := mgo_at (tval_tv h1) (tval_tv h2) h hi_
  have := (tval_tv h1).hs i hi_
  have := (tval_tv h2).hs i hi_
  omega
theorem he_same {s st : Int} {n : Nat} {lo hi lo2 hi2 : Nat → Int} (h1 : tval s st n lo hi = true) (h2 : tval s st n lo2 hi2 = true) (f u : Int) : HE s st n lo2 hi2 f u = HE s st n lo hi f u := by
  unfold HE; rw [h1, h2]
theorem hL_two {s st : Int} {n : Nat} {lo lo' lo2 : Nat → Int} (h0 : 1 ≤ st) (hn : 1 ≤ n) {x : Int} (h1 : s ≤ x) (h2 : x ≤ s + ((n : Int) - 1) * st) :
    ((∀ i, i < n → lo2 i = min (lo i) (lo' i)) → hL s st lo2 x = min (hL s st lo x) (hL s st lo' x)) ∧ ((∀ i, i < n → lo2 i = max (lo i) (lo' i)) → hL s st lo x ≤ hL s st lo2 x ∧ hL s st lo' x ≤ hL s st lo2 x) := by
  obtain ⟨k1, k2⟩ := idx h0 hn h1 h2
  unfold hL
  split
  · exact ⟨fun h => h _ k1, fun h => by rw [h _ k1]; omega⟩
  · rename_i hne
    exact ⟨fun h => by rw [h _ k1, h _ (k2 hne)]; omega, fun h => by rw [h _ k1, h _ (k2 hne)]; omega⟩
theorem hH_two {s st : Int} {n : Nat} {hi hi' hi2 : Nat → Int} (h0 : 1 ≤ st) (hn : 1 ≤ n) {x : Int} (h1 : s ≤ x) (h2 : x ≤ s + ((n : Int) - 1) * st) :
    ((∀ i, i < n → hi2 i = max (hi i) (hi' i)) → hH s st hi2 x = max (hH s st hi x) (hH s st hi' x)) ∧ ((∀ i, i < n → hi2 i = min (hi i) (hi' i)) → hH s st hi2 x ≤ hH s st hi x ∧ hH s st hi2 x ≤ hH s st hi' x) := by
  obtain ⟨k1, k2⟩ := idx h0 hn h1 h2
  unfold hH
  split
  · exact ⟨fun h => h _ k1, fun h => by rw [h _ k1]; omega⟩
  · rename_i hne
    exact ⟨fun h => by rw [h _ k1, h _ (k2 hne)]; omega, fun h => by rw [h _ k1, h _ (k2 hne)]; omega⟩
theorem both_j {s st : Int} {n : Nat} {lo hi lo' hi' : Nat → Int} {f u : Int} (h1 : tval s st n lo hi = true) (h2 : tval s st n lo' hi' = true) (h : HE s st n lo hi f u = 0) :
    jE (HL s st n lo hi f u) (HH s st n lo hi f u) (HL s st n lo' hi' f u) (HH s st n lo' hi' f u) = 0 ∧ Hid (jL (HL s st n lo hi f u) (HH s st n lo hi f u) (HL s st n lo' hi' f u) (HH s st n lo' hi' f u) = HL s st n (jl lo hi lo' hi') (jh lo hi lo' hi') f u) ∧ Hid (jH (HL s st n lo hi f u) (HH s st n lo hi f u) (HL s st n lo' hi' f u) (HH s st n lo' hi' f u) = HH s st n (jl lo hi lo' hi') (jh lo hi lo' hi') f u) ∧ HL s st n (jl lo hi lo' hi') (jh lo hi lo' hi') f u = min (HL s st n lo hi f u) (HL s st n lo' hi' f u) := by
  have hj := tval_j h1 h2
  have g2 := (he_same h1 h2 f u).trans h
  have g3 := (he_same h1 hj f u).trans h
  obtain ⟨hv, bd, m1, M1, r1⟩ := he_ok h
  obtain ⟨hv2, _, m2, M2, r2⟩ := he_ok g2
  obtain ⟨hv3, _, m3, M3, r3⟩ := he_ok g3
  have ej := fun i hi_ => jall hv hv2 (i := i) hi_
  have e1 : HL s st n (jl lo hi lo' hi') (jh lo hi lo' hi') f u = min (HL s st n lo hi f u) (HL s st n lo' hi' f u) := by
    refine m3.uniq ⟨fun t t1 t2 => ?_, ?_⟩
    · have := (hL_two (s := s) (lo := lo) (lo' := lo') (lo2 := jl lo hi lo' hi') hv.st0 hv.n0 (x := t) (by omega) (by omega)).1 (fun i hi_ => (ej i hi_).2.1)
      have := m1.1 t t1 t2; have := m2.1 t t1 t2; omega
    · obtain ⟨_, t, t1, t2, t3⟩ := m1
      obtain ⟨_, r, q1, q2, q3⟩ := m2
      by_cases k : HL s st n lo hi f u ≤ HL s st n lo' hi' f u
      · refine ⟨t, t1, t2, ?_⟩
        have := (hL_two (s := s) (lo := lo) (lo' := lo') (lo2 := jl lo hi lo' hi') hv.st0 hv.n0 (x := t) (by omega) (by omega)).1 (fun i hi_ => (ej i hi_).2.1)
        obtain ⟨a2, _⟩ := he_ok g2 |>.2.2.1
        have := a2 t t1 t2; omega
      · refine ⟨r, q1, q2, ?_⟩
        have := (hL_two (s := s) (lo := lo) (lo' := lo') (lo2 := jl lo hi lo' hi') hv.st0 hv.n0 (x := r) (by omega) (by omega)).1 (fun i hi_ => (ej i hi_).2.1)
        obtain ⟨a2, _⟩ := he_ok h |>.2.2.1
        have := a2 r q1 q2; omega
  have e2 : HH s st n (jl lo hi lo' hi') (jh lo hi lo' hi') f u = max (HH s st n lo hi f u) (HH s st n lo' hi' f u) := by
    refine M3.uniq ⟨fun t t1 t2 => ?_, ?_⟩
    · have := (hH_two (s := s) (hi := hi) (hi' := hi') (hi2 := jh lo hi lo' hi') hv.st0 hv.n0 (x := t) (by omega) (by omega)).1 (fun i hi_ => (ej i hi_).2.2)
      have := M1.1 t t1 t2; have := M2.1 t t1 t2; omega
    · obtain ⟨_, t, t1, t2, t3⟩ := M1
      obtain ⟨_, r, q1, q2, q3⟩ := M2
      by_cases k : HH s st n lo' hi' f u ≤ HH s st n lo hi f u
      · refine ⟨t, t1, t2, ?_⟩
        have := (hH_two (s := s) (hi := hi) (hi' := hi') (hi2 := jh lo hi lo' hi') hv.st0 hv.n0 (x := t) (by omega) (by omega)).1 (fun i hi_ => (ej i hi_).2.2)
        obtain ⟨a2, _⟩ := he_ok g2 |>.2.2.2.1
        have := a2 t t1 t2; omega
      · refine ⟨r, q1, q2, ?_⟩
        have := (hH_two (s := s) (hi := hi) (hi' := hi') (hi2 := jh lo hi lo' hi') hv.st0 hv.n0 (x := r) (by omega) (by omega)).1 (fun i hi_ => (ej i hi_).2.2)
        obtain ⟨a2, _⟩ := he_ok h |>.2.2.2.1
        have := a2 r q1 q2; omega
  obtain ⟨j1, j2, j3⟩ := jj r1 r2
  exact ⟨j1, Lib.hid (by omega), Lib.hid (by omega), e1⟩
theorem both_m {s st : Int} {n : Nat} {lo hi lo' hi' : Nat → Int} {f u : Int} (h1 : tval s st n lo hi = true) (h2 : tval s st n lo' hi' = true) (hm : mgo n lo hi lo' hi') (h : HE s st n lo hi f u = 0) :
    jE (HL s st n (ml lo hi lo' hi') (mh lo hi lo' hi') f u) (HH s st n (ml lo hi lo' hi') (mh lo hi lo' hi') f u) (HL s st n lo hi f u) (HH s st n lo hi f u) = 0 ∧ jE (HL s st n (ml lo hi lo' hi') (mh lo hi lo' hi') f u) (HH s st n (ml lo hi lo' hi') (mh lo hi lo' hi') f u) (HL s st n lo' hi' f u) (HH s st n lo' hi' f u) = 0 ∧ wi (HL s st n (ml lo hi lo' hi') (mh lo hi lo' hi') f u) (HH s st n (ml lo hi lo' hi') (mh lo hi lo' hi') f u) (HL s st n lo hi f u) (HH s st n lo hi f u) = true ∧ wi (HL s st n (ml lo hi lo' hi') (mh lo hi lo' hi') f u) (HH s st n (ml lo hi lo' hi') (mh lo hi lo' hi') f u) (HL s st n lo' hi' f u) (HH s st n lo' hi' f u) = true ∧
    HL s st n lo hi f u ≤ HL s st n (ml lo hi lo' hi') (mh lo hi lo' hi') f u ∧ HL s st n lo' hi' f u ≤ HL s st n (ml lo hi lo' hi') (mh lo hi lo' hi') f u := by
  have hj := tval_m h1 h2 hm
  have g2 := (he_same h1 h2 f u).trans h
  have g3 := (he_same h1 hj f u).trans h
  obtain ⟨hv, bd, m1, M1, r1⟩ := he_ok h
  obtain ⟨hv2, _, m2, M2, r2⟩ := he_ok g2
  obtain ⟨hv3, _, m3, M3, r3⟩ := he_ok g3
  have ej := fun i hi_ => mgo_at hv hv2 hm (i := i) hi_
  obtain ⟨_, t, t1, t2, t3⟩ := m3
  obtain ⟨_, r, q1, q2, q3⟩ := M3
  have a1 := (hL_two (s := s) (lo := lo) (lo' := lo') (lo2 := ml lo hi lo' hi') hv.st0 hv.n0 (x := t) (by omega) (by omega)).2 (fun i hi_ => (ej i hi_).1)
  have a2 := (hH_two (s := s) (hi := hi) (hi' := hi') (hi2 := mh lo hi lo' hi') hv.st0 hv.n0 (x := r) (by omega) (by omega)).2 (fun i hi_ => (ej i hi_).2.1)
  have b1 := m1.1 t t1 t2
  have b2 := m2.1 t t1 t2
  have b3 := M1.1 r q1 q2
  have b4 := M2.1 r q1 q2
  exact ⟨(jj r3 r1).1, (jj r3 r2).1, wi_t r3 r1 (by omega), wi_t r3 r2 (by omega), by omega, by omega⟩
theorem same_m {s st : Int} {n : Nat} {lo hi lo' hi' : Nat → Int} (h1 : tval s st n lo hi = true) (h2 : tval s st n lo' hi' = true) (hm : mgo n lo hi lo' hi') : same s st s st n n (ml lo hi lo' hi') (mh lo hi lo' hi') (ml lo' hi' lo hi) (mh lo' hi' lo hi) = true := by
  have hv := tval_tv h1
  have hv2 := tval_tv h2
  have : sameL n n (ml lo hi lo' hi') (mh lo hi lo' hi') (ml lo' hi' lo hi) (mh lo' hi' lo hi) = true := decide_eq_true ⟨rfl, fun i hi_ => by
    have e1 := mgo_at hv hv2 hm hi_
    have e2 := mgo_at hv2 hv (mgo_symm hv hv2 hm) hi_
    omega⟩
  rw [same, this, decide_eq_true ⟨rfl, rfl⟩]; rfl

theorem same_yes (s st : Int) (p : Option Addr) (n c : Nat) (lo hi : Nat → Int) (p' : Option Addr) (c' : Nat) (lo' hi' : Nat → Int) (w : World) (hn : n ≤ 1000000) (hL : Lie w p n lo hi) (hL' : Lie w p' n lo' hi') (h : same s st s st n n lo hi lo' hi' = true) :
    Calls Try.prog 30 #[tv s st p n c, tv s st p' n c'] w fun e w' => e = .returned (.bool true) ∧ Below w.heap.size w w' := by
  have := same_any s st p n c lo hi s st p' n c' lo' hi' w hn hL hL'
  rw [h] at this; exact this

end Go.Proofs.Ytmljnelmnagfoaa
