/- Tide: Windows, at a valid table. -/
import Derived.Test.YtmljnelmnagfoaaW
import Derived.RangeFuncBound
import Derived.RangeFuncCalls
import Derived.RangeFuncLeaves
import Derived.Shelf.Abstract
import Derived.Shelf.RegionOpen
import Derived.TacticsInMore
import Derived.LoopNIn
import Derived.LoopIn
set_option linter.unusedVariables false
set_option linter.unusedSimpArgs false
namespace Go.Proofs.Ytmljnelmnagfoaa
open Go.RowKit Go.Shelf
attribute [local go_sem] Oper.semAt_some World.cell?_alloc_some frozen_alloc_some isSome_alloc isSome_setCell

theorem lt_next (a : Int) : (a < a + 1) = True := by (simp; omega)
attribute [local go_sem] lt_next
theorem ownPost_at {α : Type} {B : Nat} {Kp : World → World → Prop} {I : List α → World → Prop} {Ix : Code → List α → World → Prop} {xs : List α} {W : World} : ownPostG B Kp I Ix xs W = ownPostG B Kp (fun _ => I xs) Ix xs W := by
  funext e a W'; cases e <;> rfl
/-- What the windows so far are, told in memory. -/
def Iw (w : World) (bo : Nat) (m0 : Nat) (need : Int) (ws : List (Int × Int)) (W : World) : Prop :=
  (∃ v, Boxed W bo 22 v ∧ W.ownsRow (w.heap.size + 2) 30 2 v ws.length (rowc ws)) ∧ Own w m0 W [(w.heap.size + 1, 0, .int .i64 need)]
theorem iw_from (w : World) (bo m0 B : Nat) (need : Int) (hB : w.heap.size ≤ B) : OwnFrom B (fun (ws : List (Int × Int)) W => Iw w bo m0 need ws W) :=
  OwnFrom.and (fun s A C row hs hg hr => by
    obtain ⟨v, h1, h2⟩ := hs
    obtain ⟨v', g1, g2, _⟩ := holdsRow_own (w.heap.size + 2) bo 22 30 2 (fun s : List (Int × Int) => s.length) (fun s => rowc s) (fun _ _ => True) s A C row ⟨v, h1, h2, trivial⟩ hg (fun r e => (hr r e).2)
    exact ⟨v', g1, g2⟩) (own_from hB (fun _ => [(w.heap.size + 1, 0, .int .i64 need)]))
theorem boxed_below {W w2 : World} {b : Nat} {t : TypeId} {v : Value} (h : Boxed W b t v) (hb : Below W.heap.size W w2) : Boxed w2 b t v := (hb.block b h.lt).trans h
theorem row_below {W w2 : World} {base : Nat} {e : TypeId} {size : Nat} {v : Value} {k : Nat} {xs : List Value} (h : W.ownsRow base e size v k xs) (hb : Below W.heap.size W w2) : w2.ownsRow base e size v k xs := by
  refine h.kept (row := none) ⟨hb.os, hb.tape, hb.output, hb.size, fun k hk _ => hb.block k hk⟩ ?_
  cases v.ownBlock <;> simp
theorem row_shape {W : World} {base : Nat} {e : TypeId} {size : Nat} {v : Value} {k : Nat} {xs : List Value} (h : W.ownsRow base e size v k xs) : ∃ p c, v = .slice p k c := by
  rcases h.2 with ⟨rfl, rfl⟩ | ⟨g, cap, cur, rfl, _⟩
  · exact ⟨_, _, rfl⟩
  · exact ⟨_, _, rfl⟩
theorem Own.low {w0 W W' : World} {m n₀ : Nat} {l : List (Nat × Nat × Value)} (h : Own w0 m W l) (hb : Below n₀ W W') (hn : w0.heap.size ≤ n₀) (hl : ∀ x ∈ l, x.1 < n₀) : Own w0 m W' l := by
  refine ⟨h.below.trans (hb.mono hn), Nat.le_trans h.size hb.size, ?_, h.le⟩
  have : ∀ l : List (Nat × Nat × Value), (∀ x ∈ l, x.1 < n₀) → Cels W l → Cels W' l := by
    intro l
    induction l with
    | nil => intro _ _; trivial
    | cons x l ih =>
      intro hx hc
      exact ⟨⟨(hb.cell (p := ⟨x.1, x.2.1, none⟩) (hx x (by simp))).trans hc.1.1, (hb.frozen (p := ⟨x.1, x.2.1, none⟩) (hx x (by simp))).trans hc.1.2⟩, ih (fun y hy => hx y (by simp [hy])) hc.2⟩
  exact this l hl h.cels
set_option maxRecDepth 100000 in
set_option maxHeartbeats 16000000 in
theorem windows_ok (s st : Int) (p : Option Addr) (n c : Nat) (lo hi : Nat → Int) (need : Int) (w : World) (hL : Lie w p n lo hi) (ht : tval s st n lo hi = true) (h1 : ¬ need < -1000000000000) (h2 : ¬ 1000000000000 < need) :
    Calls Try.prog 17 #[tv s st p n c, .int .i64 need] w fun e w' => (∃ p' c', e = .returned (.tuple #[.slice p' (win need (strs s st lo hi n)).length c', .int .i64 0]) ∧ Lie w' p' (win need (strs s st lo hi n)).length (L1 (win need (strs s st lo hi n))) (L2 (win need (strs s st lo hi n)))) ∧ Below w.heap.size w w' := by
  have hv := tval_tv ht
  have hp : ∀ a, p = some a → a.block < w.heap.size := by
    rcases hL with h | ⟨b, off, rfl, hc⟩
    · have := hv.n0; omega
    · intro a ha; cases ha
      exact World.block_lt_of_cell? w _ (hc 0 (by have := hv.n0; omega)).1
  refine (callsIn_wide (n := 2)).1 ?_
  refine callsIn_of_wp_marks Try.func17 rfl trivial ?_ rfl
  simp only [Try.ntmps17, List.size_toArray, List.length_cons, List.length_nil, Nat.reduceAdd, Nat.reduceSub, Array.replicate_succ, Array.replicate_zero, List.push_toArray, List.append_toArray, List.nil_append, List.cons_append]
  refine wpIn_wide.2 ?_
  go_wp2_with (first | (go_at_call 24; refine (valid_any s st p n c lo hi _ (hL.keep (by (repeat' (first | (with_reducible assumption) | (with_reducible exact Below.refl _ _) | (with_reducible exact Cels.nil _) | (with_reducible refine Cels.cons ?_ ?_) | (with_reducible refine Own.mk ?_ ?_ ?_ ?_) | ((with_reducible refine Cel.new ?_ rfl); first | (with_reducible rfl) | omega | (simp; done) | (simp; omega)) | (with_reducible refine Cel.alloc ?_ _) | (with_reducible refine Cel.drew ?_) | (with_reducible refine Cel.setS ?_ _) | (with_reducible refine Has.set ?_ _ _) | (with_reducible exact Has.of (by assumption)) | (with_reducible refine Cel.setO ?_ ?_ _) | (with_reducible refine Cel.keep (by assumption) ?_) | (with_reducible refine Below.alloc ?_ ?_ _) | (with_reducible refine Below.drew ?_) | (with_reducible refine Below.setCell ?_ ?_ _) | (with_reducible refine below_keep ?_ ?_ (by assumption)) | omega | (simp; done) | (simp; omega)))))).mono ?_; rintro e w1 ⟨rfl, hb⟩; have hs := hb.size; (try simp at hs); have O : Own w (w.heap.size + 2) w1 [(w.heap.size, 0, .int .i64 s), (w.heap.size, 1, .int .i64 st), (w.heap.size, 2, .slice p n c), (w.heap.size + 1, 0, .int .i64 need)] := (by first | exact Own.keep (by assumption) hb | (repeat' (first | (with_reducible assumption) | (with_reducible exact Below.refl _ _) | (with_reducible exact Cels.nil _) | (with_reducible refine Cels.cons ?_ ?_) | (with_reducible refine Own.mk ?_ ?_ ?_ ?_) | ((with_reducible refine Cel.new ?_ rfl); first | (with_reducible rfl) | omega | (simp; done) | (simp; omega)) | (with_reducible refine Cel.alloc ?_ _) | (with_reducible refine Cel.drew ?_) | (with_reducible refine Cel.setS ?_ _) | (with_reducible refine Has.set ?_ _ _) | (with_reducible exact Has.of (by assumption)) | (with_reducible refine Cel.setO ?_ ?_ _) | (with_reducible refine Cel.keep (by assumption) ?_) | (with_reducible refine Below.alloc ?_ ?_ _) | (with_reducible refine Below.drew ?_) | (with_reducible refine Below.setCell ?_ ?_ _) | (with_reducible refine below_keep ?_ ?_ (by assumption)) | omega | (simp; done) | (simp; omega)))); have hB := O.below; have hz := O.size; have S0 : Cel w1 (w.heap.size) 0 (.int .i64 s) := O.cels.1; have S1 : Cel w1 (w.heap.size) 1 (.int .i64 st) := O.cels.2.1; have S2 : Cel w1 (w.heap.size) 2 (.slice p n c) := O.cels.2.2.1; have S3 : Cel w1 (w.heap.size + 1) 0 (.int .i64 need) := O.cels.2.2.2.1) | (go_at_call 40; refine (stretches_any s st p n c _).mono ?_; rintro e w' ⟨rfl, rfl⟩))
  have hn2 : n ≤ 200 := hv.n1
  have O0 : Own w (w1.heap.size + 2) ((w1.alloc (.cells #[.slice none 0 0] 22)).alloc (.cells #[.int .i64 s, .int .i64 st, .slice p n c] 24)) [(w.heap.size + 1, 0, .int .i64 need)] := (by (repeat' (first | (with_reducible assumption) | (with_reducible exact Below.refl _ _) | (with_reducible exact Cels.nil _) | (with_reducible refine Cels.cons ?_ ?_) | (with_reducible refine Own.mk ?_ ?_ ?_ ?_) | ((with_reducible refine Cel.new ?_ rfl); first | (with_reducible rfl) | omega | (simp; done) | (simp; omega)) | (with_reducible refine Cel.alloc ?_ _) | (with_reducible refine Cel.drew ?_) | (with_reducible refine Cel.setS ?_ _) | (with_reducible refine Has.set ?_ _ _) | (with_reducible exact Has.of (by assumption)) | (with_reducible refine Cel.setO ?_ ?_ _) | (with_reducible refine Cel.keep (by assumption) ?_) | (with_reducible refine Below.alloc ?_ ?_ _) | (with_reducible refine Below.drew ?_) | (with_reducible refine Below.setCell ?_ ?_ _) | (with_reducible refine below_keep ?_ ?_ (by assumption)) | omega | (simp; done) | (simp; omega))))
  have xb : ((w1.alloc (.cells #[.slice none 0 0] 22)).alloc (.cells #[.int .i64 s, .int .i64 st, .slice p n c] 24)).heap[w1.heap.size + 1]? = some (.cells #[.int .i64 s, .int .i64 st, .slice p n c] 24 (0, 0)) := by
    have := World.alloc_heap_new (w1.alloc (.cells #[.slice none 0 0] 22)) (.cells #[.int .i64 s, .int .i64 st, .slice p n c] 24)
    simpa using this
  have bO : Boxed ((w1.alloc (.cells #[.slice none 0 0] 22)).alloc (.cells #[.int .i64 s, .int .i64 st, .slice p n c] 24)) w1.heap.size 22 (.slice none 0 0) := (Boxed.new w1 22 (.slice none 0 0)).alloc _
  have hs0 : ((w1.alloc (.cells #[.slice none 0 0] 22)).alloc (.cells #[.int .i64 s, .int .i64 st, .slice p n c] 24)).heap.size = w1.heap.size + 2 := by simp
  obtain ⟨bo, hbo⟩ : ∃ bo, bo = w1.heap.size := ⟨_, rfl⟩
  rw [← hbo] at xb bO hs0 O0
  simp only [← hbo]
  clear S0 S1 S2 S3 O
  generalize ((w1.alloc (.cells #[.slice none 0 0] 22)).alloc (.cells #[.int .i64 s, .int .i64 st, .slice p n c] 24)) = W0 at *
  have hL0 : Lie W0 p n lo hi := hL.keep O0.below
  have rn : rowAt bo W0 = none := by rw [rowAt_box bO]; rfl
  have hbw : w.heap.size + 2 ≤ bo := by omega
  clear hbo
  refine (wpIn_wide (n := 2)).1 ?_
  refine range_box (n₀ := w.heap.size + 2) (bO := bo) (B := bo + 1) rfl (enters_of Try.func54 (by kernel_rfl) rfl) (str_stops s st p n c lo hi hv _ _ _ (bo + 1) (Nat.le_refl _) W0 ⟨fun k hk => by (rw [rn] at hk; cases hk), by (rw [rn]; simp), xb, hL0, (fun a ha => Nat.lt_of_lt_of_le (hp a ha) (by omega)), by omega, by omega⟩) (by omega) (by omega) (fun _ => rfl)
    (fun (pre : List St) W => Iw w bo (bo + 2) need (win need (pre.map (·.1))) W ∧ (okW (win need (pre.map (·.1))) ∧ (win need (pre.map (·.1))).length ≤ pre.length)) (OwnFrom.and (fun (pre : List St) A C row hs hg hr => iw_from w bo (bo + 2) _ need (by omega) _ A C row hs hg hr) (fun _ _ _ _ hs _ _ => hs)) (fun pre W hi => by have := hi.1.2.size; omega) ⟨⟨⟨_, bO, World.ownsRow_nil _ _ _ _⟩, O0⟩, (fun q hq => (by cases hq)), Nat.zero_le _⟩ 7 62
    (fun x => #[.int .i64 x.1.1, .int .i64 x.1.2.1, .int .i64 x.1.2.2.1, .int .i64 x.1.2.2.2]) ?assign ?body ?done
  case assign =>
    intro l x W K hK
    gi_wp2
    simpa using hK
  case body =>
    rintro l pre ⟨⟨xa, xc, xl, xh⟩, hxx⟩ Bx W ⟨⟨⟨v, hvb, hrow⟩, O⟩, okw, hwl⟩ hx hBx hlen
    have hpre : win need ((pre ++ [(⟨(xa, xc, xl, xh), hxx⟩ : St)]).map (·.1)) = addW need (win need (pre.map (·.1))) (xa, xc, xl, xh) := by rw [List.map_append]; exact win_snoc _ _ _
    have hok2 := addW_ok (need := need) okw hxx
    have hlen2 : (addW need (win need (pre.map (·.1))) (xa, xc, xl, xh)).length ≤ (pre ++ [(⟨(xa, xc, xl, xh), hxx⟩ : St)]).length := by
      have := addW_len need (win need (pre.map (·.1))) (xa, xc, xl, xh)
      simp only [List.length_append, List.length_cons, List.length_nil]; omega
    obtain ⟨hx1, hx2, hx3, hx4, hx5, hx6⟩ := hxx
    simp only at hx1 hx2 hx3 hx4 hx5 hx6 hx
    obtain ⟨Bk, hBk⟩ : ∃ Bk, Bk = W0.heap.size := ⟨_, rfl⟩
    rw [ownPost_at, ← hBk]
    simp only [hpre]
    clear hpre hBk
    have hwl2 : (win need (pre.map (·.1))).length ≤ 400 := by omega
    generalize win need (pre.map (·.1)) = ws at *
    have X0 : Cel W Bx 0 (.int .i64 xa) := ⟨by simp [World.cell?, hx], by simp [World.frozen?, hx]⟩
    have X1 : Cel W Bx 1 (.int .i64 xc) := ⟨by simp [World.cell?, hx], by simp [World.frozen?, hx]⟩
    have X2 : Cel W Bx 2 (.int .i64 xl) := ⟨by simp [World.cell?, hx], by simp [World.frozen?, hx]⟩
    have X3 : Cel W Bx 3 (.int .i64 xh) := ⟨by simp [World.cell?, hx], by simp [World.frozen?, hx]⟩
    clear hx
    have hB := O.below; have hz := O.size; have SN : Cel W (w.heap.size + 1) 0 (.int .i64 need) := O.cels.1
    have hc := hvb.cell
    have hf := hvb.frozen
    by_cases g1 : xl < need
    · rw [addW_skip g1]
      gi_wp2
      refine ⟨KeepsFrom.refl _ _, Kp.refl _, ⟨⟨v, hvb, hrow⟩, O⟩, okw, ?_⟩
      simp; omega
    obtain ⟨i0, ii0, iz0, iz1, iz2⟩ := info_parts info30
    rcases List.eq_nil_or_concat ws with rfl | ⟨f, ⟨l1, l2⟩, rfl⟩
    · rw [addW_nil g1] at hok2 hlen2 ⊢
      obtain ⟨pp, cc, rfl⟩ := row_shape hrow
      simp only [List.length_nil] at hvb hrow hc hf
      have S0 : Cel W bo 0 (.slice pp 0 cc) := ⟨hc, hf⟩
      gi_wp2
      refine regionIn_by (Free.round l) (fun a0 L a' w' => a' = pcs a0 [(30, L 0, .int .i64 0), (31, L 1, .bool false), (32, L 2, .bool false), (33, L 3, undef), (34, L 4, undef), (35, L 5, undef), (36, L 6, undef), (37, L 7, undef), (38, L 8, undef), (39, L 9, undef), (40, L 10, undef), (41, L 11, undef), (42, L 12, undef), (43, L 13, undef), (44, L 14, .bool false)] ∧ Own W (W.heap.size) w' [(bo, 0, .slice pp 0 cc)]) (by kernel_rfl) (by kernel_rfl) (by kernel_rfl) ?_ ?_ ?_
      · exact ⟨(pcs_start _ _ (by simp)).symm, by (repeat' (first | (with_reducible assumption) | (with_reducible exact Below.refl _ _) | (with_reducible exact Cels.nil _) | (with_reducible refine Cels.cons ?_ ?_) | (with_reducible refine Own.mk ?_ ?_ ?_ ?_) | ((with_reducible refine Cel.new ?_ rfl); first | (with_reducible rfl) | omega | (simp; done) | (simp; omega)) | (with_reducible refine Cel.alloc ?_ _) | (with_reducible refine Cel.drew ?_) | (with_reducible refine Cel.setS ?_ _) | (with_reducible refine Has.set ?_ _ _) | (with_reducible exact Has.of (by assumption)) | (with_reducible refine Cel.setO ?_ ?_ _) | (with_reducible refine Cel.keep (by assumption) ?_) | (with_reducible refine Below.alloc ?_ ?_ _) | (with_reducible refine Below.drew ?_) | (with_reducible refine Below.setCell ?_ ?_ _) | (with_reducible refine below_keep ?_ ?_ (by assumption)) | omega | (simp; done) | (simp; omega)))⟩
      · refine ⟨?_, ?_, ?_, ?_, ?_, ?_, ?_, ?_, ?_, ?_, ?_, ?_, ?_, ?_, ?_, trivial⟩
        · rintro L a' v ⟨rfl, O⟩ hL hd hcl K hK
          have HK := Lib.hid hK
          clear hK
          have hB := O.below; have hz := O.size; have S0 : Cel v (bo) 0 (.slice pp 0 cc) := O.cels.1
          simp [Region.binds] at hd
          simp only [pcs, List.foldl_cons, List.foldl_nil, Act.put]
          go_simp
          exact HK.out _ _ ⟨by simp [pcs, Act.put, upd, gomax, gomin, *] <;> omega, O⟩
        · rintro L a' v ⟨rfl, O⟩ hL hd hcl K hK
          have HK := Lib.hid hK
          clear hK
          have hB := O.below; have hz := O.size; have S0 : Cel v (bo) 0 (.slice pp 0 cc) := O.cels.1
          simp [Region.binds] at hd
          simp only [pcs, List.foldl_cons, List.foldl_nil, Act.put]
          go_simp
          exact HK.out _ _ ⟨by simp [pcs, Act.put, upd, gomax, gomin, *] <;> omega, O⟩
        · rintro L a' v ⟨rfl, O⟩ hL hd hcl K hK
          have HK := Lib.hid hK
          clear hK
          have hB := O.below; have hz := O.size; have S0 : Cel v (bo) 0 (.slice pp 0 cc) := O.cels.1
          simp [Region.binds] at hd
          simp only [pcs, List.foldl_cons, List.foldl_nil, Act.put]
          go_simp
          exact HK.out _ _ ⟨by simp [pcs, Act.put, upd, gomax, gomin, *] <;> omega, O⟩
        · rintro L a' v ⟨rfl, O⟩ hL hd hcl K hK
          have HK := Lib.hid hK
          clear hK
          have hB := O.below; have hz := O.size; have S0 : Cel v (bo) 0 (.slice pp 0 cc) := O.cels.1
          simp [Region.binds] at hd
          simp only [pcs, List.foldl_cons, List.foldl_nil, Act.put]
          go_simp
          exact HK.out _ _ ⟨by simp [pcs, Act.put, upd, gomax, gomin, *] <;> omega, O⟩
        · rintro L a' v ⟨rfl, O⟩ hL hd hcl K hK
          have HK := Lib.hid hK
          clear hK
          have hB := O.below; have hz := O.size; have S0 : Cel v (bo) 0 (.slice pp 0 cc) := O.cels.1
          simp [Region.binds] at hd
          simp only [pcs, List.foldl_cons, List.foldl_nil, Act.put]
          go_simp
          exact HK.out _ _ ⟨by simp [pcs, Act.put, upd, gomax, gomin, *] <;> omega, O⟩
        · rintro L a' v ⟨rfl, O⟩ hL hd hcl K hK
          have HK := Lib.hid hK
          clear hK
          have hB := O.below; have hz := O.size; have S0 : Cel v (bo) 0 (.slice pp 0 cc) := O.cels.1
          simp [Region.binds] at hd
          simp only [pcs, List.foldl_cons, List.foldl_nil, Act.put]
          go_simp
          exact HK.out _ _ ⟨by simp [pcs, Act.put, upd, gomax, gomin, *] <;> omega, O⟩
        · rintro L a' v ⟨rfl, O⟩ hL hd hcl K hK
          have HK := Lib.hid hK
          clear hK
          have hB := O.below; have hz := O.size; have S0 : Cel v (bo) 0 (.slice pp 0 cc) := O.cels.1
          simp [Region.binds] at hd
          simp only [pcs, List.foldl_cons, List.foldl_nil, Act.put]
          go_simp
          exact HK.out _ _ ⟨by simp [pcs, Act.put, upd, gomax, gomin, *] <;> omega, O⟩
        · rintro L a' v ⟨rfl, O⟩ hL hd hcl K hK
          have HK := Lib.hid hK
          clear hK
          have hB := O.below; have hz := O.size; have S0 : Cel v (bo) 0 (.slice pp 0 cc) := O.cels.1
          simp [Region.binds] at hd
          simp only [pcs, List.foldl_cons, List.foldl_nil, Act.put]
          go_simp
          exact HK.out _ _ ⟨by simp [pcs, Act.put, upd, gomax, gomin, *] <;> omega, O⟩
        · rintro L a' v ⟨rfl, O⟩ hL hd hcl K hK
          have HK := Lib.hid hK
          clear hK
          have hB := O.below; have hz := O.size; have S0 : Cel v (bo) 0 (.slice pp 0 cc) := O.cels.1
          simp [Region.binds] at hd
          simp only [pcs, List.foldl_cons, List.foldl_nil, Act.put]
          go_simp
          exact HK.out _ _ ⟨by simp [pcs, Act.put, upd, gomax, gomin, *] <;> omega, O⟩
        · rintro L a' v ⟨rfl, O⟩ hL hd hcl K hK
          have HK := Lib.hid hK
          clear hK
          have hB := O.below; have hz := O.size; have S0 : Cel v (bo) 0 (.slice pp 0 cc) := O.cels.1
          simp [Region.binds] at hd
          simp only [pcs, List.foldl_cons, List.foldl_nil, Act.put]
          go_simp
          exact HK.out _ _ ⟨by simp [pcs, Act.put, upd, gomax, gomin, *] <;> omega, O⟩
        · rintro L a' v ⟨rfl, O⟩ hL hd hcl K hK
          have HK := Lib.hid hK
          clear hK
          have hB := O.below; have hz := O.size; have S0 : Cel v (bo) 0 (.slice pp 0 cc) := O.cels.1
          simp [Region.binds] at hd
          simp only [pcs, List.foldl_cons, List.foldl_nil, Act.put]
          go_simp
          exact HK.out _ _ ⟨by simp [pcs, Act.put, upd, gomax, gomin, *] <;> omega, O⟩
        · rintro L a' v ⟨rfl, O⟩ hL hd hcl K hK
          have HK := Lib.hid hK
          clear hK
          have hB := O.below; have hz := O.size; have S0 : Cel v (bo) 0 (.slice pp 0 cc) := O.cels.1
          simp [Region.binds] at hd
          simp only [pcs, List.foldl_cons, List.foldl_nil, Act.put]
          go_simp
          exact HK.out _ _ ⟨by simp [pcs, Act.put, upd, gomax, gomin, *] <;> omega, O⟩
        · rintro L a' v ⟨rfl, O⟩ hL hd hcl K hK
          have HK := Lib.hid hK
          clear hK
          have hB := O.below; have hz := O.size; have S0 : Cel v (bo) 0 (.slice pp 0 cc) := O.cels.1
          simp [Region.binds] at hd
          simp only [pcs, List.foldl_cons, List.foldl_nil, Act.put]
          go_simp
          exact HK.out _ _ ⟨by simp [pcs, Act.put, upd, gomax, gomin, *] <;> omega, O⟩
        · rintro L a' v ⟨rfl, O⟩ hL hd hcl K hK
          have HK := Lib.hid hK
          clear hK
          have hB := O.below; have hz := O.size; have S0 : Cel v (bo) 0 (.slice pp 0 cc) := O.cels.1
          simp [Region.binds] at hd
          simp only [pcs, List.foldl_cons, List.foldl_nil, Act.put]
          go_simp
          exact HK.out _ _ ⟨by simp [pcs, Act.put, upd, gomax, gomin, *] <;> omega, O⟩
        · rintro L a' v ⟨rfl, O⟩ hL hd hcl K hK
          have HK := Lib.hid hK
          clear hK
          have hB := O.below; have hz := O.size; have S0 : Cel v (bo) 0 (.slice pp 0 cc) := O.cels.1
          simp [Region.binds] at hd
          simp only [pcs, List.foldl_cons, List.foldl_nil, Act.put]
          go_simp
          exact HK.out _ _ ⟨by simp [pcs, Act.put, upd, gomax, gomin, *] <;> omega, O⟩
      rintro L a' w2 hL ⟨ea, OO⟩
      have L0 := hL 0 (by decide); have L1 := hL 1 (by decide); have L2 := hL 2 (by decide); have L3 := hL 3 (by decide); have L4 := hL 4 (by decide); have L5 := hL 5 (by decide); have L6 := hL 6 (by decide); have L7 := hL 7 (by decide); have L8 := hL 8 (by decide); have L9 := hL 9 (by decide); have L10 := hL 10 (by decide); have L11 := hL 11 (by decide); have L12 := hL 12 (by decide); have L13 := hL 13 (by decide); have L14 := hL 14 (by decide)
      have hB2 := OO.below; have hz2 := OO.size; have hl2 := OO.le; have S2_0 : Cel w2 (bo) 0 (.slice pp 0 cc) := OO.cels.1
      simp [pcs, Act.put, L0, L1, L2, L3, L4, L5, L6, L7, L8, L9, L10, L11, L12, L13, L14] at ea
      subst ea
      clear hL L0 L1 L2 L3 L4 L5 L6 L7 L8 L9 L10 L11 L12 L13 L14
      have O2 : Own W (w2.heap.size) w2 [(bo, 0, .slice pp 0 cc)] := ⟨hB2, Nat.le_refl _, (by (repeat' (first | (with_reducible assumption) | (with_reducible exact Below.refl _ _) | (with_reducible exact Cels.nil _) | (with_reducible refine Cels.cons ?_ ?_) | (with_reducible refine Own.mk ?_ ?_ ?_ ?_) | ((with_reducible refine Cel.new ?_ rfl); first | (with_reducible rfl) | omega | (simp; done) | (simp; omega)) | (with_reducible refine Cel.alloc ?_ _) | (with_reducible refine Cel.drew ?_) | (with_reducible refine Cel.setS ?_ _) | (with_reducible refine Has.set ?_ _ _) | (with_reducible exact Has.of (by assumption)) | (with_reducible refine Cel.setO ?_ ?_ _) | (with_reducible refine Cel.keep (by assumption) ?_) | (with_reducible refine Below.alloc ?_ ?_ _) | (with_reducible refine Below.drew ?_) | (with_reducible refine Below.setCell ?_ ?_ _) | (with_reducible refine below_keep ?_ ?_ (by assumption)) | omega | (simp; done) | (simp; omega)))), hB2.size⟩
      clear OO
      have hvb2 := boxed_below hvb hB2
      have hrow2 := row_below hrow hB2
      have Y0 := X0.keep hB2
      have Y1 := X1.keep hB2
      clear O2
      gi_wp2_with (gi_at_builtin; refine wpListIn_append_row _ rfl _ _ 22 rfl (w.heap.size + 2) 30 i0 (.agg #[.int .i64 0, .int .i64 0]) 2 16 Try.underlying22 ii0 iz0 iz1 iz2 rfl (by decide) _ _ _ rfl (hrow2.alloc _) ⟨w2.heap.size, 0, none⟩ 1 1 [.int .i64 xa, .int .i64 xc] rfl rfl (cells_two _ _ _ _) (by simp [Value.oneCell']) (by (unfold maxLen; omega)) (by omega) (by (simp; omega)) (by omega) ?_; intro v' w9 hown' hgrow hblk; obtain ⟨g', cap', rfl⟩ := ownsRow_succ hown'; obtain ⟨hv1, hv2, hr2, kk⟩ := KK.append ((KK.refl (n₀ := w.heap.size + 2) (bO := bo) (B := bo + 1) (Bk := Bk) W).below hB2 (by omega) (by omega)) hvb2 (by decide) hrow2 (by omega) (by omega) (by omega) hown' hgrow hblk; have hc1 := hv1.cell; have hf1 := hv1.frozen)
      exact ⟨kk.1, kk.2, ⟨⟨_, hv2, hr2⟩, O.low kk.2.below (by omega) (by simp)⟩, hok2, hlen2⟩
    · rw [List.concat_eq_append] at *
      obtain ⟨m, hm⟩ : ∃ m, m = f.length := ⟨_, rfl⟩
      have e1 : (f ++ [(l1, l2)]).length = m + 1 := by simp [hm]
      have cl := rowc_last f l1 l2
      have cs := fun x => rowc_set f l1 l2 x
      rw [← hm] at cl cs
      rw [e1] at hrow hwl2 hwl
      have HM := Lib.hid hm
      clear hm
      obtain ⟨g, cap, rfl⟩ := ownsRow_succ hrow
      have q1 := okw (l1, l2) (by simp)
      simp only at q1
      obtain ⟨q11, q12, q13⟩ := q1
      have S0 : Cel W bo 0 (.slice (some ⟨g, 0, none⟩) (m + 1) cap) := ⟨hc, hf⟩
      have G0 : Cel W g (m * 2 + 1) (.int .i64 l2) := ⟨(hrow.cellAt (m * 2 + 1) (by omega)).trans cl, hrow.frozenAt _⟩
      have hw0 : IntKind.i64.wrap (m : Int) = m := IntWalk.i64_in _ (by omega)
      have hw1 : IntKind.i64.wrap ((m : Int) + 1) = m + 1 := IntWalk.i64_in _ (by omega)
      have hw2 : IntKind.i64.wrap (l2 + 1) = l2 + 1 := IntWalk.i64_in _ (by omega)
      have hgn := hrow.lt g rfl
      have hgb : g ≠ bo := fun e => hvb.not_row (by decide) hrow (by simp [Value.ownBlock, e])
      by_cases g2 : l2 + 1 = xa
      · rw [addW_ext g1 g2] at hok2 hlen2 ⊢
        subst g2
        gi_wp2
        refine regionIn_by (Free.round l) (fun a0 L a' w' => a' = pcs a0 [(30, L 0, .int .i64 (((m : Int) + 1))), (31, L 1, .bool true), (32, L 2, .bool true), (33, L 3, .slice (some ⟨g, 0, none⟩) (m + 1) cap), (34, L 4, .int .i64 (((m : Int) + 1))), (35, L 5, .int .i64 ((m : Int))), (36, L 6, .pointer (some ⟨g, m * 2, none⟩)), (37, L 7, .pointer (some ⟨g, m * 2 + 1, none⟩)), (38, L 8, .int .i64 l2), (39, L 9, .int .i64 ((l2 + 1))), (40, L 10, .pointer (some ⟨Bx, 0, none⟩)), (41, L 11, .pointer (some ⟨Bx, 0, none⟩)), (42, L 12, .int .i64 (l2 + 1)), (43, L 13, .bool true), (44, L 14, .bool true)] ∧ Own W (W.heap.size) w' [(bo, 0, .slice (some ⟨g, 0, none⟩) (m + 1) cap), (g, (m * 2 + 1), .int .i64 l2), (Bx, 0, .int .i64 (l2 + 1))]) (by kernel_rfl) (by kernel_rfl) (by kernel_rfl) ?_ ?_ ?_
        · exact ⟨(pcs_start _ _ (by simp)).symm, by (repeat' (first | (with_reducible assumption) | (with_reducible exact Below.refl _ _) | (with_reducible exact Cels.nil _) | (with_reducible refine Cels.cons ?_ ?_) | (with_reducible refine Own.mk ?_ ?_ ?_ ?_) | ((with_reducible refine Cel.new ?_ rfl); first | (with_reducible rfl) | omega | (simp; done) | (simp; omega)) | (with_reducible refine Cel.alloc ?_ _) | (with_reducible refine Cel.drew ?_) | (with_reducible refine Cel.setS ?_ _) | (with_reducible refine Has.set ?_ _ _) | (with_reducible exact Has.of (by assumption)) | (with_reducible refine Cel.setO ?_ ?_ _) | (with_reducible refine Cel.keep (by assumption) ?_) | (with_reducible refine Below.alloc ?_ ?_ _) | (with_reducible refine Below.drew ?_) | (with_reducible refine Below.setCell ?_ ?_ _) | (with_reducible refine below_keep ?_ ?_ (by assumption)) | omega | (simp; done) | (simp; omega)))⟩
        · refine ⟨?_, ?_, ?_, ?_, ?_, ?_, ?_, ?_, ?_, ?_, ?_, ?_, ?_, ?_, ?_, trivial⟩
          · rintro L a' v ⟨rfl, O⟩ hL hd hcl K hK
            have HK := Lib.hid hK
            clear hK
            have hB := O.below; have hz := O.size; have S0 : Cel v (bo) 0 (.slice (some ⟨g, 0, none⟩) (m + 1) cap) := O.cels.1; have S1 : Cel v (g) (m * 2 + 1) (.int .i64 l2) := O.cels.2.1; have S2 : Cel v (Bx) 0 (.int .i64 (l2 + 1)) := O.cels.2.2.1
            simp [Region.binds] at hd
            simp only [pcs, List.foldl_cons, List.foldl_nil, Act.put]
            go_simp
            exact HK.out _ _ ⟨by simp [pcs, Act.put, upd, gomax, gomin, *] <;> omega, O⟩
          · rintro L a' v ⟨rfl, O⟩ hL hd hcl K hK
            have HK := Lib.hid hK
            clear hK
            have hB := O.below; have hz := O.size; have S0 : Cel v (bo) 0 (.slice (some ⟨g, 0, none⟩) (m + 1) cap) := O.cels.1; have S1 : Cel v (g) (m * 2 + 1) (.int .i64 l2) := O.cels.2.1; have S2 : Cel v (Bx) 0 (.int .i64 (l2 + 1)) := O.cels.2.2.1
            simp [Region.binds] at hd
            simp only [pcs, List.foldl_cons, List.foldl_nil, Act.put]
            go_simp
            exact HK.out _ _ ⟨by simp [pcs, Act.put, upd, gomax, gomin, *] <;> omega, O⟩
          · rintro L a' v ⟨rfl, O⟩ hL hd hcl K hK
            have HK := Lib.hid hK
            clear hK
            have hB := O.below; have hz := O.size; have S0 : Cel v (bo) 0 (.slice (some ⟨g, 0, none⟩) (m + 1) cap) := O.cels.1; have S1 : Cel v (g) (m * 2 + 1) (.int .i64 l2) := O.cels.2.1; have S2 : Cel v (Bx) 0 (.int .i64 (l2 + 1)) := O.cels.2.2.1
            simp [Region.binds] at hd
            simp only [pcs, List.foldl_cons, List.foldl_nil, Act.put]
            go_simp
            exact HK.out _ _ ⟨by simp [pcs, Act.put, upd, gomax, gomin, *] <;> omega, O⟩
          · rintro L a' v ⟨rfl, O⟩ hL hd hcl K hK
            have HK := Lib.hid hK
            clear hK
            have hB := O.below; have hz := O.size; have S0 : Cel v (bo) 0 (.slice (some ⟨g, 0, none⟩) (m + 1) cap) := O.cels.1; have S1 : Cel v (g) (m * 2 + 1) (.int .i64 l2) := O.cels.2.1; have S2 : Cel v (Bx) 0 (.int .i64 (l2 + 1)) := O.cels.2.2.1
            simp [Region.binds] at hd
            simp only [pcs, List.foldl_cons, List.foldl_nil, Act.put]
            go_simp
            exact HK.out _ _ ⟨by simp [pcs, Act.put, upd, gomax, gomin, *] <;> omega, O⟩
          · rintro L a' v ⟨rfl, O⟩ hL hd hcl K hK
            have HK := Lib.hid hK
            clear hK
            have hB := O.below; have hz := O.size; have S0 : Cel v (bo) 0 (.slice (some ⟨g, 0, none⟩) (m + 1) cap) := O.cels.1; have S1 : Cel v (g) (m * 2 + 1) (.int .i64 l2) := O.cels.2.1; have S2 : Cel v (Bx) 0 (.int .i64 (l2 + 1)) := O.cels.2.2.1
            simp [Region.binds] at hd
            simp only [pcs, List.foldl_cons, List.foldl_nil, Act.put]
            go_simp
            exact HK.out _ _ ⟨by simp [pcs, Act.put, upd, gomax, gomin, *] <;> omega, O⟩
          · rintro L a' v ⟨rfl, O⟩ hL hd hcl K hK
            have HK := Lib.hid hK
            clear hK
            have hB := O.below; have hz := O.size; have S0 : Cel v (bo) 0 (.slice (some ⟨g, 0, none⟩) (m + 1) cap) := O.cels.1; have S1 : Cel v (g) (m * 2 + 1) (.int .i64 l2) := O.cels.2.1; have S2 : Cel v (Bx) 0 (.int .i64 (l2 + 1)) := O.cels.2.2.1
            simp [Region.binds] at hd
            simp only [pcs, List.foldl_cons, List.foldl_nil, Act.put]
            go_simp
            exact HK.out _ _ ⟨by simp [pcs, Act.put, upd, gomax, gomin, *] <;> omega, O⟩
          · rintro L a' v ⟨rfl, O⟩ hL hd hcl K hK
            have HK := Lib.hid hK
            clear hK
            have hB := O.below; have hz := O.size; have S0 : Cel v (bo) 0 (.slice (some ⟨g, 0, none⟩) (m + 1) cap) := O.cels.1; have S1 : Cel v (g) (m * 2 + 1) (.int .i64 l2) := O.cels.2.1; have S2 : Cel v (Bx) 0 (.int .i64 (l2 + 1)) := O.cels.2.2.1
            simp [Region.binds] at hd
            simp only [pcs, List.foldl_cons, List.foldl_nil, Act.put]
            go_simp
            exact HK.out _ _ ⟨by simp [pcs, Act.put, upd, gomax, gomin, *] <;> omega, O⟩
          · rintro L a' v ⟨rfl, O⟩ hL hd hcl K hK
            have HK := Lib.hid hK
            clear hK
            have hB := O.below; have hz := O.size; have S0 : Cel v (bo) 0 (.slice (some ⟨g, 0, none⟩) (m + 1) cap) := O.cels.1; have S1 : Cel v (g) (m * 2 + 1) (.int .i64 l2) := O.cels.2.1; have S2 : Cel v (Bx) 0 (.int .i64 (l2 + 1)) := O.cels.2.2.1
            simp [Region.binds] at hd
            simp only [pcs, List.foldl_cons, List.foldl_nil, Act.put]
            go_simp
            exact HK.out _ _ ⟨by simp [pcs, Act.put, upd, gomax, gomin, *] <;> omega, O⟩
          · rintro L a' v ⟨rfl, O⟩ hL hd hcl K hK
            have HK := Lib.hid hK
            clear hK
            have hB := O.below; have hz := O.size; have S0 : Cel v (bo) 0 (.slice (some ⟨g, 0, none⟩) (m + 1) cap) := O.cels.1; have S1 : Cel v (g) (m * 2 + 1) (.int .i64 l2) := O.cels.2.1; have S2 : Cel v (Bx) 0 (.int .i64 (l2 + 1)) := O.cels.2.2.1
            simp [Region.binds] at hd
            simp only [pcs, List.foldl_cons, List.foldl_nil, Act.put]
            go_simp
            exact HK.out _ _ ⟨by simp [pcs, Act.put, upd, gomax, gomin, *] <;> omega, O⟩
          · rintro L a' v ⟨rfl, O⟩ hL hd hcl K hK
            have HK := Lib.hid hK
            clear hK
            have hB := O.below; have hz := O.size; have S0 : Cel v (bo) 0 (.slice (some ⟨g, 0, none⟩) (m + 1) cap) := O.cels.1; have S1 : Cel v (g) (m * 2 + 1) (.int .i64 l2) := O.cels.2.1; have S2 : Cel v (Bx) 0 (.int .i64 (l2 + 1)) := O.cels.2.2.1
            simp [Region.binds] at hd
            simp only [pcs, List.foldl_cons, List.foldl_nil, Act.put]
            go_simp
            exact HK.out _ _ ⟨by simp [pcs, Act.put, upd, gomax, gomin, *] <;> omega, O⟩
          · rintro L a' v ⟨rfl, O⟩ hL hd hcl K hK
            have HK := Lib.hid hK
            clear hK
            have hB := O.below; have hz := O.size; have S0 : Cel v (bo) 0 (.slice (some ⟨g, 0, none⟩) (m + 1) cap) := O.cels.1; have S1 : Cel v (g) (m * 2 + 1) (.int .i64 l2) := O.cels.2.1; have S2 : Cel v (Bx) 0 (.int .i64 (l2 + 1)) := O.cels.2.2.1
            simp [Region.binds] at hd
            simp only [pcs, List.foldl_cons, List.foldl_nil, Act.put]
            go_simp
            exact HK.out _ _ ⟨by simp [pcs, Act.put, upd, gomax, gomin, *] <;> omega, O⟩
          · rintro L a' v ⟨rfl, O⟩ hL hd hcl K hK
            have HK := Lib.hid hK
            clear hK
            have hB := O.below; have hz := O.size; have S0 : Cel v (bo) 0 (.slice (some ⟨g, 0, none⟩) (m + 1) cap) := O.cels.1; have S1 : Cel v (g) (m * 2 + 1) (.int .i64 l2) := O.cels.2.1; have S2 : Cel v (Bx) 0 (.int .i64 (l2 + 1)) := O.cels.2.2.1
            simp [Region.binds] at hd
            simp only [pcs, List.foldl_cons, List.foldl_nil, Act.put]
            go_simp
            exact HK.out _ _ ⟨by simp [pcs, Act.put, upd, gomax, gomin, *] <;> omega, O⟩
          · rintro L a' v ⟨rfl, O⟩ hL hd hcl K hK
            have HK := Lib.hid hK
            clear hK
            have hB := O.below; have hz := O.size; have S0 : Cel v (bo) 0 (.slice (some ⟨g, 0, none⟩) (m + 1) cap) := O.cels.1; have S1 : Cel v (g) (m * 2 + 1) (.int .i64 l2) := O.cels.2.1; have S2 : Cel v (Bx) 0 (.int .i64 (l2 + 1)) := O.cels.2.2.1
            simp [Region.binds] at hd
            simp only [pcs, List.foldl_cons, List.foldl_nil, Act.put]
            go_simp
            exact HK.out _ _ ⟨by simp [pcs, Act.put, upd, gomax, gomin, *] <;> omega, O⟩
          · rintro L a' v ⟨rfl, O⟩ hL hd hcl K hK
            have HK := Lib.hid hK
            clear hK
            have hB := O.below; have hz := O.size; have S0 : Cel v (bo) 0 (.slice (some ⟨g, 0, none⟩) (m + 1) cap) := O.cels.1; have S1 : Cel v (g) (m * 2 + 1) (.int .i64 l2) := O.cels.2.1; have S2 : Cel v (Bx) 0 (.int .i64 (l2 + 1)) := O.cels.2.2.1
            simp [Region.binds] at hd
            simp only [pcs, List.foldl_cons, List.foldl_nil, Act.put]
            go_simp
            exact HK.out _ _ ⟨by simp [pcs, Act.put, upd, gomax, gomin, *] <;> omega, O⟩
          · rintro L a' v ⟨rfl, O⟩ hL hd hcl K hK
            have HK := Lib.hid hK
            clear hK
            have hB := O.below; have hz := O.size; have S0 : Cel v (bo) 0 (.slice (some ⟨g, 0, none⟩) (m + 1) cap) := O.cels.1; have S1 : Cel v (g) (m * 2 + 1) (.int .i64 l2) := O.cels.2.1; have S2 : Cel v (Bx) 0 (.int .i64 (l2 + 1)) := O.cels.2.2.1
            simp [Region.binds] at hd
            simp only [pcs, List.foldl_cons, List.foldl_nil, Act.put]
            go_simp
            exact HK.out _ _ ⟨by simp [pcs, Act.put, upd, gomax, gomin, *] <;> omega, O⟩
        rintro L a' w2 hL ⟨ea, OO⟩
        have L0 := hL 0 (by decide); have L1 := hL 1 (by decide); have L2 := hL 2 (by decide); have L3 := hL 3 (by decide); have L4 := hL 4 (by decide); have L5 := hL 5 (by decide); have L6 := hL 6 (by decide); have L7 := hL 7 (by decide); have L8 := hL 8 (by decide); have L9 := hL 9 (by decide); have L10 := hL 10 (by decide); have L11 := hL 11 (by decide); have L12 := hL 12 (by decide); have L13 := hL 13 (by decide); have L14 := hL 14 (by decide)
        have hB2 := OO.below; have hz2 := OO.size; have hl2 := OO.le; have S2_0 : Cel w2 (bo) 0 (.slice (some ⟨g, 0, none⟩) (m + 1) cap) := OO.cels.1; have S2_1 : Cel w2 (g) (m * 2 + 1) (.int .i64 l2) := OO.cels.2.1; have S2_2 : Cel w2 (Bx) 0 (.int .i64 (l2 + 1)) := OO.cels.2.2.1
        simp [pcs, Act.put, L0, L1, L2, L3, L4, L5, L6, L7, L8, L9, L10, L11, L12, L13, L14] at ea
        subst ea
        clear hL L0 L1 L2 L3 L4 L5 L6 L7 L8 L9 L10 L11 L12 L13 L14
        have O2 : Own W (w2.heap.size) w2 [(bo, 0, .slice (some ⟨g, 0, none⟩) (m + 1) cap), (g, (m * 2 + 1), .int .i64 l2), (Bx, 0, .int .i64 (l2 + 1))] := ⟨hB2, Nat.le_refl _, (by (repeat' (first | (with_reducible assumption) | (with_reducible exact Below.refl _ _) | (with_reducible exact Cels.nil _) | (with_reducible refine Cels.cons ?_ ?_) | (with_reducible refine Own.mk ?_ ?_ ?_ ?_) | ((with_reducible refine Cel.new ?_ rfl); first | (with_reducible rfl) | omega | (simp; done) | (simp; omega)) | (with_reducible refine Cel.alloc ?_ _) | (with_reducible refine Cel.drew ?_) | (with_reducible refine Cel.setS ?_ _) | (with_reducible refine Has.set ?_ _ _) | (with_reducible exact Has.of (by assumption)) | (with_reducible refine Cel.setO ?_ ?_ _) | (with_reducible refine Cel.keep (by assumption) ?_) | (with_reducible refine Below.alloc ?_ ?_ _) | (with_reducible refine Below.drew ?_) | (with_reducible refine Below.setCell ?_ ?_ _) | (with_reducible refine below_keep ?_ ?_ (by assumption)) | omega | (simp; done) | (simp; omega)))), hB2.size⟩
        clear OO
        have hvb2 := boxed_below hvb hB2
        have hrow2 := row_below hrow hB2
        have Y1 := X1.keep hB2
        gi_wp2
        have kk := (((KK.refl (n₀ := w.heap.size + 2) (bO := bo) (B := bo + 1) (Bk := Bk) W).below hB2 (by omega) (by omega)).row (g := g) (o := m * 2 + 1) (.int .i64 xc) (by omega) (by rw [rowAt_box hvb2]; rfl) hgb)
        have hst := (hrow2.stored (m * 2 + 1) (.int .i64 xc)).1
        rw [cs] at hst
        have hm := HM.out
        exact ⟨kk.1, kk.2, ⟨⟨_, (setCell_block _ _ _ _ _ (Ne.symm hgb)).trans hvb2, by simpa [← hm] using hst⟩, O.low kk.2.below (by omega) (by simp)⟩, hok2, hlen2⟩
      · rw [addW_new g1 g2] at hok2 hlen2 ⊢
        have g3 : (l2 + 1 == xa) = false := by simp; omega
        gi_wp2
        refine regionIn_by (Free.round l) (fun a0 L a' w' => a' = pcs a0 [(30, L 0, .int .i64 (((m : Int) + 1))), (31, L 1, .bool true), (32, L 2, .bool true), (33, L 3, .slice (some ⟨g, 0, none⟩) (m + 1) cap), (34, L 4, .int .i64 (((m : Int) + 1))), (35, L 5, .int .i64 ((m : Int))), (36, L 6, .pointer (some ⟨g, m * 2, none⟩)), (37, L 7, .pointer (some ⟨g, m * 2 + 1, none⟩)), (38, L 8, .int .i64 l2), (39, L 9, .int .i64 ((l2 + 1))), (40, L 10, .pointer (some ⟨Bx, 0, none⟩)), (41, L 11, .pointer (some ⟨Bx, 0, none⟩)), (42, L 12, .int .i64 xa), (43, L 13, .bool false), (44, L 14, .bool false)] ∧ Own W (W.heap.size) w' [(bo, 0, .slice (some ⟨g, 0, none⟩) (m + 1) cap), (g, (m * 2 + 1), .int .i64 l2), (Bx, 0, .int .i64 xa)]) (by kernel_rfl) (by kernel_rfl) (by kernel_rfl) ?_ ?_ ?_
        · exact ⟨(pcs_start _ _ (by simp)).symm, by (repeat' (first | (with_reducible assumption) | (with_reducible exact Below.refl _ _) | (with_reducible exact Cels.nil _) | (with_reducible refine Cels.cons ?_ ?_) | (with_reducible refine Own.mk ?_ ?_ ?_ ?_) | ((with_reducible refine Cel.new ?_ rfl); first | (with_reducible rfl) | omega | (simp; done) | (simp; omega)) | (with_reducible refine Cel.alloc ?_ _) | (with_reducible refine Cel.drew ?_) | (with_reducible refine Cel.setS ?_ _) | (with_reducible refine Has.set ?_ _ _) | (with_reducible exact Has.of (by assumption)) | (with_reducible refine Cel.setO ?_ ?_ _) | (with_reducible refine Cel.keep (by assumption) ?_) | (with_reducible refine Below.alloc ?_ ?_ _) | (with_reducible refine Below.drew ?_) | (with_reducible refine Below.setCell ?_ ?_ _) | (with_reducible refine below_keep ?_ ?_ (by assumption)) | omega | (simp; done) | (simp; omega)))⟩
        · refine ⟨?_, ?_, ?_, ?_, ?_, ?_, ?_, ?_, ?_, ?_, ?_, ?_, ?_, ?_, ?_, trivial⟩
          · rintro L a' v ⟨rfl, O⟩ hL hd hcl K hK
            have HK := Lib.hid hK
            clear hK
            have hB := O.below; have hz := O.size; have S0 : Cel v (bo) 0 (.slice (some ⟨g, 0, none⟩) (m + 1) cap) := O.cels.1; have S1 : Cel v (g) (m * 2 + 1) (.int .i64 l2) := O.cels.2.1; have S2 : Cel v (Bx) 0 (.int .i64 xa) := O.cels.2.2.1
            simp [Region.binds] at hd
            simp only [pcs, List.foldl_cons, List.foldl_nil, Act.put]
            go_simp
            exact HK.out _ _ ⟨by simp [pcs, Act.put, upd, gomax, gomin, *] <;> omega, O⟩
          · rintro L a' v ⟨rfl, O⟩ hL hd hcl K hK
            have HK := Lib.hid hK
            clear hK
            have hB := O.below; have hz := O.size; have S0 : Cel v (bo) 0 (.slice (some ⟨g, 0, none⟩) (m + 1) cap) := O.cels.1; have S1 : Cel v (g) (m * 2 + 1) (.int .i64 l2) := O.cels.2.1; have S2 : Cel v (Bx) 0 (.int .i64 xa) := O.cels.2.2.1
            simp [Region.binds] at hd
            simp only [pcs, List.foldl_cons, List.foldl_nil, Act.put]
            go_simp
            exact HK.out _ _ ⟨by simp [pcs, Act.put, upd, gomax, gomin, *] <;> omega, O⟩
          · rintro L a' v ⟨rfl, O⟩ hL hd hcl K hK
            have HK := Lib.hid hK
            clear hK
            have hB := O.below; have hz := O.size; have S0 : Cel v (bo) 0 (.slice (some ⟨g, 0, none⟩) (m + 1) cap) := O.cels.1; have S1 : Cel v (g) (m * 2 + 1) (.int .i64 l2) := O.cels.2.1; have S2 : Cel v (Bx) 0 (.int .i64 xa) := O.cels.2.2.1
            simp [Region.binds] at hd
            simp only [pcs, List.foldl_cons, List.foldl_nil, Act.put]
            go_simp
            exact HK.out _ _ ⟨by simp [pcs, Act.put, upd, gomax, gomin, *] <;> omega, O⟩
          · rintro L a' v ⟨rfl, O⟩ hL hd hcl K hK
            have HK := Lib.hid hK
            clear hK
            have hB := O.below; have hz := O.size; have S0 : Cel v (bo) 0 (.slice (some ⟨g, 0, none⟩) (m + 1) cap) := O.cels.1; have S1 : Cel v (g) (m * 2 + 1) (.int .i64 l2) := O.cels.2.1; have S2 : Cel v (Bx) 0 (.int .i64 xa) := O.cels.2.2.1
            simp [Region.binds] at hd
            simp only [pcs, List.foldl_cons, List.foldl_nil, Act.put]
            go_simp
            exact HK.out _ _ ⟨by simp [pcs, Act.put, upd, gomax, gomin, *] <;> omega, O⟩
          · rintro L a' v ⟨rfl, O⟩ hL hd hcl K hK
            have HK := Lib.hid hK
            clear hK
            have hB := O.below; have hz := O.size; have S0 : Cel v (bo) 0 (.slice (some ⟨g, 0, none⟩) (m + 1) cap) := O.cels.1; have S1 : Cel v (g) (m * 2 + 1) (.int .i64 l2) := O.cels.2.1; have S2 : Cel v (Bx) 0 (.int .i64 xa) := O.cels.2.2.1
            simp [Region.binds] at hd
            simp only [pcs, List.foldl_cons, List.foldl_nil, Act.put]
            go_simp
            exact HK.out _ _ ⟨by simp [pcs, Act.put, upd, gomax, gomin, *] <;> omega, O⟩
          · rintro L a' v ⟨rfl, O⟩ hL hd hcl K hK
            have HK := Lib.hid hK
            clear hK
            have hB := O.below; have hz := O.size; have S0 : Cel v (bo) 0 (.slice (some ⟨g, 0, none⟩) (m + 1) cap) := O.cels.1; have S1 : Cel v (g) (m * 2 + 1) (.int .i64 l2) := O.cels.2.1; have S2 : Cel v (Bx) 0 (.int .i64 xa) := O.cels.2.2.1
            simp [Region.binds] at hd
            simp only [pcs, List.foldl_cons, List.foldl_nil, Act.put]
            go_simp
            exact HK.out _ _ ⟨by simp [pcs, Act.put, upd, gomax, gomin, *] <;> omega, O⟩
          · rintro L a' v ⟨rfl, O⟩ hL hd hcl K hK
            have HK := Lib.hid hK
            clear hK
            have hB := O.below; have hz := O.size; have S0 : Cel v (bo) 0 (.slice (some ⟨g, 0, none⟩) (m + 1) cap) := O.cels.1; have S1 : Cel v (g) (m * 2 + 1) (.int .i64 l2) := O.cels.2.1; have S2 : Cel v (Bx) 0 (.int .i64 xa) := O.cels.2.2.1
            simp [Region.binds] at hd
            simp only [pcs, List.foldl_cons, List.foldl_nil, Act.put]
            go_simp
            exact HK.out _ _ ⟨by simp [pcs, Act.put, upd, gomax, gomin, *] <;> omega, O⟩
          · rintro L a' v ⟨rfl, O⟩ hL hd hcl K hK
            have HK := Lib.hid hK
            clear hK
            have hB := O.below; have hz := O.size; have S0 : Cel v (bo) 0 (.slice (some ⟨g, 0, none⟩) (m + 1) cap) := O.cels.1; have S1 : Cel v (g) (m * 2 + 1) (.int .i64 l2) := O.cels.2.1; have S2 : Cel v (Bx) 0 (.int .i64 xa) := O.cels.2.2.1
            simp [Region.binds] at hd
            simp only [pcs, List.foldl_cons, List.foldl_nil, Act.put]
            go_simp
            exact HK.out _ _ ⟨by simp [pcs, Act.put, upd, gomax, gomin, *] <;> omega, O⟩
          · rintro L a' v ⟨rfl, O⟩ hL hd hcl K hK
            have HK := Lib.hid hK
            clear hK
            have hB := O.below; have hz := O.size; have S0 : Cel v (bo) 0 (.slice (some ⟨g, 0, none⟩) (m + 1) cap) := O.cels.1; have S1 : Cel v (g) (m * 2 + 1) (.int .i64 l2) := O.cels.2.1; have S2 : Cel v (Bx) 0 (.int .i64 xa) := O.cels.2.2.1
            simp [Region.binds] at hd
            simp only [pcs, List.foldl_cons, List.foldl_nil, Act.put]
            go_simp
            exact HK.out _ _ ⟨by simp [pcs, Act.put, upd, gomax, gomin, *] <;> omega, O⟩
          · rintro L a' v ⟨rfl, O⟩ hL hd hcl K hK
            have HK := Lib.hid hK
            clear hK
            have hB := O.below; have hz := O.size; have S0 : Cel v (bo) 0 (.slice (some ⟨g, 0, none⟩) (m + 1) cap) := O.cels.1; have S1 : Cel v (g) (m * 2 + 1) (.int .i64 l2) := O.cels.2.1; have S2 : Cel v (Bx) 0 (.int .i64 xa) := O.cels.2.2.1
            simp [Region.binds] at hd
            simp only [pcs, List.foldl_cons, List.foldl_nil, Act.put]
            go_simp
            exact HK.out _ _ ⟨by simp [pcs, Act.put, upd, gomax, gomin, *] <;> omega, O⟩
          · rintro L a' v ⟨rfl, O⟩ hL hd hcl K hK
            have HK := Lib.hid hK
            clear hK
            have hB := O.below; have hz := O.size; have S0 : Cel v (bo) 0 (.slice (some ⟨g, 0, none⟩) (m + 1) cap) := O.cels.1; have S1 : Cel v (g) (m * 2 + 1) (.int .i64 l2) := O.cels.2.1; have S2 : Cel v (Bx) 0 (.int .i64 xa) := O.cels.2.2.1
            simp [Region.binds] at hd
            simp only [pcs, List.foldl_cons, List.foldl_nil, Act.put]
            go_simp
            exact HK.out _ _ ⟨by simp [pcs, Act.put, upd, gomax, gomin, *] <;> omega, O⟩
          · rintro L a' v ⟨rfl, O⟩ hL hd hcl K hK
            have HK := Lib.hid hK
            clear hK
            have hB := O.below; have hz := O.size; have S0 : Cel v (bo) 0 (.slice (some ⟨g, 0, none⟩) (m + 1) cap) := O.cels.1; have S1 : Cel v (g) (m * 2 + 1) (.int .i64 l2) := O.cels.2.1; have S2 : Cel v (Bx) 0 (.int .i64 xa) := O.cels.2.2.1
            simp [Region.binds] at hd
            simp only [pcs, List.foldl_cons, List.foldl_nil, Act.put]
            go_simp
            exact HK.out _ _ ⟨by simp [pcs, Act.put, upd, gomax, gomin, *] <;> omega, O⟩
          · rintro L a' v ⟨rfl, O⟩ hL hd hcl K hK
            have HK := Lib.hid hK
            clear hK
            have hB := O.below; have hz := O.size; have S0 : Cel v (bo) 0 (.slice (some ⟨g, 0, none⟩) (m + 1) cap) := O.cels.1; have S1 : Cel v (g) (m * 2 + 1) (.int .i64 l2) := O.cels.2.1; have S2 : Cel v (Bx) 0 (.int .i64 xa) := O.cels.2.2.1
            simp [Region.binds] at hd
            simp only [pcs, List.foldl_cons, List.foldl_nil, Act.put]
            go_simp
            exact HK.out _ _ ⟨by simp [pcs, Act.put, upd, gomax, gomin, *] <;> omega, O⟩
          · rintro L a' v ⟨rfl, O⟩ hL hd hcl K hK
            have HK := Lib.hid hK
            clear hK
            have hB := O.below; have hz := O.size; have S0 : Cel v (bo) 0 (.slice (some ⟨g, 0, none⟩) (m + 1) cap) := O.cels.1; have S1 : Cel v (g) (m * 2 + 1) (.int .i64 l2) := O.cels.2.1; have S2 : Cel v (Bx) 0 (.int .i64 xa) := O.cels.2.2.1
            simp [Region.binds] at hd
            simp only [pcs, List.foldl_cons, List.foldl_nil, Act.put]
            go_simp
            exact HK.out _ _ ⟨by simp [pcs, Act.put, upd, gomax, gomin, *] <;> omega, O⟩
          · rintro L a' v ⟨rfl, O⟩ hL hd hcl K hK
            have HK := Lib.hid hK
            clear hK
            have hB := O.below; have hz := O.size; have S0 : Cel v (bo) 0 (.slice (some ⟨g, 0, none⟩) (m + 1) cap) := O.cels.1; have S1 : Cel v (g) (m * 2 + 1) (.int .i64 l2) := O.cels.2.1; have S2 : Cel v (Bx) 0 (.int .i64 xa) := O.cels.2.2.1
            simp [Region.binds] at hd
            simp only [pcs, List.foldl_cons, List.foldl_nil, Act.put]
            go_simp
            exact HK.out _ _ ⟨by simp [pcs, Act.put, upd, gomax, gomin, *] <;> omega, O⟩
        rintro L a' w2 hL ⟨ea, OO⟩
        have L0 := hL 0 (by decide); have L1 := hL 1 (by decide); have L2 := hL 2 (by decide); have L3 := hL 3 (by decide); have L4 := hL 4 (by decide); have L5 := hL 5 (by decide); have L6 := hL 6 (by decide); have L7 := hL 7 (by decide); have L8 := hL 8 (by decide); have L9 := hL 9 (by decide); have L10 := hL 10 (by decide); have L11 := hL 11 (by decide); have L12 := hL 12 (by decide); have L13 := hL 13 (by decide); have L14 := hL 14 (by decide)
        have hB2 := OO.below; have hz2 := OO.size; have hl2 := OO.le; have S2_0 : Cel w2 (bo) 0 (.slice (some ⟨g, 0, none⟩) (m + 1) cap) := OO.cels.1; have S2_1 : Cel w2 (g) (m * 2 + 1) (.int .i64 l2) := OO.cels.2.1; have S2_2 : Cel w2 (Bx) 0 (.int .i64 xa) := OO.cels.2.2.1
        simp [pcs, Act.put, L0, L1, L2, L3, L4, L5, L6, L7, L8, L9, L10, L11, L12, L13, L14] at ea
        subst ea
        clear hL L0 L1 L2 L3 L4 L5 L6 L7 L8 L9 L10 L11 L12 L13 L14
        have O2 : Own W (w2.heap.size) w2 [(bo, 0, .slice (some ⟨g, 0, none⟩) (m + 1) cap), (g, (m * 2 + 1), .int .i64 l2), (Bx, 0, .int .i64 xa)] := ⟨hB2, Nat.le_refl _, (by (repeat' (first | (with_reducible assumption) | (with_reducible exact Below.refl _ _) | (with_reducible exact Cels.nil _) | (with_reducible refine Cels.cons ?_ ?_) | (with_reducible refine Own.mk ?_ ?_ ?_ ?_) | ((with_reducible refine Cel.new ?_ rfl); first | (with_reducible rfl) | omega | (simp; done) | (simp; omega)) | (with_reducible refine Cel.alloc ?_ _) | (with_reducible refine Cel.drew ?_) | (with_reducible refine Cel.setS ?_ _) | (with_reducible refine Has.set ?_ _ _) | (with_reducible exact Has.of (by assumption)) | (with_reducible refine Cel.setO ?_ ?_ _) | (with_reducible refine Cel.keep (by assumption) ?_) | (with_reducible refine Below.alloc ?_ ?_ _) | (with_reducible refine Below.drew ?_) | (with_reducible refine Below.setCell ?_ ?_ _) | (with_reducible refine below_keep ?_ ?_ (by assumption)) | omega | (simp; done) | (simp; omega)))), hB2.size⟩
        clear OO
        have hvb2 := boxed_below hvb hB2
        have hrow2 := row_below hrow hB2
        have Y0 := X0.keep hB2
        have Y1 := X1.keep hB2
        clear S2_1 S2_2 O2
        gi_wp2_with (gi_at_builtin; refine wpListIn_append_row _ rfl _ _ 22 rfl (w.heap.size + 2) 30 i0 (.agg #[.int .i64 0, .int .i64 0]) 2 16 Try.underlying22 ii0 iz0 iz1 iz2 rfl (by decide) _ _ _ rfl (hrow2.alloc _) ⟨w2.heap.size, 0, none⟩ 1 1 [.int .i64 xa, .int .i64 xc] rfl rfl (cells_two _ _ _ _) (by simp [Value.oneCell']) (by (unfold maxLen; omega)) (by omega) (by (simp; omega)) (by omega) ?_; intro v' w9 hown' hgrow hblk; obtain ⟨g', cap', rfl⟩ := ownsRow_succ hown'; obtain ⟨hv1, hv2, hr2, kk⟩ := KK.append ((KK.refl (n₀ := w.heap.size + 2) (bO := bo) (B := bo + 1) (Bk := Bk) W).below hB2 (by omega) (by omega)) hvb2 (by decide) hrow2 (by omega) (by omega) (by omega) hown' hgrow hblk; have hc1 := hv1.cell; have hf1 := hv1.frozen)
        have hm := HM.out
        exact ⟨kk.1, kk.2, ⟨⟨_, hv2, by simpa [rowc_app, rowc, ← hm] using hr2⟩, O.low kk.2.below (by omega) (by simp)⟩, hok2, hlen2⟩
  case done =>
    rintro D xs W hD hxs ⟨⟨⟨v, hvb, hrow⟩, O⟩, okw, hwl⟩ hK
    rw [hxs] at hrow okw hwl
    have hc := hvb.cell
    obtain ⟨p', c', rfl, hlie⟩ := lie_of_row hrow
    gi_wp2
    go_wp2
    refine ⟨by simp, .inl ⟨_, _, rfl, run_takeDeferred hK, ?_⟩⟩
    have O3 := own_putObj (.deferred none) O (by omega) hK rfl
    obtain ⟨p2, c2, e2, hlie2⟩ := lie_of_row (ownsRow_putObj hrow (.deferred none) hK rfl)
    cases e2
    exact ⟨.tuple #[.slice p' (win need (strs s st lo hi n)).length c', .int .i64 0], by simp [results, Try.results17, go_sem], ⟨_, _, rfl, hlie2⟩, O3.below⟩

end Go.Proofs.Ytmljnelmnagfoaa
