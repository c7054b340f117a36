/- Part 10 of 16: contracts of functions and plain laws for the root text. No condition. -/
import Derived.Test.YtcfechepbamhkaaGreatY01
import Derived.Test.YtcfechepbamhkaaGreatY02
import Derived.Test.YtcfechepbamhkaaGreatY03
import Derived.Test.YtcfechepbamhkaaGreatY04
import Derived.Test.YtcfechepbamhkaaGreatY05
import Derived.Test.YtcfechepbamhkaaGreatY06
import Derived.Test.YtcfechepbamhkaaGreatY07
import Derived.Test.YtcfechepbamhkaaGreatY08
import Derived.Test.YtcfechepbamhkaaGreatY09
import Derived.Laws.Tables
import Derived.Laws.IdiomCopy
import Derived.Laws.AppendOwn
set_option linter.unusedVariables false
set_option linter.unusedSimpArgs false
namespace Go.Proofs.YtcfechepbamhkaaGreat
open Go.RowKit Go.Sea Go.Sort
def lS (zs : List Int) (p : Nat) (x : Int) : List Int := zs.take p ++ x :: zs.drop p
theorem je {zs : List Int} {p : Nat} {x : Int} (hp : p <= zs.length) : (lS zs p x).length = zs.length + 1 := by simp [lS]; omega
theorem uK {zs : List Int} {p : Nat} {x : Int} {k : Nat} (hp : p <= zs.length) (hk : k < p) : (lS zs p x).getD k 0 = zs.getD k 0 := by
  unfold lS; rw [List.getD, List.getElem?_append_left (by simp; omega), List.getElem?_take, if_pos hk]; rfl
theorem tF {zs : List Int} {p : Nat} {x : Int} (hp : p <= zs.length) : (lS zs p x).getD p 0 = x := by
  unfold lS; rw [List.getD, List.getElem?_append_right (by simp; omega)]; simp [Nat.min_eq_left hp]
theorem FY {zs : List Int} {p : Nat} {x : Int} {k : Nat} (hp : p <= zs.length) (hk : p < k) : (lS zs p x).getD k 0 = zs.getD (k - 1) 0 := by
  unfold lS
  rw [List.getD, List.getElem?_append_right (by simp; omega)]
  simp only [List.length_take, Nat.min_eq_left hp]
  obtain ⟨m, rfl⟩ : ∃ m, k = p + 1 + m := ⟨k - (p + 1), by omega⟩
  rw [show p + 1 + m - p = m + 1 by omega, List.getElem?_cons_succ, List.getElem?_drop, show p + 1 + m - 1 = p + m by omega]; rfl
theorem iG {b : Nat} {e : TypeId} : ∀ (vs : List Value) (o : Nat) (w : World) (c : Array Value), w.heap[b]? = some (.cells c e (0, 0)) -> o + vs.length <= c.size ->
    ∃ c' : Array Value, w.setCells b o vs = w.setRow b c' /\ c'.size = c.size /\ ∀ k, c'[k]? = if o <= k /\ k < o + vs.length then vs[k - o]? else c[k]?
  | [], o, w, c, hb, _ => ⟨c, by
      show w = w.setRow b c
      have : (w.setRow b c).heap = w.heap := by
        apply Array.ext_getElem?
        intro k
        by_cases hk : k = b
        · subst hk; rw [setRow_heap w k c c e (0, 0) hb, hb]
        · exact setRow_other w b k c hk
      show w = { w with heap := (w.setRow b c).heap }
      rw [this], rfl, fun k => by rw [if_neg (by simp only [List.length_nil]; omega)]⟩
  | v :: r, o, w, c, hb, hl => by
    have hl' : o + 1 + r.length <= c.size := by simp at hl; omega
    have e1 := setCell_eq_setRow w b o c e (0, 0) v hb
    obtain ⟨c', h1, h2, h3⟩ := iG r (o + 1) (w.setCell ⟨b, o, none⟩ v) (c.setIfInBounds o v) (by rw [e1]; exact setRow_heap w b c _ e (0, 0) hb) (by simpa using hl')
    refine ⟨c', ?_, by simpa using h2, fun k => ?_⟩
    · rw [World.setCells, h1, e1, setRow_setRow]
    · rw [h3]
      by_cases hk : k = o
      · subst hk
        rw [if_neg (by omega), if_pos (by simp), Nat.sub_self, Array.getElem?_setIfInBounds, if_pos rfl, if_pos (by omega)]; rfl
      · by_cases hi : o + 1 <= k /\ k < o + 1 + r.length
        · rw [if_pos hi, if_pos (by simp; omega)]
          obtain ⟨m, rfl⟩ : ∃ m, k = o + 1 + m := ⟨k - (o + 1), by omega⟩
          rw [show o + 1 + m - (o + 1) = m by omega, show o + 1 + m - o = m + 1 by omega, List.getElem?_cons_succ]
        · rw [if_neg hi, if_neg (by simp; omega), Array.getElem?_setIfInBounds, if_neg (by omega)]
theorem kY (w : World) (C D : Array Value) (e : TypeId) : (w.alloc (.cells C e)).setRow w.heap.size D = w.alloc (.cells D e) := by
  unfold World.setRow World.alloc
  simp only [World.mk.injEq, and_true]
  apply Array.ext_getElem?
  intro k
  rw [Array.getElem?_modify]
  by_cases h : w.heap.size = k
  · subst h; rw [if_pos rfl]; simp
  · rw [if_neg h]
    by_cases h2 : k < w.heap.size
    · rw [Array.getElem?_push_lt h2, Array.getElem?_push_lt h2]
    · rw [Array.getElem?_eq_none (by simp; omega), Array.getElem?_eq_none (by simp; omega)]
section
variable {w0 : World} {Z0 : Fr} {J : Nat -> Option Nat} {Z : Nat -> Prop} {s : AS} {a : Act} {w : World}
theorem Oo {ys : List Int} {c : Array Value} (h : ∀ k, k < ys.length -> c[k]? = some (.int .i64 (ys.getD k 0))) (hs : ys.length <= c.size) : aQ (bK w J Z) (c.toList.take (dU ys).length) (dU ys) := by
  refine aQ.of (by simp [aZ]; omega) fun k u y hu hy => ?_
  have hk : k < ys.length := by
    rw [List.getElem?_take] at hu
    split at hu
    · rename_i h; rwa [aZ] at h
    · cases hu
  rw [List.getElem?_take, if_pos (by rw [aZ]; exact hk), Array.getElem?_toList, h k hk] at hu
  simp [dU, hk] at hy
  cases hu; subst hy
  have : ys.getD k 0 = ys[k] := by simp [List.getD, hk]
  rw [this]
  exact Rd.g _ rfl
theorem QT (zs : List Int) (i : Nat) : gJ i (dU zs) = dU zs := jK i (ig zs)
theorem Ou (R : Rel w0 Z0 J Z s a w) {i b : Nat} {cs : List CV} {c c' : Array Value} {e : TypeId} {zs : List Int} (hi : hget s.heap i = some cs) (hj : J i = some b) (hb : w.heap[b]? = some (.cells c e (0, 0))) (hsz : c'.size = c.size) (hl : zs.length <= c'.size) (h : ∀ k, k < zs.length -> c'[k]? = some (.int .i64 (zs.getD k 0))) :
    Rel w0 Z0 J Z (s.qm 0 (.app i (dU zs))) a (w.setRow b c') := by
  have R1 := Rel.set R hi hj hb hsz (aG s.heap i (dU zs)) (fun q hq => aH _ _ _ _ hq) (Oo h hl)
  have R2 := R1.cB i
  simp only [AS.cB, j5, QT] at R2
  exact R2
theorem aak (R : Rel w0 Z0 J Z s a w) {i : Nat} {cs : List CV} {C : Array Value} {e : TypeId} {zs : List Int} (hi : hget s.heap i = some cs) (hl : zs.length <= C.size) (h : ∀ k, k < zs.length -> C[k]? = some (.int .i64 (zs.getD k 0))) :
    Rel w0 Z0 (fM J i w.heap.size) Z (s.qm 0 (.app i (dU zs))) a (w.alloc (.cells C e)) := by
  refine Rel.move (s := s.cB i) (cs := dU zs) (R.cB i) ?_ (aG _ _ _) (fun q hq => aH _ _ _ _ hq) (fun t => ?_) (fun f t => ?_) (fun q x hq y hy => ?_) (Oo h hl)
  · simp [AS.cB, fU, hi]
  · simp only [AS.cB, AS.get, kC]; exact AV.j6 i _
  · simp only [AS.cB, uT]; exact AV.j6 i _
  · by_cases hqk : q = i
    · subst hqk
      rw [aG, Option.some.injEq] at hq
      subst hq
      have := ig _ y hy
      cases y <;> first | trivial | exact this.elim
    · rw [aH _ _ _ _ hqk] at hq
      simp only [AS.cB, fU, Option.map_eq_some_iff] at hq
      obtain ⟨cs0, _, rfl⟩ := hq
      exact qw i _ y hy
theorem Zg {zs : List Int} {c : Array Value} (h : ∀ j, j < zs.length -> c[j]? = some (.int .i64 (zs.getD j 0))) {b : Nat} {e : TypeId} (hb : w.heap[b]? = some (.cells c e (0, 0))) : ∀ j v, (zs.map (Value.int .i64))[j]? = some v -> w.cell? ⟨b, 0 + j, none⟩ = some v := fun j v hv => by
  rw [cell_of_row w b _ c e _ hb, Nat.zero_add]
  rw [List.getElem?_map] at hv
  cases hz : zs[j]? with
  | none => rw [hz] at hv; cases hv
  | some z =>
    rw [hz] at hv
    obtain ⟨hj, rfl⟩ := List.getElem?_eq_some_iff.1 hz
    rw [h j hj]
    simp [List.getD, hj] at hv ⊢; exact hv
theorem D6 (zs : List Int) : ∀ v ∈ zs.map (Value.int .i64), v.oneCell' = true := fun v hv => by
  obtain ⟨z, _, rfl⟩ := List.mem_map.1 hv; rfl
theorem tV {zs : List Int} {k : Nat} (hk : k < zs.length) : (zs.map (Value.int .i64))[k]? = some (.int .i64 (zs.getD k 0)) := by
  rw [List.getElem?_map, List.getElem?_eq_getElem hk]; simp [List.getD, hk]
theorem P9 {zs : List Int} {p : Nat} {x : Int} (hp : p <= zs.length) {c c1 c2 : Array Value} (h : ∀ k, k < p -> c[k]? = some (.int .i64 (zs.getD k 0)))
    (h1 : ∀ k, c1[k]? = if p + 1 <= k /\ k < p + 1 + (zs.map (Value.int .i64)).length - p then ((zs.map (Value.int .i64)).drop p)[k - (p + 1)]? else c[k]?) (h2 : ∀ k, c2[k]? = if p <= k /\ k < p + 1 then [Value.int .i64 x][k - p]? else c1[k]?) : ∀ k, k < (lS zs p x).length -> c2[k]? = some (.int .i64 ((lS zs p x).getD k 0)) := fun k hk => by
  rw [je hp] at hk
  rcases Nat.lt_trichotomy k p with hl | rfl | hl
  · rw [h2, if_neg (by omega), h1, if_neg (by omega), h k hl, uK hp hl]
  · rw [h2, if_pos (by omega), Nat.sub_self, tF hp]; rfl
  · rw [h2, if_neg (by omega), h1, if_pos (by rw [List.length_map]; omega), FY hp hl, List.getElem?_drop, show p + (k - (p + 1)) = k - 1 by omega, tV (by omega)]
end
set_option maxHeartbeats 1000000 in
theorem akc {w0 : World} {Z0 : Fr} {J : Nat -> Option Nat} {Z : Nat -> Prop} {s : AS} {a : Act} {w : World} (R : Rel w0 Z0 J Z s a w) {i j : Nat} {zs : List Int} {p : Nat} {x : Int} {vs : Array Value} (hi : hget s.heap i = some (dU zs)) (hj : hget s.heap j = some [.iv (.g (.int .i64 x))]) (hij : i ≠ j) (hp : p <= zs.length) (hz : (zs.length + 1) * 8 <= 140737488355328)
    (hv : aQ (cu w J Z) vs.toList [.one (.slc i 0 zs.length 1), .one (.iv (.g (.int .i64 (p : Int)))), .one (.slc j 0 1 1)]) :
    Calls Tryz.prog 101 vs w fun e w' => ∃ v J', e = .returned v /\ Rel w0 Z0 J' Z (s.qm 0 (.app i (dU (lS zs p x)))) a w' /\ bq w' J' Z v (.t (.one (.slc i 0 (zs.length + 1) 1))) := by
  obtain ⟨vs⟩ := vs
  match vs, hv with
  | [v1, v2, v3], ⟨h1, h2, h3, _⟩ =>
    have e2 : v2 = .int .i64 p := by cases h2; rfl
    subst e2
    rcases h3 with ⟨h3, _⟩ | ⟨vb, vc, C, eC, rfl, hjv, hvc1, hvc2, hbv, hsv⟩
    · cases h3
    have hne : zs.length + 1 <= maxLen := by unfold maxLen; omega
    have hV : ∀ q v, [Value.int .i64 x][q]? = some v -> w.cell? ⟨vb, 0 + q, none⟩ = some v := fun q v hq => by
      obtain ⟨c1, e1, g2, g3⟩ := R.cells hj (by simp) hjv ⟨_, _, hbv⟩
      rw [hbv] at g2; cases g2
      rcases q with _ | q
      · rw [cell_of_row w vb _ C eC _ hbv, Nat.zero_add]
        obtain ⟨u, hu, hr⟩ := g3.get (k := 0) (y := .iv (.g (.int .i64 x))) rfl
        rw [List.getElem?_take, if_pos (by simp), Array.getElem?_toList] at hu
        rw [hu]; cases hr; exact hq
      · simp at hq
    have h1v : ∀ v ∈ [Value.int .i64 x], v.oneCell' = true := fun v hv => by simp at hv; subst hv; rfl
    have new : ∀ (e : Ending) (W : World) (c : Nat) (C2 : Array Value), e = .returned (.slice (some ⟨w.heap.size, 0, none⟩) (zs.length + 1) (grownCap w (zs.length + 1) c 3)) -> Rel w0 Z0 J Z s a W -> W.heap.size = w.heap.size -> (∀ k, k < (lS zs p x).length -> C2[k]? = some (.int .i64 ((lS zs p x).getD k 0))) -> C2.size = zs.length + 1 + (grownCap w (zs.length + 1) c 3 - (zs.length + 1)) ->
        ∃ v J', e = .returned v /\ Rel w0 Z0 J' Z (s.qm 0 (.app i (dU (lS zs p x)))) a (W.alloc (.cells C2 3)) /\ bq (W.alloc (.cells C2 3)) J' Z v (.t (.one (.slc i 0 (zs.length + 1) 1))) := fun e W c C2 he RW hWs hC hsz => by
      have hg := grownCap_ge w (zs.length + 1) c 3
      have hl := je (x := x) hp
      refine ⟨_, _, he, aak RW hi (by rw [hl]; omega) hC, ?_⟩
      refine Or.inr ⟨w.heap.size, _, _, 3, rfl, by simp [fM, hWs], hg, grownCap_le_maxLen w _ _ 3 hne, ?_, by rw [hsz]; omega⟩
      rw [<- hWs]; exact heap_alloc_new W _
    have hlz : (zs.map (Value.int .i64)).length = zs.length := List.length_map _
    rcases h1 with ⟨h0, rfl⟩ | ⟨b, cap, c, e, rfl, hjb, hc1, hc2, hb, hs⟩
    · -- nil
      have hz0 : zs = [] := List.eq_nil_of_length_eq_zero h0
      subst hz0
      obtain rfl : p = 0 := by simpa using hp
      have H : Calls Tryz.prog 101 #[.slice none 0 0, .int .i64 (0 : Nat), .slice (some ⟨vb, 0, none⟩) 1 vc] w fun e w' => e = .returned (.slice (some ⟨w.heap.size, 0, none⟩) (0 + 1) (grownCap w (0 + 1) 0 3)) /\ w' = w.drew.alloc (.cells (([] ++ [Value.int .i64 x]).toArray ++ Builtin.zeroCells (Value.int .i64 0).cells (grownCap w (0 + 1) 0 3 - (0 + 1))) 3) :=
        Any2.slices_Insert_int_end_grow Tryz.nK none 0 0 vb 0 1 vc [] [.int .i64 x] w (by omega) (by omega) (by omega) (by omega) rfl rfl (fun _ => rfl) (fun _ h => by cases h) hV h1v
      refine H.mono fun e w' ⟨he, hw⟩ => ?_
      subst hw
      refine new e w.drew 0 _ he R.drew rfl (fun k hk => ?_) ?_
      · have : k = 0 := by rw [je hp] at hk; simp at hk; exact hk
        subst this; rw [Array.getElem?_append_left (by simp)]; rfl
      · simp [Builtin.zeroCells, Value.cells]
    · have hcz : ∀ k, k < zs.length -> c[k]? = some (.int .i64 (zs.getD k 0)) := fun k hk => (I8 R hjb hb (by rintro rfl; simp at hk) hi).2 k hk
      have hvb : vb ≠ b := by
        rintro rfl
        exact hij (R.inj _ _ _ hjb hjv)
      have hrow := Zg hcz hb
      by_cases hroom : zs.length + 1 <= cap
      · have hcs : zs.length + 1 <= c.size := by omega
        rcases Nat.lt_or_ge p zs.length with hpl | hpl
        · -- shift
          have H : Calls Tryz.prog 101 #[.slice (some ⟨b, 0, none⟩) zs.length cap, .int .i64 p, .slice (some ⟨vb, 0, none⟩) 1 vc] w fun e w' => e = .returned (.slice (some ⟨b, 0, none⟩) (zs.length + 1) cap) /\ w' = (w.drew.setCells b (0 + (p + 1)) ((zs.map (Value.int .i64)).drop p)).setCells b (0 + p) [.int .i64 x] :=
            Any2.slices_Insert_int_shift Tryz.nK b 0 zs.length cap p vb 0 1 vc (zs.map (Value.int .i64)) [.int .i64 x] w hpl (by omega) hroom (by unfold maxLen at hc2; omega) hvb hlz rfl hrow (fun q hq => by
              rw [cell_of_row w b _ c e _ hb, Array.getElem?_eq_getElem (by omega)]; rfl) (fun q hq => by simp [World.frozen?, hb]) hV (D6 zs) h1v eC e C.size c.size (by simp [World.shape?, hbv]) (by simp [World.shape?, hb]) (by omega) (by simp [World.frozen?, hbv]) (by simp [World.frozen?, hbv])
          refine H.mono fun e' w' ⟨he, hw⟩ => ?_
          obtain ⟨c1, g1, g2, g3⟩ := iG (e := e) ((zs.map (Value.int .i64)).drop p) (0 + (p + 1)) w.drew c hb (by rw [List.length_drop, hlz]; omega)
          obtain ⟨c2, k1, k2, k3⟩ := iG (e := e) [.int .i64 x] (0 + p) (w.drew.setRow b c1) c1 (setRow_heap w.drew b c c1 e (0, 0) hb) (by simp; omega)
          rw [g1, k1, setRow_setRow] at hw
          subst hw
          have hC := P9 (x := x) hp (fun k hk => hcz k (by omega)) (c1 := c1) (c2 := c2) (fun k => by rw [g3, List.length_drop, hlz]; simp only [Nat.zero_add]; congr 1; exact propext ⟨fun h => by omega, fun h => by omega⟩) (fun k => by rw [k3]; simp only [Nat.zero_add, List.length_cons, List.length_nil])
          refine ⟨_, J, he, Ou R.drew hi hjb hb (by omega) (by rw [je hp]; omega) hC, ?_⟩
          exact Or.inr ⟨b, cap, c2, e, rfl, hjb, hroom, hc2, setRow_heap w.drew b c c2 e (0, 0) hb, by omega⟩
        · -- the end, room
          obtain rfl : p = zs.length := by omega
          have H : Calls Tryz.prog 101 #[.slice (some ⟨b, 0, none⟩) zs.length cap, .int .i64 zs.length, .slice (some ⟨vb, 0, none⟩) 1 vc] w fun e w' => e = .returned (.slice (some ⟨b, 0, none⟩) (zs.length + 1) cap) /\ w' = w.setCells b (0 + zs.length) [.int .i64 x] :=
            Any2.slices_Insert_int_end_room Tryz.nK b 0 zs.length cap vb 0 1 vc [.int .i64 x] w (by omega) hroom (by unfold maxLen at hc2; omega) rfl (fun q hq => by
              rw [cell_of_row w b _ c e _ hb, Array.getElem?_eq_getElem (by omega)]; rfl) (fun q hq => by simp [World.frozen?, hb]) hV h1v
          refine H.mono fun e' w' ⟨he, hw⟩ => ?_
          obtain ⟨c2, k1, k2, k3⟩ := iG (e := e) [.int .i64 x] (0 + zs.length) w c hb (by simp; omega)
          rw [k1] at hw
          subst hw
          refine ⟨_, J, he, Ou R hi hjb hb (by omega) (by rw [je hp]; omega) (fun k hk => ?_), ?_⟩
          · rw [je hp] at hk
            rw [k3]
            by_cases hke : k = zs.length
            · subst hke; rw [if_pos (by simp), tF hp]; simp
            · rw [if_neg (by simp; omega), hcz k (by omega), uK hp (by omega)]
          · exact Or.inr ⟨b, cap, c2, e, rfl, hjb, hroom, hc2, setRow_heap w b c c2 e (0, 0) hb, by omega⟩
      · rcases Nat.lt_or_ge p zs.length with hpl | hpl
        · -- anew, in the middle
          have H : Calls Tryz.prog 101 #[.slice (some ⟨b, 0, none⟩) zs.length cap, .int .i64 p, .slice (some ⟨vb, 0, none⟩) 1 vc] w fun e w' => e = .returned (.slice (some ⟨w.heap.size, 0, none⟩) (zs.length + 1) (grownCap w (zs.length + 1) cap 3)) ∧
              w' = (((w.alloc (.cells (((zs.map (Value.int .i64)).take p).toArray ++ Builtin.zeroCells (Value.int .i64 0).cells (zs.length + 1 - p) ++ Builtin.zeroCells (Value.int .i64 0).cells (grownCap w (zs.length + 1) cap 3 - (zs.length + 1))) 3)).drew.setCells w.heap.size p [.int .i64 x]).drew).setCells w.heap.size (p + 1) ((zs.map (Value.int .i64)).drop p) :=
            Any2.slices_Insert_int_grow Tryz.nK b 0 zs.length cap p vb 0 1 vc (zs.map (Value.int .i64)) [.int .i64 x] w hpl (by omega) hc1 (by omega) hz hlz rfl hrow hV (D6 zs) h1v
          refine H.mono fun e' w' ⟨he, hw⟩ => ?_
          obtain ⟨C0, hC0⟩ : ∃ C0, C0 = ((zs.map (Value.int .i64)).take p).toArray ++ Builtin.zeroCells (Value.int .i64 0).cells (zs.length + 1 - p) ++ Builtin.zeroCells (Value.int .i64 0).cells (grownCap w (zs.length + 1) cap 3 - (zs.length + 1)) := ⟨_, rfl⟩
          have hs0 : C0.size = zs.length + 1 + (grownCap w (zs.length + 1) cap 3 - (zs.length + 1)) := by
            rw [hC0]; simp [Builtin.zeroCells, Value.cells]; omega
          have hlo : ∀ k, k < p -> C0[k]? = some (.int .i64 (zs.getD k 0)) := fun k hk => by
            rw [hC0, Array.append_assoc, Array.getElem?_append_left (by simp; omega), List.getElem?_toArray, List.getElem?_take, if_pos hk, tV (by omega)]
          rw [<- hC0] at hw
          obtain ⟨c1, g1, g2, g3⟩ := iG (e := 3) [.int .i64 x] p (w.drew.alloc (.cells C0 3)) C0 (heap_alloc_new w.drew _) (by simp; omega)
          obtain ⟨c2, k1, k2, k3⟩ := iG (e := 3) ((zs.map (Value.int .i64)).drop p) (p + 1) (w.drew.drew.alloc (.cells c1 3)) c1 (heap_alloc_new w.drew.drew _) (by rw [List.length_drop, hlz]; omega)
          have e1 : (w.alloc (.cells C0 3)).drew.setCells w.heap.size p [.int .i64 x] = w.drew.alloc (.cells c1 3) := g1.trans (kY w.drew C0 c1 3)
          have e2 : (w.drew.alloc (.cells c1 3)).drew.setCells w.heap.size (p + 1) ((zs.map (Value.int .i64)).drop p) = w.drew.drew.alloc (.cells c2 3) := k1.trans (kY w.drew.drew c1 c2 3)
          rw [e1, e2] at hw
          subst hw
          refine new e' w.drew.drew cap c2 he R.drew.drew rfl (fun k hk => ?_) (by omega)
          rw [je hp] at hk
          rw [k3]
          rcases Nat.lt_trichotomy k p with hl | hl | hl
          · rw [if_neg (by omega), g3, if_neg (by omega), hlo k hl, uK hp hl]
          · subst hl; rw [if_neg (by omega), g3, if_pos (by simp), Nat.sub_self, tF hp]; rfl
          · rw [if_pos (by rw [List.length_drop, hlz]; omega), List.getElem?_drop, show p + (k - (p + 1)) = k - 1 by omega, tV (by omega), FY hp hl]
        · -- anew, at the end
          obtain rfl : p = zs.length := by omega
          have H : Calls Tryz.prog 101 #[.slice (some ⟨b, 0, none⟩) zs.length cap, .int .i64 zs.length, .slice (some ⟨vb, 0, none⟩) 1 vc] w fun e w' => e = .returned (.slice (some ⟨w.heap.size, 0, none⟩) (zs.length + 1) (grownCap w (zs.length + 1) cap 3)) /\ w' = w.drew.alloc (.cells (((zs.map (Value.int .i64)) ++ [Value.int .i64 x]).toArray ++ Builtin.zeroCells (Value.int .i64 0).cells (grownCap w (zs.length + 1) cap 3 - (zs.length + 1))) 3) :=
            Any2.slices_Insert_int_end_grow Tryz.nK (some ⟨b, 0, none⟩) zs.length cap vb 0 1 vc (zs.map (Value.int .i64)) [.int .i64 x] w (by omega) hc1 (by omega) hz hlz rfl (fun h => by cases h) (fun a ha q v hq => by cases ha; rw [Addr.add_lit]; exact hrow q v hq) hV h1v
          refine H.mono fun e' w' ⟨he, hw⟩ => ?_
          subst hw
          refine new e' w.drew cap _ he R.drew rfl (fun k hk => ?_) ?_
          · rw [je hp] at hk
            rw [Array.getElem?_append_left (by simp; omega), List.getElem?_toArray]
            by_cases hke : k = zs.length
            · subst hke; rw [List.getElem?_append_right (by simp), tF hp]; simp
            · rw [List.getElem?_append_left (by simp; omega), tV (by omega), uK hp (by omega)]
          · simp [Builtin.zeroCells, Value.cells]
end Go.Proofs.YtcfechepbamhkaaGreat
set_option maxRecDepth 100000
set_option maxHeartbeats 4000000
namespace Go.Proofs.YtcfechepbamhkaaGreat
open Go.RowKit Go.Sea
open Nat renaming reduceAdd -> xA, reduceLT -> xL, reduceLeDiff -> xD, reduceEqDiff -> xE, reduceMul -> xM, reduceSub -> xS, reduceBEq -> xB
theorem aiv : Gl Tryz.prog 23 = none := by kernel_rfl
theorem acW : aK Tryz.prog 47 = true := by kernel_rfl
theorem Zc : aK Tryz.prog 68 = true := by kernel_rfl
theorem ah0 : wK Tryz.prog 23 = some true := by kernel_rfl
theorem ajP : qV Tryz.prog 23 = some (7, 72, 28) := by kernel_rfl
attribute [go_sem] aiv acW Zc ah0 ajP
def ab7 : ah -> Nat -> IV
  | N, 0 => .g (.int .i64 N.oc)
  | N, 1 => .g (.int .i64 N.nu)
  | N, 2 => .g (.int .i64 N.kd)
  | N, 3 => .g (.int .i64 N.fr)
  | N, 4 => .g (.int .i64 N.un)
  | N, 5 => .g (.int .i64 N.ca)
  | N, _ + 6 => .lst 3 N.n (eO N.p)
def fB (N : Nat -> ah) (i c : Nat) : IV := ab7 (N i) c
theorem ahW (N : Nat -> ah) (i : Nat) : fB N i 0 = .g (.int .i64 (N i).oc) := rfl
theorem aiz (N : Nat -> ah) (i : Nat) : fB N i 1 = .g (.int .i64 (N i).nu) := rfl
theorem akk (N : Nat -> ah) (i : Nat) : fB N i 2 = .g (.int .i64 (N i).kd) := rfl
theorem ajM (N : Nat -> ah) (i : Nat) : fB N i 3 = .g (.int .i64 (N i).fr) := rfl
theorem ajZ (N : Nat -> ah) (i : Nat) : fB N i 4 = .g (.int .i64 (N i).un) := rfl
theorem ah3 (N : Nat -> ah) (i : Nat) : fB N i 5 = .g (.int .i64 (N i).ca) := rfl
theorem aju (N : Nat -> ah) (i : Nat) : fB N i 6 = .lst 3 (N i).n (eO (N i).p) := rfl
attribute [go_sem] ahW aiz akk ajM ajZ ah3 aju
def Ab (N : Nat -> ah) (i : Nat) : Prop := gM (N i) = true /\ (N i).oc = (N 0).oc /\ (0 < i -> (N (i - 1)).nu < (N i).nu)
instance (N : Nat -> ah) (i : Nat) : Decidable (Ab N i) := by unfold Ab; infer_instance
def wZ (n : Nat) (N : Nat -> ah) : Bool := decide (n <= 200 /\ ∀ i, i < n -> Ab N i)
def iV (N : ah) (ch : Int) : Nat := jw (fun i => decide ((N.p i).ch = ch)) N.n
def iU (N : ah) (ch : Int) : Bool := decide (iV N ch < N.n)
def Rb (N : ah) (ch : Int) : Int := if iV N ch < N.n then (iV N ch : Int) else -1
def mU (N : ah) (ch : Int) : Bool := decide (N.kd = 1) && iU N ch
theorem adX {N : ah} {ch : Int} {i : Nat} (hi : (i : Int) < N.n) (h : (N.p i).ch = ch) (g : ∀ j, j < i -> (N.p j).ch ≠ ch) : iV N ch = i := l5 (b := fun i => decide ((N.p i).ch = ch)) (decide_eq_true h) (fun j hj => decide_eq_false (g j hj)) _ (by omega)
theorem adI {N : ah} {ch : Int} {i : Nat} (hi : (N.n : Int) <= i) (g : ∀ j, j < i -> (N.p j).ch ≠ ch) : iV N ch = N.n := pY _ fun j hj => decide_eq_false (g j (by omega))
theorem LX {n : Nat} {N : Nat -> ah} {i : Nat} (hi : (i : Int) < n) (h : (gM (N i) = false \/ (N i).oc ≠ (N 0).oc) \/ (i : Int) > 0 /\ (N i).nu <= (N (i - 1)).nu) : false = wZ n N := (decide_eq_false fun g => by
  have g1 := g.2 i (by omega)
  rcases h with (h | h) | h
  · rw [g1.1] at h; cases h
  · exact h g1.2.1
  · have := g1.2.2 (by omega); omega).symm
def lq (q : Nat) (a : Nat -> Int) : List Int := (List.range q).map a
theorem iM (q : Nat) (a : Nat -> Int) : (lq q a).length = q := by simp [lq]
theorem oI {q : Nat} {a : Nat -> Int} {i : Nat} (h : i < q) : (lq q a).getD i 0 = a i := by simp [lq, List.getD, h]
def ko (zs : List Int) (x : Int) : Nat := jw (fun i => decide (¬ zs.getD i 0 < x)) zs.length
theorem mO (zs : List Int) (x : Int) : ko zs x <= zs.length := qy _ _
def R6 (q : Nat) (a : Nat -> Int) (x : Int) (i : Nat) : Int := (lS (lq q a) (ko (lq q a) x) x).getD i 0
theorem fA (zs : List Int) (x : Int) (i : Nat) : List.map (CV.cB i) (dU zs ++ [.iv (.g (.int .i64 x))]) = dU (zs ++ [x]) := by
  have e : dU zs ++ [CV.iv (.g (.int .i64 x))] = dU (zs ++ [x]) := by simp [dU]
  rw [e]; exact bF _ _
theorem ac9 {q : Nat} {a : Nat -> Int} {x : Int} : ∀ i o, i < q + 1 -> o < 1 -> (GX ((dU (lS (lq q a) (ko (lq q a) x) x)).getD (i * 1 + o) .any)).eqv (bC (R6 q a x) i o) := fun i o hi ho => by
  obtain rfl : o = 0 := by omega
  have hl : (lS (lq q a) (ko (lq q a) x) x).length = q + 1 := by rw [je (mO _ _), iM]
  rw [Nat.add_zero, Nat.mul_one, Dj _ _ (by omega)]
  exact IV.bG _
theorem YB {q : Nat} {a : Nat -> Int} {x : Int} {i o : Nat} (hi : i < q + 1) (ho : o < 1) : (GX ((dU (lS (lq q a) (ko (lq q a) x) x)).getD (i + o) .any)).eqv (.g (.int .i64 (R6 q a x i))) := by
  have := ac9 (q := q) (a := a) (x := x) i o hi ho
  rw [Nat.mul_one] at this; exact this
def w64 (x : Int) : Int := IntKind.i64.wrap x
def afH (p : d9) (acc : Int) : Nat -> Int
  | 0 => acc
  | j + 1 => w64 (w64 (afH p acc j + ((p.o j).f.n : Int)) + ((p.o j).f.m : Int))
def Ua (N : ah) : Nat -> Int
  | 0 => N.n
  | i + 1 => afH (N.p i) (w64 (w64 (Ua N i + ((N.p i).q : Int)) + ((N.p i).k : Int))) (N.p i).k
end Go.Proofs.YtcfechepbamhkaaGreat
set_option maxRecDepth 100000
set_option maxHeartbeats 4000000
namespace Go.Proofs.YtcfechepbamhkaaGreat
open Go.RowKit Go.Sea
open Nat renaming reduceAdd -> xA, reduceLT -> xL, reduceLeDiff -> xD, reduceEqDiff -> xE, reduceMul -> xM, reduceSub -> xS, reduceBEq -> xB
theorem aar : aK Tryz.prog 14 = true := by kernel_rfl
theorem ZV : aK Tryz.prog 67 = true := by kernel_rfl
theorem ac1 : aK Tryz.prog 79 = true := by kernel_rfl
theorem Sv : aK Tryz.prog 186 = true := by kernel_rfl
theorem akw : fE Tryz.prog 39 = true := by kernel_rfl
theorem ait : lG Tryz.prog 39 = some (true, 13) := by kernel_rfl
theorem akY : fJ Tryz.prog 39 = some [.iv (.g (.int .i64 0)), .iv (.g (.int .i64 0)), .iv (.g (.int .i64 0)), .iv (.g (.int .i64 0)), .iv (.g (.int .i64 0)), .iv (.g (.int .i64 0)), .iv (.g (.int .i64 0)), .iv (.g (.int .i64 0)), .iv (.g (.int .i64 0)), .iv (.g (.int .i64 0)), .iv (.g (.int .i64 0)), .iv (.g (.slice none 0 0)), .iv (.g (.slice none 0 0))] := by kernel_rfl
attribute [go_sem] aar ZV ac1 Sv akw ait akY
def bH : bE := ⟨0, 0, 0, ⟨0, 0, 0, 0, 0, 0, 0⟩, 0, 0, fun _ => 0, 0, fun _ => dM⟩
def prt (N : ah) (ch : Int) : d9 := N.p (iV N ch)
def Ic (s : bE) (P : d9) : Bool := decide (∃ j, j < P.q /\ iD s.q s.dn (P.a j) = false)
def xI (s : bE) (N : ah) : Int := if iD s.q s.dn N.nu = true then 5 else if Ic s (prt N s.ch) = true then 16 else if 200 <= s.q then 2 else if yL s.n s.f (prt N s.ch).k (prt N s.ch).o ≠ 0 then 15 else 0
def Zj (s : bE) (N : ah) : Int := if N.kd ≠ 1 then 12 else if iU N s.ch = false then 4 else xI s N
def edS (s : bE) (N : ah) : bE := { s with q := s.q + 1, dn := R6 s.q s.dn N.nu, n := Dp s.n s.f (prt N s.ch).k (prt N s.ch).o, f := Yv s.n s.f (prt N s.ch).k (prt N s.ch).o }
def uZ (s : bE) (N : ah) : Int := if (gK s && gM N) = true then Zj s N else 1
def mh (s : bE) (N : ah) : bE := if uZ s N = 0 then edS s N else bH
theorem yS {s : bE} {N : ah} {e : Int} (h : uZ s N = e) (h0 : e ≠ 0) : mh s N = bH /\ uZ s N = e := ⟨by unfold mh; rw [if_neg (by rw [h]; exact h0)], h⟩
theorem adR {s : bE} {N : ah} (h : uZ s N = 0) : mh s N = edS s N /\ uZ s N = 0 := ⟨by unfold mh; rw [if_pos h], h⟩
theorem Xw {s : bE} {N : ah} (h : gK s = false \/ gM N = false) : uZ s N = 1 := by unfold uZ; rcases h with h | h <;> simp [h]
theorem rW {s : bE} {N : ah} (h1 : gK s = true) (h2 : gM N = true) : uZ s N = Zj s N := by unfold uZ; simp [h1, h2]
theorem aj4 {s : bE} {N : ah} (h : N.kd ≠ 1) : Zj s N = 12 := by unfold Zj; rw [if_pos h]
theorem alj {s : bE} {N : ah} (h : N.kd = 1) (h2 : iU N s.ch = false) : Zj s N = 4 := by unfold Zj; rw [if_neg (by omega), if_pos h2]
theorem Jc {s : bE} {N : ah} (h : N.kd = 1) (h2 : iU N s.ch = true) : Zj s N = xI s N := by unfold Zj; rw [if_neg (by omega), if_neg (by rw [h2]; simp)]
theorem al2 {s : bE} {N : ah} (h : iD s.q s.dn N.nu = true) : xI s N = 5 := by unfold xI; rw [if_pos h]
theorem akA {s : bE} {N : ah} (h : iD s.q s.dn N.nu = false) {j : Nat} (hj : (j : Int) < (prt N s.ch).q) (h2 : iD s.q s.dn ((prt N s.ch).a j) = false) : xI s N = 16 := by
  have hm : Ic s (prt N s.ch) = true := decide_eq_true ⟨j, by omega, h2⟩
  unfold xI; rw [if_neg (by rw [h]; simp), if_pos hm]
theorem VB {s : bE} {P : d9} {j : Nat} (hj : (P.q : Int) <= j) (g : ∀ k, k < j -> iD s.q s.dn (P.a k) = true) : Ic s P = false := decide_eq_false fun ⟨k, h1, h2⟩ => by rw [g k (by omega)] at h2; cases h2
theorem alI {s : bE} {N : ah} (h : iD s.q s.dn N.nu = false) (hm : Ic s (prt N s.ch) = false) (hq : (s.q : Int) >= 200) : xI s N = 2 := by
  unfold xI; rw [if_neg (by rw [h]; simp), if_neg (by rw [hm]; simp), if_pos (by omega)]
theorem ajH {s : bE} {N : ah} (h : iD s.q s.dn N.nu = false) (hm : Ic s (prt N s.ch) = false) (hq : (s.q : Int) < 200) (he : yL s.n s.f (prt N s.ch).k (prt N s.ch).o ≠ 0) : xI s N = 15 := by
  unfold xI; rw [if_neg (by rw [h]; simp), if_neg (by rw [hm]; simp), if_neg (by omega), if_pos he]
theorem amd {s : bE} {N : ah} (h : iD s.q s.dn N.nu = false) (hm : Ic s (prt N s.ch) = false) (hq : (s.q : Int) < 200) (he : yL s.n s.f (prt N s.ch).k (prt N s.ch).o = 0) : xI s N = 0 := by
  unfold xI; rw [if_neg (by rw [h]; simp), if_neg (by rw [hm]; simp), if_neg (by omega), if_neg (by simp [he])]
theorem NR {s : bE} (h : gK s = true) : s.q <= 200 /\ s.n <= 300 /\ (∀ i, i < s.q -> mW s.dn 10001 i) := by
  unfold gK at h
  simp only [Bool.and_eq_true] at h
  have h1 := of_decide_eq_true h.1.1.1
  have h2 := of_decide_eq_true h.2
  exact ⟨h1.1, h2.1, h1.2⟩
end Go.Proofs.YtcfechepbamhkaaGreat
set_option maxRecDepth 100000
set_option maxHeartbeats 4000000
namespace Go.Proofs.YtcfechepbamhkaaGreat
open Go.RowKit Go.Sea
open Nat renaming reduceAdd -> xA, reduceLT -> xL, reduceLeDiff -> xD, reduceEqDiff -> xE, reduceMul -> xM, reduceSub -> xS, reduceBEq -> xB
theorem U8 : aK Tryz.prog 135 = true := by kernel_rfl
theorem jm : aK Tryz.prog 18 = true := by kernel_rfl
theorem Aq : aK Tryz.prog 100 = true := by kernel_rfl
theorem G5 : aK Tryz.prog 134 = true := by kernel_rfl
theorem akr : fE Tryz.prog 58 = true := by kernel_rfl
theorem aaV : dF Tryz.prog 94 0 = some 0 := by kernel_rfl
theorem akd : fJ Tryz.prog 28 = some [.iv (.g (.int .i64 0)), .iv (.g (.int .i64 0)), .iv (.g (.int .i64 0)), .iv (.g (.int .i64 0)), .iv (.g (.int .i64 0)), .iv (.g (.int .i64 0)), .iv (.g (.slice none 0 0))] := by kernel_rfl
attribute [go_sem] jm Aq G5 akr aaV akd
theorem tJ {q : Nat} {a : Nat -> Int} {nu : Int} (h : ∀ i, i < q -> mW a nu i) {i : Nat} : ∀ j, i < j -> j < q -> a i < a j
  | 0, hij, _ => absurd hij (Nat.not_lt_zero _)
  | j + 1, hij, hj => by
    have h1 := (h (j + 1) hj).2.2 (by omega)
    rw [Nat.add_sub_cancel] at h1
    by_cases e : i = j
    · subst e; exact h1
    · have := tJ (i := i) h j (by omega) (by omega)
      omega
theorem PN {zs : List Int} {x : Int} {i : Nat} (hi : i <= zs.length) (h1 : ∀ j, j < i -> zs.getD j 0 < x) (h2 : ∀ j, i <= j -> j < zs.length -> ¬ zs.getD j 0 < x) : zs.countP (fun z => decide (z < x)) = i := by
  have e : zs = zs.take i ++ zs.drop i := (List.take_append_drop i zs).symm
  rw [e, List.countP_append]
  have e1 : (zs.take i).countP (fun z => decide (z < x)) = (zs.take i).length := List.countP_eq_length.2 fun z hz => by
    obtain ⟨j, hj, rfl⟩ := List.getElem_of_mem hz
    have hj' : j < i := by rw [List.length_take] at hj; omega
    have := h1 j hj'
    rw [List.getD, List.getElem?_eq_getElem (by omega)] at this
    simpa using this
  have e2 : (zs.drop i).countP (fun z => decide (z < x)) = 0 := List.countP_eq_zero.2 fun z hz => by
    obtain ⟨j, hj, rfl⟩ := List.getElem_of_mem hz
    have hj' : i + j < zs.length := by rw [List.length_drop] at hj; omega
    have := h2 (i + j) (by omega) hj'
    rw [List.getD, List.getElem?_eq_getElem hj'] at this
    simpa using this
  rw [e1, e2, List.length_take]; omega
theorem gZ {b : Nat -> Bool} {k : Nat} : (∀ j, j < jw b k -> b j = false) /\ (jw b k < k -> b (jw b k) = true) := by
  by_cases h : jw b k < k
  · exact ⟨(FJ k h).2, fun _ => (FJ k h).1⟩
  · refine ⟨fun j hj => ?_, fun h' => absurd h' h⟩
    have hk : jw b k = k := by have := qy b k; omega
    rw [hk] at hj
    clear h
    induction j using Nat.strongRecOn with
    | _ j ih =>
      cases hb : b j with
      | false => rfl
      | true =>
        have := l5 hb (fun q hq => ih q hq (by omega)) k hj
        omega
theorem M6 {zs : List Int} {x : Int} {j : Nat} (h : j < ko zs x) : zs.getD j 0 < x := by
  have := (gZ (b := fun i => decide (¬ zs.getD i 0 < x)) (k := zs.length)).1 j h
  have := of_decide_eq_false this
  omega
theorem Nr {zs : List Int} {x : Int} (h : ko zs x < zs.length) : ¬ zs.getD (ko zs x) 0 < x := of_decide_eq_true ((gZ (b := fun i => decide (¬ zs.getD i 0 < x)) (k := zs.length)).2 h)
theorem Tm {q : Nat} {a : Nat -> Int} {x : Int} (hs : ∀ i j, i < j -> j < q -> a i < a j) : (lq q a).countP (fun z => decide (z < x)) = ko (lq q a) x := by
  refine PN (mO _ _) (fun j hj => M6 hj) fun j h1 h2 => ?_
  have hp := Nr (zs := lq q a) (x := x) (by omega)
  rw [iM] at h2
  rw [oI (by have := mO (lq q a) x; rw [iM] at this; omega)] at hp
  rw [oI h2]
  by_cases e : ko (lq q a) x = j
  · rw [e] at hp; exact hp
  · have := hs (ko (lq q a) x) j (by omega) h2
    omega
theorem MI (q : Nat) (a : Nat -> Int) (x : Int) : (lq q a).contains x = iD q a x := by
  refine Bool.eq_iff_iff.2 ?_
  unfold iD
  simp [lq]
theorem ahR (q : Nat) (a : Nat -> Int) (x : Int) (hq : q <= 1000000) (hs : ∀ i j, i < j -> j < q -> a i < a j) : aA Tryz.prog 100 [.one (.lst 1 q (bC a)), .one (.g (.int .i64 x))] (.tup [.one (.g (.int .i64 (ko (lq q a) x : Nat))), .one (.g (.bool (iD q a x)))]) := by
  intro w Z vs hZ hv
  obtain ⟨vs⟩ := vs
  match vs, hv with
  | [v, v2], ⟨hv, h2, _⟩ =>
    have e2 : v2 = .int .i64 x := by cases h2; rfl
    subst e2
    have hv : Rd w Z v (.lst 1 q (bC a)) := hv
    cases hv with
    | nil p cap =>
      refine (Tryz.slices_BinarySearch_int_empty p cap x w).mono fun e w' ⟨he, hw⟩ => ?_
      subst hw
      have e1 : ko (lq 0 a) x = 0 := rfl
      have e2 : iD 0 a x = false := decide_eq_false fun ⟨i, h, _⟩ => absurd h (Nat.not_lt_zero _)
      refine ⟨_, he, Below.refl _ _, _, rfl, ?_, ?_, trivial⟩
      · rw [e1]; exact Rd.g _ rfl
      · rw [e2]; exact Rd.g _ rfl
    | lst b off _ cap _ _ X hz hn hm h1 h2 =>
      have hc : ∀ j, j < (lq q a).length -> w.cell? ⟨b, off + j, none⟩ = some (.int .i64 ((lq q a).getD j 0)) := fun j hj => by
        rw [iM] at hj
        have k1 := h1 j 0 hj (by omega)
        have k2 := h2 j 0 hj (by omega)
        rw [Nat.mul_one, Nat.add_zero] at k1
        rw [k1, oI hj]
        have : X j 0 = .int .i64 (a j) := by
          generalize X j 0 = y at k2
          have k2 : Rd w Z y (.g (.int .i64 (a j))) := k2
          cases k2; rfl
        rw [this]
      have hso : ((lq q a).take q).Pairwise (· <= ·) := by
        rw [List.take_of_length_le (by rw [iM]; exact Nat.le_refl _)]
        unfold lq
        rw [List.pairwise_map]
        refine List.Pairwise.imp_of_mem (fun {i j} hi hj hij => ?_) (List.pairwise_lt_range (n := q))
        have := hs i j hij (List.mem_range.1 hj)
        omega
      refine (Tryz.slices_BinarySearch_int b off q cap (lq q a) x w (by rw [iM]; exact Nat.le_refl _) (by omega) hc hso).mono fun e w' ⟨he, n, hw⟩ => ?_
      subst hw
      rw [List.take_of_length_le (by rw [iM]; exact Nat.le_refl _), Tm hs, MI] at he
      exact ⟨_, he, ⟨rfl, rfl, rfl, Nat.le_refl _, fun _ _ => rfl⟩, _, rfl, Rd.g _ rfl, Rd.g _ rfl, trivial⟩
def DL : d9 := ⟨0, 0, fun _ => 0, 0, fun _ => RZ 0 0⟩
def iY (N : ah) (ch : Int) : d9 := if iU N ch = true then prt N ch else DL
theorem agS {N : ah} {ch : Int} {i : Nat} (hi : (i : Int) < N.n) (h : (N.p i).ch = ch) (g : ∀ j, j < i -> (N.p j).ch ≠ ch) : iY N ch = N.p i /\ iU N ch = true := by
  have e := adX hi h g
  have e2 : iU N ch = true := decide_eq_true (by rw [e]; omega)
  refine ⟨?_, e2⟩
  unfold iY prt; rw [if_pos e2, e]
theorem aeN {N : ah} {ch : Int} {i : Nat} (hi : (N.n : Int) <= i) (g : ∀ j, j < i -> (N.p j).ch ≠ ch) : iY N ch = DL /\ iU N ch = false := by
  have e2 : iU N ch = false := decide_eq_false (by rw [adI hi g]; omega)
  refine ⟨?_, e2⟩
  unfold iY; rw [if_neg (by rw [e2]; simp)]
theorem ai8 {n : Nat} {N : Nat -> ah} {i : Nat} (hi : (n : Int) <= i) (g : ∀ j, j < i -> Ab N j) : decide ((n : Int) <= 200) = wZ n N := by
  unfold wZ; exact decide_eq_decide.2 ⟨fun h => ⟨by omega, fun j hj => g j (by omega)⟩, fun h => by omega⟩
theorem XD (n : Nat) (N : Nat -> ah) (hn : n <= 9223372036854775807) (hN : ∀ i, i < n -> (N i).Ok) : aA Tryz.prog 82 [.one (.lst 7 n (fB N))] (.t (.one (.g (.bool (wZ n N))))) := by
  refine ak Tryz.func82 rfl (by rw [Tryz.ntmps82]; simp) ?_
  simp only [Tryz.ntmps82, zM, PT.tv, au, Nat.zero_add, Nat.reduceAdd]
  repeat' (first
 | ((with_reducible show AW _ _ _ _); first
 | (with_reducible first | refine aS (fun K hK => ?_) | refine aI ?_ | refine aX ?_ | refine aT ?_ | refine aC ?_ | refine aB ?_)
 | (first
 | (with_reducible first | refine aP 0 [0] ?_ | refine aP 1 [0] ?_ | refine aP 2 [0,5,6,7] ?_ | refine aP 3 [0,5,6,7] ?_)
 | ((with_reducible refine aR (c := Code.region 4 _ true) [0,3,4,5,6,7] ?_); (with_reducible refine aD ?_ ?_ ?_ ?_); (focus kernel_rfl); (focus kernel_rfl); (focus kernel_rfl))
 | (with_reducible first | refine aP 5 [] ?_ | refine aP 6 [0,5,6,7] ?_ | refine aP 7 [0] ?_))
 | ((with_reducible show AW _ (Code.loop _) _ _); first
 | ((with_reducible refine aL (c := (Code.seq (Code.region 2 _ _) _)) (ι := Nat) [0,5,6] (fun i => [(7, iA .i64 (i : Int))]) (fun i => []) (fun i => i <= n /\ (∀ j, j < i -> Ab N j)) (fun i => n - i) 0 ?lg2 ?l12 ?l22 ?li2 ?lr2); (case' lg2 => rintro i _); (case' li2 => try (exact ⟨Nat.zero_le _, fun i hi => absurd hi (Nat.not_lt_zero _)⟩)); (case' lr2 => rintro i ⟨hi, hai⟩ KR hR2; simp only [bD, dD, hset, lk, if_true, if_false, xE, reduceIte, zN]))))
 | ((first | (with_reducible refine And.intro ?_ ?_) | (with_reducible refine Need.mk ?_)); focus (first | exact True.intro | omega | (intros; (repeat' (first | omega | (with_reducible refine And.intro ?_ ?_))); done) | (simp; done) | (simp +contextual; done) | (intro hq; have hq2 := hq; simp only [Bool.and_eq_true, Bool.or_eq_true, Bool.not_eq_true', Bool.not_not, Bool.not_eq_false', decide_eq_true_eq, decide_eq_false_iff_not] at hq2; (repeat' (first | exact hq | (with_reducible refine And.intro ?_ ?_) | omega)); done)))
 | (with_reducible refine aJ ?_)
 | ((with_reducible show bL _ _ _ _ _ _); first
 | ((with_reducible refine aM ?_ ?_) <;> (intro hc; (try simp only [zB, zC, reduceCtorEq] at hc); (try (exfalso; contradiction)))))
 | ((with_reducible refine And.intro ?_ ?_); focus ((with_reducible show gV _ _ _ = true); kernel_rfl))
 | ((with_reducible show eT _ _ _ _ _ _ _ _ _ _ _ _ _); first
 | (refine dh (k := 18) jm (pO (N i) (hN i (by omega))) ?_ ?_))
 | ((with_reducible refine hR2 _ (i + 1) ?_); (try clear hR2 KR))
 | ((with_reducible refine Told.mk ?_); simp only [go_sem, reduceIte, reduceCtorEq, xA, xL, xD, xE, xM, xS, xB] <;> ((((try simp (disch := omega) only [aY, Int.natCast_add, Int.cast_ofNat_Int, and_true, true_and, and_self]); (repeat' (first | omega | (with_reducible refine And.intro ?_ ?_) | ((exact all_succ (by assumption) ⟨by simp_all, by omega, fun h0 => by omega⟩)))); done))))
 | ((fail_if_success (with_reducible show AW _ _ _ _)); simp (maxSteps := 2000000) only [go_sem, reduceIte, reduceCtorEq, xA, xL, xD, xE, xM, xS, xB, Tryz.f82])
 | ((fail_if_success (with_reducible show AW _ _ _ _)); simp (disch := omega) only [aY, jy, jH])
 | ((with_reducible refine hK _ ?_); clear hK K)
 | (with_reducible apply_assumption -exfalso only [*]))
  all_goals (first | exact LX (by assumption) hc | exact ai8 (by assumption) hai)
theorem XK (s : bE) (x : Int) (hs : s.Ok) (hv : gK s = true) : aA Tryz.prog 98 [(qQ s), .one (.g (.int .i64 x))] (.t (.one (.g (.bool (iD s.q s.dn x))))) := by
  have hsq := NR hv
  refine ak Tryz.func98 rfl (by rw [Tryz.ntmps98]; simp) ?_
  simp only [qQ, Tryz.ntmps98, zM, PT.tv, au, Nat.zero_add, Nat.reduceAdd]
  repeat' (first
 | ((with_reducible show AW _ _ _ _); first
 | (with_reducible first | refine aS (fun K hK => ?_) | refine aT ?_)
 | (first
 | (with_reducible first | refine aP 0 [0,1] ?_ | refine aP 1 [1,2] ?_ | refine aP 2 [6] ?_)))
 | (((with_reducible refine Need.mk ?_)); focus (exact True.intro))
 | (with_reducible refine aJ ?_)
 | ((with_reducible show aW _ _ _ _ _ _ _ _ _ _); first
 | (refine aF (k := 100) Aq (ahR s.q s.dn x (by omega) (fun i j h1 h2 => tJ hsq.2.2 j h1 h2)) ?_ ?_))
 | ((fail_if_success (with_reducible show AW _ _ _ _)); simp (maxSteps := 2000000) only [go_sem, reduceIte, reduceCtorEq, xA, xL, xD, xE, xM, xS, xB, Tryz.f98])
 | ((with_reducible refine hK _ ?_); clear hK K))
theorem EM (N : ah) (ch : Int) (ho : N.Ok) : aA Tryz.prog 96 [(Gj N), .one (.g (.int .i64 ch))] (.tup [.agg [.g (.int .i64 (iY N ch).ch), .lst 1 (iY N ch).q (bC (iY N ch).a), .lst 16 (iY N ch).k (iC (iY N ch).o)], .one (.g (.bool (iU N ch)))]) := by
  have hnn := ho.n
  refine ak Tryz.func96 rfl (by rw [Tryz.ntmps96]; simp) ?_
  simp only [Gj, Tryz.ntmps96, zM, PT.tv, au, Nat.zero_add, Nat.reduceAdd]
  repeat' (first
 | ((with_reducible show AW _ _ _ _); first
 | (with_reducible first | refine aS (fun K hK => ?_) | refine aI ?_ | refine aX ?_ | refine aT ?_ | refine aC ?_ | refine aB ?_)
 | (first
 | (with_reducible first | refine aP (ops := #[⟨some 2, _, _, _, _, _⟩, _, _, _]) 0 [0,1] ?_ | refine aP (ops := #[⟨some 4, _, _, _, _, _⟩]) 0 [0,1] ?_ | refine aP (ops := #[⟨some 2, _, _, _, _, _⟩, _]) 0 [0,1] ?_ | refine aP (ops := #[⟨some 7, _, _, _, _, _⟩, _, _, _, _]) 1 [2,3,4] ?_ | refine aP (ops := #[⟨some 6, _, _, _, _, _⟩, _, _]) 1 [0,1] ?_ | refine aP (ops := #[⟨some 4, _, _, _, _, _⟩, _, _, _, _]) 1 [1,2] ?_ | refine aP (ops := #[⟨some 11, _, _, _, _, _⟩, _]) 2 [2,4,6] ?_ | refine aP (ops := #[⟨some 9, _, _, _, _, _⟩]) 2 [0,1,7,8] ?_ | refine aP (ops := #[⟨some 13, _, _, _, _, _⟩, _, _]) 3 [4] ?_ | refine aP (ops := #[⟨some 10, _, _, _, _, _⟩, _]) 3 [0,1,7,8] ?_ | refine aP (ops := #[⟨some 14, _, _, _, _, _⟩, _, _, _, _, _, _]) 4 [2,4,6] ?_ | refine aP (ops := #[⟨some 11, _, _, _, _, _⟩, _, _, _, _, _]) 4 [0,1,5,7,8] ?_ | refine aP 5 [5] ?_ | refine aP 6 [0,1,7,8] ?_ | refine aP 7 [] ?_))
 | ((with_reducible show AW _ (Code.loop _) _ _); first
 | ((with_reducible refine aL (c := (Code.seq (Code.region 2 _ _) _)) (ι := Nat) [0,1,7] (fun i => [(8, iA .i64 (i : Int))]) (fun i => []) (fun i => i <= N.n /\ (∀ j, j < i -> (N.p j).ch ≠ ch)) (fun i => N.n - i) 0 ?lg2 ?l12 ?l22 ?li2 ?lr2); (case' lg2 => rintro i _); (case' li2 => try (exact ⟨Nat.zero_le _, fun i hi => absurd hi (Nat.not_lt_zero _)⟩)); (case' lr2 => rintro i ⟨hi, hai⟩ KR hR2; simp only [bD, dD, hset, lk, if_true, if_false, xE, reduceIte, zN]))))
 | (((with_reducible refine And.intro ?_ ?_)); focus (omega))
 | (with_reducible refine aJ ?_)
 | ((with_reducible show bL _ _ _ _ _ _); first
 | ((with_reducible refine aM ?_ ?_) <;> (intro hc; (try simp only [zB, zC, reduceCtorEq] at hc); (try (exfalso; contradiction)))))
 | ((with_reducible refine hR2 _ (i + 1) ?_); (try clear hR2 KR))
 | ((with_reducible refine Told.mk ?_); simp only [go_sem, reduceIte, reduceCtorEq, xA, xL, xD, xE, xM, xS, xB, bC] <;> ((((try simp (disch := omega) only [aY, Int.natCast_add, Int.cast_ofNat_Int, and_true, true_and, and_self]); (repeat' (first | omega | (with_reducible refine And.intro ?_ ?_) | (exact all_succ (by assumption) (by assumption)))); done))))
 | ((fail_if_success (with_reducible show AW _ _ _ _)); simp (maxSteps := 2000000) only [go_sem, reduceIte, reduceCtorEq, xA, xL, xD, xE, xM, xS, xB, Tryz.f96, Tryz.f134, Tryz.f135, bC])
 | ((with_reducible show aW _ _ _ _ _ _ _ _ _ _); first
 | ((refine dw (k := 134) Tryz.func134 rfl G5 (by rw [Tryz.ntmps134]; simp) ?_ ?_ (fun K hK => ?_)); (focus (exact True.intro)); (focus ((simp [jo]; done))); simp only [Tryz.ntmps134, List.map_cons, List.map_nil, List.nil_append, List.cons_append, List.append_nil, LV.tv, au, Nat.zero_add, Nat.reduceAdd])
 | ((refine nO (k := 135) Tryz.func135 rfl U8 (by rw [Tryz.ntmps135]; simp) ?_ ?_ (fun K hK => ?_)); (focus (exact True.intro)); (focus ((simp [jo]; done))); simp only [Tryz.ntmps135, List.map_cons, List.map_nil, List.nil_append, List.cons_append, List.append_nil, LV.tv, au, Nat.zero_add, Nat.reduceAdd]))
 | ((with_reducible refine hK _ ?_); clear hK K)
 | (with_reducible apply_assumption -exfalso only [*]))
  all_goals (first | (have e := agS (by assumption) (by assumption) hai; rw [e.1, e.2]; (repeat' (first | exact rfl | (with_reducible refine And.intro ?_ ?_) | (intro i q hi hq; exact IV.bG _) | (intro i q hi hq; exact rfl))); done) | (have e := aeN (by assumption) hai; rw [e.1, e.2]; (repeat' (first | exact rfl | (with_reducible refine And.intro ?_ ?_))); done))
end Go.Proofs.YtcfechepbamhkaaGreat
namespace Go.Proofs.YtcfechepbamhkaaGreat
open Go.RowKit Go.Sea Go.Lib
theorem aeK : Tryz.prog.underlying 36 = some (.slice 3) := by kernel_rfl
theorem alC : (Tryz.prog.info? 3).map (fun i => (i.size, i.bytes, i.zero.map (·.cells.size))) = some (1, 8, some 1) := by kernel_rfl
set_option maxHeartbeats 4000000 in
set_option maxRecDepth 100000 in
set_option maxHeartbeats 2000000 in
theorem Ru (cap : Nat) (w : World) : Calls Tryz.prog 102 #[.slice none 0 cap] w fun e w' => e = .returned (.slice none 0 0) /\ w' = w := by
  have q : (binOp .eql 36 (.slice none 0 cap) (.slice none 0 0)).run Tryz.prog w = .ok (.bool true) w := run_eql_slice_nil w 36 3 none 0 cap aeK
  go_enter Tryz.func102, Tryz.ntmps102
  go_wp2
  go_ret
  exact ⟨rfl, rfl⟩
set_option maxHeartbeats 4000000 in
set_option maxRecDepth 100000 in
theorem zZ (p : Addr) (n cap : Nat) (w w' : World) (u : Value) (h : ∀ ty, (Builtin.append_ #[36,36] ty #[.slice (some ⟨w.heap.size, 0, none⟩) 0 0, .slice (some p) n cap]).run Tryz.prog (w.alloc (.cells #[] 3)) = .ok u w') : Calls Tryz.prog 102 #[.slice (some p) n cap] w fun e w'' => e = .returned u /\ w'' = w' := by
  have q : (binOp .eql 36 (.slice (some p) n cap) (.slice none 0 0)).run Tryz.prog w = .ok (.bool false) w := run_eql_slice_nil w 36 3 (some p) n cap aeK
  go_enter Tryz.func102, Tryz.ntmps102
  go_wp2_with (at_builtin; refine Lib.wpList_append_run _ rfl _ _ _ _ rfl _ _ rfl rfl _ _ (h _) ?_)
  all_goals (go_ret; exact ⟨rfl, rfl⟩)
theorem mJ (w : World) (o : Obj) : Below w.heap.size w (w.alloc o) := by
  refine ⟨rfl, rfl, rfl, by simp, fun k hk => ?_⟩
  exact Below.heap_alloc _ _ _ hk
set_option maxHeartbeats 2000000 in
theorem ach (n : Nat) (f : Nat -> Nat -> IV) (hn : n <= 1000) : lQ Tryz.prog 102 [.one (.iv (.lst 1 n f))] (dZ f 1 n 0) (fun i => .t (.one (.slc i 0 n 1))) := by
  intro H i hH w0 Z0 J Z s a w vs R hs hv
  subst hs
  obtain ⟨vs⟩ := vs
  match vs, hv with
  | [v], ⟨hv, _⟩ =>
    have hv : Rd w Z v (.lst 1 n f) := hv
    have hlen : (dZ f 1 n 0).length = n * 1 := fT f 1 n 0
    have empty : ∀ (p : Addr) (cap : Nat), n = 0 -> v = .slice (some p) 0 cap -> Calls Tryz.prog 102 #[v] w fun e w' => ∃ v J' Z', e = .returned v /\ Rel w0 Z0 J' Z' { s with heap := hset s.heap i (dZ f 1 n 0) } a w' /\ bq w' J' Z' v (.t (.one (.slc i 0 n 1))) := fun p cap h0 ev => by
      subst h0; subst ev
      obtain ⟨ii, h33⟩ : ∃ ii, Tryz.prog.info? 3 = some ii := by
        have := alC
        cases h : Tryz.prog.info? 3 with
        | none => rw [h] at this; cases this
        | some i => exact ⟨i, rfl⟩
      refine (zZ p 0 cap w _ _ fun ty => gG aeK h33 _ _ 0 0 cap (Nat.le_refl _)).mono fun e w' ⟨he, hw⟩ => ?_
      subst hw
      have R1 := R.new (nid := i) (cs := []) (c := #[]) (e := 3) (H := hset s.heap i []) hH (aG _ _ _) (fun q hq => aH _ _ _ _ hq) (by simp [aQ])
      exact ⟨_, _, _, he, R1, Or.inr ⟨w.heap.size, 0, #[], 3, rfl, by simp [fM], Nat.zero_le _, Nat.zero_le _, heap_alloc_new w _, by simp⟩⟩
    have hv0 := hv
    cases hv with
    | nil p cap =>
      cases p with
      | none =>
        refine (Ru cap w).mono fun e w' ⟨he, hw⟩ => ?_
        subst hw
        exact ⟨_, J, Z, he, R.qj (nid := i) hH (by rw [aG]; rfl) (fun q hq => aH _ _ _ _ hq), Or.inl ⟨rfl, rfl⟩⟩
      | some p => exact empty p cap rfl rfl
    | lst b off _ cap _ _ X hz hc hm h1 h2 =>
      by_cases h0 : n = 0
      · exact empty ⟨b, off, none⟩ cap h0 (by rw [h0])
      · obtain ⟨hR1, G⟩ := R.call (mJ w (.cells #[] 3))
        have hv1 : cu (w.alloc (.cells #[] 3)) J (fun b => Z b \/ (w.heap.size <= b /\ b < (w.alloc (.cells #[] 3)).heap.size)) (.slice (some ⟨b, off, none⟩) n cap) (.one (.iv (.lst 1 n f))) := bK.grow G (CV.bZ (.iv (.lst 1 n f))) hv0
        obtain ⟨ii, z, t1, t2, t3, t4, t5, t6, t7⟩ := gH (P := Tryz.prog) (t := 36) (e := 3) (n := 1) (b := 8) (by kernel_rfl)
        rcases jR hR1 (size := 1) (m := n) (nd := True) (x := .one (.iv (.lst 1 n f))) (ns := dZ f 1 n 0) (by simp [wF]) trivial hv1 with ⟨h, _⟩ | ⟨hpos, b2, off2, cap2, news, e2, n1, n2, n3, n4⟩
        · exact absurd h h0
        · cases e2
          have hrun := fun ty => run_append_grow (P := Tryz.prog) (w.alloc (.cells #[] 3)) 36 ty 3 ii z t1 t2 t3 ⟨w.heap.size, 0, none⟩ 0 0 [] (by simp) (fun j v h => by simp at h) ⟨b, off, none⟩ n cap news (by rw [n1, t5]) n2 (by omega) (by omega) (by
            rw [t6]; exact growslice_fits (by omega) (by omega))
          simp only [Nat.zero_add] at hrun
          have hsz := grownCap_ge (w.alloc (.cells #[] 3)) n 0 3
          have hmx := grownCap_le_maxLen (w.alloc (.cells #[] 3)) n 0 3 (by unfold maxLen; omega)
          generalize grownCap (w.alloc (.cells #[] 3)) n 0 3 = G at hrun hsz hmx
          have hC : G * 1 <= (([] : List Value).toArray ++ news.toArray ++ Builtin.zeroCells z.cells (G - n)).size := by
            simp only [Array.size_append, size_zeroCells, t4, List.size_toArray, n1, List.length_nil]
            omega
          have hD : aQ (bK (w.alloc (.cells #[] 3)) J (fun b => Z b \/ (w.heap.size <= b /\ b < (w.alloc (.cells #[] 3)).heap.size))) ((([] : List Value).toArray ++ news.toArray ++ Builtin.zeroCells z.cells (G - n)).toList.take (dZ f 1 n 0).length) (dZ f 1 n 0) := by
            rw [Array.toList_append, Array.toList_append, List.nil_append, List.take_append_of_le_length (by simp; omega), List.take_of_length_le (by simp; omega)]
            exact n4
          generalize ([] : List Value).toArray ++ news.toArray ++ Builtin.zeroCells z.cells (G - n) = C at hrun hC hD
          have cl := zZ ⟨b, off, none⟩ n cap w _ _ hrun
          have R2 := (hR1.drew).new (nid := i) (cs := dZ f 1 n 0) (c := C) (e := 3) (H := hset s.heap i (dZ f 1 n 0)) hH (aG _ _ _) (fun q hq => aH _ _ _ _ hq) (lD hD)
          have hA := heap_alloc_new (w.alloc (.cells #[] 3)).drew (.cells C 3)
          generalize hw1 : w.alloc (.cells #[] 3) = w1 at cl R2 hA
          refine cl.mono fun e w' ⟨he, hw⟩ => ?_
          subst hw
          exact ⟨_, _, _, he, R2, Or.inr ⟨_, _, _, 3, rfl, by simp [fM], hsz, hmx, hA, by rw [Nat.zero_add]; exact hC⟩⟩
end Go.Proofs.YtcfechepbamhkaaGreat
namespace Go.Proofs.YtcfechepbamhkaaGreat
open Go.RowKit Go.Sea
def DZ (s s' : AS) : Prop := ∀ (w0 : World) (Z0 : Fr) (a : Act) (w : World), lK w0 Z0 s a w -> lK w0 Z0 s' a w
def Vm (P : Program) (o : Oper) (s s' : AS) : Prop := o.guard = none /\ ∀ (w0 : World) (Z0 : Fr) (a : Act) (w : World) (K : Act -> World -> Prop) (Q : Exit -> Act -> World -> Prop) (n : Nat), lK w0 Z0 s a w -> (∀ a' w', lK w0 Z0 s' a' w' -> K a' w') -> o.wpIn (fo Z0.ro) n P a w K Q
theorem Ke {P : Program} {s : AS} {Q : Exit -> AS -> Prop} {id : Nat} {ops : Array Oper} (S : (Nat -> Bool) -> AS) (hm : P.follows .mixedOrders = true) (hback : qg .any ops = true) (hd : iO ops = true) (h0 : DZ s (S fun _ => false))
    (hs : ∀ i o, ops[i]? = some o -> ∀ D, Closed .any ops D -> D i = false -> (o.after.toList.all fun e => !Region.binds .any e || D e.on) = true -> Vm P o (S D) (S (upd D i)))
    (hq : ∀ D, (∀ i, i < ops.size -> D i = true) -> ∃ s', DZ (S D) s' /\ Q .normal s') : AW P (.region id ops true) s Q := fun w0 Z0 a w n R => by
  refine oq (dS _) (fun _ D a w => lK w0 Z0 (S D) a w) hm hd hback ?_ ?_ fun D a w hD R' => ?_
  · obtain ⟨J, Z, R⟩ := h0 _ _ _ _ R
    exact ⟨J, Z, R.drew⟩
  · refine jS.of ops.toList 0 fun i o ho D a w R' hDi hpre hcl K hK => ?_
    rw [Nat.zero_add] at hDi
    simp only [Nat.zero_add] at hK
    have hoi : ops[i]? = some o := by rw [<- Array.getElem?_toList]; exact ho
    obtain ⟨hg, hst⟩ := hs i o hoi D hcl hDi hpre
    have hw : Region.wanted o (yielded ops a.tmps) = true := by simp [Region.wanted, hg]
    rw [if_pos hw]
    exact hst w0 Z0 a w _ _ _ R' hK
  · obtain ⟨s', h1, h2⟩ := hq D hD
    exact ⟨s', h1 _ _ _ _ R', h2⟩
theorem kD {s s' : AS} (hN : s'.N = s.N) (hg : s'.gh = s.gh) (hl : s'.lp = s.lp) (he : ∀ t, s'.get t = s.get t \/ s'.get t = .any) (hh : ∀ q, hget s'.heap q = hget s.heap q) : DZ s s' := fun w0 Z0 a w ⟨J, Z, R⟩ =>
  ⟨J, Z, R.nodef, by rw [hN]; exact R.size, R.below, R.zfrom, R.zlt, R.jlt, R.inj, fun i hi => R.hole i ((hh i).symm.trans hi), fun i cs hi => R.blk i cs ((hh i).symm.trans hi), fun t => by
    rcases he t with e | e
    · show bq _ _ _ _ (s'.get t); rw [e]; exact R.slots t
    · show bq _ _ _ _ (s'.get t); rw [e]; trivial, fun f t => by rw [hg]; exact R.ghost f t, by rw [hl]; exact R.loops, by rw [hl]; exact R.lnd, by rw [hl]; exact R.ro⟩
theorem EB {P : Program} {o : Oper} {s s' : AS} {nid : Nat} {nd : Prop} {v : AV} {ef : Eff} (hg : o.guard = none) (hd : ∀ c, o.op ≠ .defer c) (hh : hget s.heap nid = none) (hdst : gq s o.dst) (hop : kH P nid s.ev (hget s.heap) o = some (nd, v, ef)) (hn : nd) (ht : DZ (s.ent o.dst nid v ef) s') : Vm P o s s' :=
  ⟨hg, fun w0 Z0 a w K Q n ⟨J, Z, R⟩ hK => dW (dS _) hd (qA (lC R hh hop hn) fun J' w' u R' hr => hK _ _ (ht _ _ _ _ ⟨J', Z, R'.put (fun k e => by rw [D9]; exact dQ hdst k e) hr⟩))⟩
structure En where
  t : Nat
  c : (Nat -> Bool) -> Bool
  x : TV
def jL (tb : List En) (D : Nat -> Bool) : List (Nat × AV) := tb.map fun e => (e.t, bif e.c D then .t e.x else .any)
theorem zD {D D' : Nat -> Bool} {t0 : Nat} {x0 : TV} {E0 : List (Nat × AV)} : ∀ (tb : List En), (∀ e, e ∈ tb -> if e.t = t0 then e.x = x0 else (e.c D' = true -> e.c D = true)) -> t0 ∈ tb.map (·.t) ->
    ∀ t, lk (jL tb D' ++ E0) t = lk ((t0, .t x0) :: (jL tb D ++ E0)) t \/ lk (jL tb D' ++ E0) t = .any := by
  have key : ∀ (tb : List En), (∀ e, e ∈ tb -> if e.t = t0 then e.x = x0 else (e.c D' = true -> e.c D = true)) -> ∀ t, (t = t0 -> t0 ∈ tb.map (·.t)) -> lk (jL tb D' ++ E0) t = (if t = t0 then .t x0 else lk (jL tb D ++ E0) t) \/ lk (jL tb D' ++ E0) t = .any := by
    intro tb
    induction tb with
    | nil => intro _ t ht; by_cases h : t = t0
             · simp at ht; exact absurd h ht
             · rw [if_neg h]; exact Or.inl rfl
    | cons e l ih =>
      intro h t ht
      show lk ((e.t, _) :: (jL l D' ++ E0)) t = (if t = t0 then _ else lk ((e.t, _) :: (jL l D ++ E0)) t) \/ lk ((e.t, _) :: (jL l D' ++ E0)) t = .any
      simp only [lk]
      have he := h e (List.mem_cons_self ..)
      by_cases hte : t = e.t
      · rw [if_pos hte, if_pos hte]
        cases hc : e.c D' with
        | false => exact Or.inr rfl
        | true =>
          left
          by_cases h0 : t = t0
          · rw [if_pos h0]; rw [if_pos (by omega)] at he; exact congrArg AV.t he
          · rw [if_neg h0]; rw [if_neg (by omega)] at he; rw [he hc]
      · rw [if_neg hte, if_neg hte]
        exact ih (fun e' h' => h e' (List.mem_cons_of_mem _ h')) t fun e0 => by
          rcases List.mem_cons.1 (ht e0) with h1 | h1
          · exact absurd (e0.trans h1) hte
          · exact h1
  intro tb h ht t
  exact key tb h t fun _ => ht
theorem BD {D D' : Nat -> Bool} {E0 : List (Nat × AV)} : ∀ (tb : List En), (∀ e, e ∈ tb -> e.c D' = true -> e.c D = true) -> ∀ t, lk (jL tb D' ++ E0) t = lk (jL tb D ++ E0) t \/ lk (jL tb D' ++ E0) t = .any
  | [], _, t => Or.inl rfl
  | e :: l, h, t => by
    show lk ((e.t, _) :: (jL l D' ++ E0)) t = lk ((e.t, _) :: (jL l D ++ E0)) t \/ lk ((e.t, _) :: (jL l D' ++ E0)) t = .any
    simp only [lk]
    by_cases hte : t = e.t
    · rw [if_pos hte, if_pos hte]
      cases hc : e.c D' with
      | false => exact Or.inr rfl
      | true => rw [h e (List.mem_cons_self ..) hc]; exact Or.inl rfl
    · rw [if_neg hte, if_neg hte]
      exact BD l (fun e' h' => h e' (List.mem_cons_of_mem _ h')) t
theorem adK {D : Nat -> Bool} {E0 : List (Nat × AV)} : ∀ (tb : List En), (∀ e, e ∈ tb -> e.c D = false) -> ∀ t, lk (jL tb D ++ E0) t = lk E0 t \/ lk (jL tb D ++ E0) t = .any
  | [], _, t => Or.inl rfl
  | e :: l, h, t => by
    show lk ((e.t, _) :: (jL l D ++ E0)) t = _ \/ lk ((e.t, _) :: (jL l D ++ E0)) t = .any
    simp only [lk]
    by_cases hte : t = e.t
    · rw [if_pos hte, h e (List.mem_cons_self ..)]; exact Or.inr rfl
    · rw [if_neg hte]
      exact adK l (fun e' h' => h e' (List.mem_cons_of_mem _ h')) t
theorem TQ {D : Nat -> Bool} {E0 : List (Nat × AV)} {t : Nat} : ∀ (tb : List En), t ∉ tb.map (·.t) -> lk (jL tb D ++ E0) t = lk E0 t
  | [], _ => rfl
  | e :: l, h => by
    show lk ((e.t, _) :: (jL l D ++ E0)) t = _
    simp only [lk]
    rw [if_neg (by rintro rfl; exact h (by simp))]
    exact TQ l fun h' => h (by simp only [List.map_cons, List.mem_cons]; exact Or.inr h')
def acX (ops : Array Oper) (p : Nat × Nat) : Bool := ((masks [] ops.toList).getD p.1 0).testBit p.2
theorem ahQ {ops : Array Oper} {D : Nat -> Bool} (hcl : Closed .any ops D) {i k : Nat} {o : Oper} (ho : ops[i]? = some o) (hpre : (o.after.toList.all fun e => !Region.binds .any e || D e.on) = true) (h : acX ops (i, k) = true) : D k = true := (nM (ops := ops) h).done hcl o ho hpre
theorem ake {ops : Array Oper} {D : Nat -> Bool} (hcl : Closed .any ops D) {i k : Nat} (hi : D i = false) (hk : k < ops.size) (h : acX ops (k, i) = true) : D k = false := by
  cases hD : D k with
  | false => rfl
  | true =>
    have ho : ops[k]? = some ops[k] := Array.getElem?_eq_getElem hk
    have := (nM (ops := ops) h).done hcl _ ho (hcl k _ ho hD)
    rw [hi] at this; cases this
def eX (c r i8 i12 m p : Nat) (x : Int) (f8 : CV) (A : Nat -> Nat -> IV) : List En := [⟨76, fun D => D 0, .one (.ptr c 0)⟩, ⟨77, fun D => D 1, .one (.ptr c 0)⟩, ⟨78, fun D => D 2, .one f8⟩, ⟨79, fun D => D 3, .one (.ptr c 0)⟩, ⟨80, fun D => D 4, .one (.ptr c 0)⟩, ⟨81, fun D => D 5, .one (.ptr c 0)⟩, ⟨82, fun D => D 6, .one (.ptr c 11)⟩, ⟨83, fun D => D 7, .one (.iv (.lst 1 m A))⟩, ⟨84, fun D => (D 8 && !D 13), .one (.slc i8 0 m 1)⟩, ⟨85, fun D => D 9, .one (.iv (.g (.int .i64 (p : Int))))⟩, ⟨86, fun D => D 10, .one (.ptr r 1)⟩, ⟨87, fun D => D 11, .one (.iv (.g (.int .i64 x)))⟩, ⟨88, fun D => D 12, .one (.slc i12 0 1 1)⟩, ⟨89, fun D => D 13, .one (.slc i8 0 (m + 1) 1)⟩, ⟨90, fun D => D 14, .one (.ptr c 0)⟩, ⟨91, fun D => D 15, .one (.ptr c 0)⟩, ⟨92, fun D => D 16, .one (.ptr c 12)⟩, ⟨93, fun D => D 18, .one (.ptr c 0)⟩, ⟨94, fun D => D 19, .one (.ptr c 0)⟩, ⟨95, fun D => D 20, .one (.ptr c 11)⟩]
def oO (c i8 m : Nat) (f8 : CV) (cs : List CV) (D : Nat -> Bool) : List CV := bif D 21 then (cs.take 12 ++ [f8] ++ cs.drop 13).take 11 ++ [.slc i8 0 (m + 1) 1] ++ (cs.take 12 ++ [f8] ++ cs.drop 13).drop 12 else bif D 17 then cs.take 12 ++ [f8] ++ cs.drop 13 else cs
def gT (H0 : List (Option (List CV))) (c i8 i12 m p : Nat) (x : Int) (f8 : CV) (cs : List CV) (zs : List Int) (D : Nat -> Bool) : List (Option (List CV)) :=
  (fun H => bif D 12 then hset H i12 [.iv (.g (.int .i64 x))] else H) ((fun H => bif D 8 then hset H i8 (bif D 13 then dU (lS zs p x) else dU zs) else H) (hset H0 c (oO c i8 m f8 cs D)))
theorem dO (H0 : List (Option (List CV))) (c i8 i12 m p : Nat) (x : Int) (f8 : CV) (cs : List CV) (zs : List Int) (D : Nat -> Bool) (q : Nat) : hget (gT H0 c i8 i12 m p x f8 cs zs D) q = if D 12 = true /\ q = i12 then some [.iv (.g (.int .i64 x))] else if D 8 = true /\ q = i8 then some (bif D 13 then dU (lS zs p x) else dU zs) else if q = c then some (oO c i8 m f8 cs D) else hget H0 q := by
  have g : ∀ (H : List (Option (List CV))) (n k : Nat) (y : List CV), hget (hset H n y) k = if k = n then some y else hget H k := fun H n k y => by
    by_cases h : k = n
    · subst h; rw [if_pos rfl, aG]
    · rw [if_neg h, aH _ _ _ _ h]
  unfold gT
  cases D 12 <;> cases D 8 <;> simp [g]
theorem CB (h : List (Option (List CV))) : hget h h.length = none := by simp [hget]
theorem NG {P : Program} {s : AS} {nid t ty : Nat} {d : Option Nat} {pos : String} {a : Array Edge} {y : TV} (h : s.get t = .t y) : kH P nid s.ev (hget s.heap) ⟨d, .move (.tmp t), ty, pos, a, none⟩ = some (True, .t y, .nop) := by
  unfold kH; simp only [AS.ev, h]
theorem tu {P : Program} {s : AS} {nid t k ty n i o : Nat} {d : Option Nat} {pos : String} {a : Array Edge} {cs : List CV} (hty : lG P k = some (false, n)) (h : s.get t = .t (.one (.ptr i o))) (hh : hget s.heap i = some cs) : kH P nid s.ev (hget s.heap) ⟨d, .load k (.tmp t), ty, pos, a, none⟩ = some (True /\ o < cs.length, .t (.one (cs.getD o .any)), .nop) := by
  unfold kH; simp only [AS.ev, h, hty, AV.tv, TV.dp, pz, hh, cond_false, AV.nd]
theorem Lb {P : Program} {s : AS} {nid t ty i o : Nat} {d : Option Nat} {pos : String} {a : Array Edge} (h : s.get t = .t (.one (.ptr i o))) : kH P nid s.ev (hget s.heap) ⟨d, .nilCheck (.tmp t), ty, pos, a, none⟩ = some (True, .t (.one (.ptr i o)), .nop) := by
  unfold kH uD; simp only [AS.ev, h, AV.tv, ncF, AV.nd]
theorem sV {P : Program} {s : AS} {nid t k f ty i o off : Nat} {d : Option Nat} {pos : String} {a : Array Edge} (hty : dF P k f = some off) (h : s.get t = .t (.one (.ptr i o))) : kH P nid s.ev (hget s.heap) ⟨d, .fieldAddr k (.tmp t) f, ty, pos, a, none⟩ = some (True /\ True, .t (.one (.ptr i (o + off))), .nop) := by
  unfold kH; simp only [AS.ev, h, hty, AV.tv, TV.dp, Al, AV.nd]
theorem Jz {P : Program} {s : AS} {nid t u k ty i o : Nat} {ag : Bool} {pos : String} {a : Array Edge} {y : CV} {cs : List CV} (hty : lG P k = some (ag, 1)) (h : s.get t = .t (.one (.ptr i o))) (hu : s.get u = .t (.one y)) (hh : hget s.heap i = some cs) : kH P nid s.ev (hget s.heap) ⟨none, .store k (.tmp t) (.tmp u), ty, pos, a, none⟩ = some (True /\ True /\ ([y].length = 1 /\ o + 1 <= cs.length /\ 0 < 1), .any, .set i (cs.take o ++ [y] ++ cs.drop (o + 1))) := by
  unfold kH; simp only [AS.ev, h, hu, hty, AV.tv, TV.dp, ow, hh, AV.nd, TV.cells]
theorem ak0 {s : AS} {nid t ty : Nat} {d : Option Nat} {pos : String} {a : Array Edge} {y : CV} (h : s.get t = .t (.one y)) : kH Tryz.prog nid s.ev (hget s.heap) ⟨d, .buildSlice 36 1 #[(0, .tmp t)], ty, pos, a, none⟩ = some (True /\ True, .t (.one (.slc nid 0 1 1)), .new [y]) := by
  have e1 : qV Tryz.prog 36 = some (1, 8, 3) := by kernel_rfl
  have e2 : fJ Tryz.prog 3 = some [.iv (.g (.int .i64 0))] := by kernel_rfl
  unfold kH; simp [AS.ev, h, e1, e2, AV.tv, AV.nd, jq, nG, sN, TV.cells]
theorem N7 {D : Nat -> Bool} {i t0 : Nat} {E0 : List (Nat × AV)} (h0 : lM i E0 = E0) : ∀ (tb : List En), (∀ e, e ∈ tb -> e.t ≠ t0 -> e.c D = true -> (AV.t e.x).cB i = .t e.x) -> ∀ t, t ≠ t0 -> (lk (jL tb D ++ E0) t).cB i = lk (jL tb D ++ E0) t
  | [], _, t, _ => by
    show (lk E0 t).cB i = lk E0 t
    rw [<- kC, h0]
  | e :: l, h, t, ht => by
    show (lk ((e.t, _) :: (jL l D ++ E0)) t).cB i = lk ((e.t, _) :: (jL l D ++ E0)) t
    simp only [lk]
    by_cases hte : t = e.t
    · rw [if_pos hte]
      cases hc : e.c D with
      | false => rfl
      | true => rw [cond_true, h e (List.mem_cons_self ..) (by omega) hc]
    · rw [if_neg hte]
      exact N7 h0 l (fun e' h' => h e' (List.mem_cons_of_mem _ h')) t ht
theorem Vr {P : Program} {s : AS} {t k ty : Nat} {d : Option Nat} {pos : String} {a : Array Edge} {tys : Array TypeId} {y : TV} {K : AS -> Prop} {r : AV} {H' : List (Option (List CV))} (h : s.get t = .t y) (hf : aK P k = true) (hc : gW P k [y] s.heap r H') (hk : K ({ s with heap := H' }.put d r)) : yU P ⟨d, .call ⟨.value (.func k), #[.tmp t], tys⟩, ty, pos, a, none⟩ s K := by
  refine Or.inl ?_
  unfold sG
  simp only [AS.ev, dV, jX, List.size_toArray, List.length_nil, and_self, if_true, kg, h, AV.tv]
  exact Or.inr ⟨hf, ⟨trivial, trivial⟩, Or.inr ⟨r, H', hc, hk⟩⟩
def aje : AV -> Bool
  | .any => true
  | _ => false
theorem agq {x : AV} (h : aje x = true) : x = .any := by cases x <;> first | rfl | cases h
abbrev iP (E0 : List (Nat × AV)) (H0 : List (Option (List CV))) (N : Nat) (g : List (Nat × List (Nat × AV))) (lp : LP) (c r i8 i12 m p : Nat) (x : Int) (f8 : CV) (A : Nat -> Nat -> IV) (cs : List CV) (zs : List Int) (D : Nat -> Bool) : AS := ⟨jL (eX c r i8 i12 m p x f8 A) D ++ E0, gT H0 c i8 i12 m p x f8 cs zs D, N, g, lp⟩
theorem Ch {H0 : List (Option (List CV))} {c i8 i12 m p : Nat} {x : Int} {f8 : CV} {cs : List CV} {zs : List Int} {D D' : Nat -> Bool} (h : D' 8 = D 8 /\ D' 12 = D 12 /\ D' 13 = D 13 /\ D' 17 = D 17 /\ D' 21 = D 21) : gT H0 c i8 i12 m p x f8 cs zs D' = gT H0 c i8 i12 m p x f8 cs zs D := by
  unfold gT oO; rw [h.1, h.2.1, h.2.2.1, h.2.2.2.1, h.2.2.2.2]
set_option maxRecDepth 10000 in
set_option maxHeartbeats 4000000 in
theorem ae2 {E0 : List (Nat × AV)} {H0 : List (Option (List CV))} {N : Nat} {g : List (Nat × List (Nat × AV))} {lp : LP} {Q : Exit -> AS -> Prop} {id : Nat} {s0 s1 s2 s3 s4 s5 s6 s7 s8 s9 s10 s11 s12 s13 s14 s15 s16 s17 s18 s19 s20 s21 : String} {a0 a1 a2 a3 a4 a5 a6 a7 a8 a9 a10 a11 a12 a13 a14 a15 a16 a17 a18 a19 a20 a21 : Array Edge} {b p m c r : Nat} {x : Int} {f8 : CV} {cs rs : List CV} {A : Nat -> Nat -> IV} {zs : List Int} {ops : Array Oper} (i8 i12 : Nat) (ho : ops = #[⟨some 76, .load 131 (Operand.tmp 2), 131, s0, a0, none⟩, ⟨some 77, .load 131 (Operand.tmp 2), 131, s1, a1, none⟩, ⟨some 78, .move (Operand.tmp 8), 37, s2, a2, none⟩, ⟨some 79, .load 131 (Operand.tmp 2), 131, s3, a3, none⟩, ⟨some 80, .nilCheck (Operand.tmp 79), 0, s4, a4, none⟩, ⟨some 81, .fieldAddr 94 (Operand.tmp 80) 0, 0, s5, a5, none⟩, ⟨some 82, .fieldAddr 39 (Operand.tmp 81) 5, 0, s6, a6, none⟩, ⟨some 83, .load 36 (Operand.tmp 82), 36, s7, a7, none⟩, ⟨some 84, .call ⟨.value (.func 102), #[(Operand.tmp 83)], #[36]⟩, 36, s8, a8, none⟩, ⟨some 85, .move (Operand.tmp 11), 3, s9, a9, none⟩, ⟨some 86, .fieldAddr 28 (Operand.tmp 3) 1, 0, s10, a10, none⟩, ⟨some 87, .load 3 (Operand.tmp 86), 3, s11, a11, none⟩, ⟨some 88, .buildSlice 36 1 #[(0, (Operand.tmp 87))], 36, s12, a12, none⟩, ⟨some 89, .call ⟨.value (.func 101), #[(Operand.tmp 84), (Operand.tmp 85), (Operand.tmp 88)], #[36,3,36]⟩, 36, s13, a13, none⟩, ⟨some 90, .nilCheck (Operand.tmp 76), 0, s14, a14, none⟩, ⟨some 91, .fieldAddr 94 (Operand.tmp 90) 0, 0, s15, a15, none⟩, ⟨some 92, .fieldAddr 39 (Operand.tmp 91) 6, 0, s16, a16, none⟩, ⟨none, .store 37 (Operand.tmp 92) (Operand.tmp 78), 0, s17, a17, none⟩, ⟨some 93, .nilCheck (Operand.tmp 77), 0, s18, a18, none⟩, ⟨some 94, .fieldAddr 94 (Operand.tmp 93) 0, 0, s19, a19, none⟩, ⟨some 95, .fieldAddr 39 (Operand.tmp 94) 5, 0, s20, a20, none⟩, ⟨none, .store 36 (Operand.tmp 95) (Operand.tmp 89), 0, s21, a21, none⟩])
    (h2 : lk E0 2 = .t (.one (.ptr b 0))) (hb : hget H0 b = some [.ptr c 0]) (hc : hget H0 c = some cs) (hcl : cs.length = 13) (hcd : cs.getD 11 .any = .iv (.lst 1 m A)) (h8 : lk E0 8 = .t (.one f8)) (hf8 : (AV.t (.one f8)).cB i8 = .t (.one f8))
    (h11 : lk E0 11 = .t (.one (.iv (.g (.int .i64 (p : Int)))))) (h3 : lk E0 3 = .t (.one (.ptr r 0))) (hr : hget H0 r = some rs) (hrs : rs.getD 1 .any = .iv (.g (.int .i64 x)) /\ 1 < rs.length /\ r ≠ c) (n8 : hget H0 i8 = none) (n12 : hget H0 i12 = none) (n812 : i8 ≠ i12)
    (hm : m <= 1000) (hz : dZ A 1 m 0 = dU zs) (hzl : zs.length = m) (hp : p <= m) (pE : lM i8 E0 = E0) (pG : pU i8 g = g) (pH : kL i8 H0 = H0) (pC : gJ i8 cs = cs) (hN : 96 <= N) (hE : [76,77,78,79,80,81,82,83,84,85,86,87,88,89,90,91,92,93,94,95].all (fun t => aje (lk E0 t)) = true)
    (hm' : Tryz.prog.follows .mixedOrders = true) (hback : qg .any ops = true) (hd : iO ops = true) (hchk : ([(4, 3), (5, 4), (6, 5), (7, 6), (8, 7), (11, 10), (12, 11), (13, 8), (13, 9), (13, 12), (14, 0), (14, 13), (15, 14), (16, 15), (17, 16), (17, 2), (17, 13), (17, 8), (18, 1), (18, 17), (19, 18), (20, 19), (21, 20), (21, 13), (21, 17), (21, 8), (17, 7), (21, 7), (13, 8), (21, 17), (17, 13), (21, 13)].all (acX ops)) = true)
    (hQ : Q .normal ⟨E0, gT H0 c i8 i12 m p x f8 cs zs (fun _ => true), N, g, lp⟩) : AW Tryz.prog (.region id ops true) ⟨E0, H0, N, g, lp⟩ Q := by
  have t122 : lG Tryz.prog 131 = some (false, 1) := by kernel_rfl
  have t24 : lG Tryz.prog 36 = some (false, 1) := by kernel_rfl
  have t25 : lG Tryz.prog 37 = some (false, 1) := by kernel_rfl
  have t3 : lG Tryz.prog 3 = some (false, 1) := by kernel_rfl
  have o79 : dF Tryz.prog 94 0 = some 0 := by kernel_rfl
  have o275 : dF Tryz.prog 39 5 = some 11 := by kernel_rfl
  have o276 : dF Tryz.prog 39 6 = some 12 := by kernel_rfl
  have o30 : dF Tryz.prog 28 1 = some 1 := by kernel_rfl
  have bc : b ≠ c := by rintro rfl; rw [hb] at hc; cases hc; simp at hcl
  have b8 : b ≠ i8 := by rintro rfl; rw [hb] at n8; cases n8
  have b12 : b ≠ i12 := by rintro rfl; rw [hb] at n12; cases n12
  have c8 : c ≠ i8 := by rintro rfl; rw [hc] at n8; cases n8
  have c12 : c ≠ i12 := by rintro rfl; rw [hc] at n12; cases n12
  have r8 : r ≠ i8 := by rintro rfl; rw [hr] at n8; cases n8
  have r12 : r ≠ i12 := by rintro rfl; rw [hr] at n12; cases n12
  have gb : ∀ D, hget (gT H0 c i8 i12 m p x f8 cs zs D) b = some [.ptr c 0] := fun D => by rw [dO, if_neg (fun h => b12 h.2), if_neg (fun h => b8 h.2), if_neg bc, hb]
  have gr : ∀ D, hget (gT H0 c i8 i12 m p x f8 cs zs D) r = some rs := fun D => by rw [dO, if_neg (fun h => r12 h.2), if_neg (fun h => r8 h.2), if_neg hrs.2.2, hr]
  have gc : ∀ D, hget (gT H0 c i8 i12 m p x f8 cs zs D) c = some (oO c i8 m f8 cs D) := fun D => by rw [dO, if_neg (fun h => c12 h.2), if_neg (fun h => c8 h.2), if_pos rfl]
  have hlen : ops.size = 22 := by rw [ho]; rfl
  have anc : ∀ i k, (i, k) ∈ [(4, 3), (5, 4), (6, 5), (7, 6), (8, 7), (11, 10), (12, 11), (13, 8), (13, 9), (13, 12), (14, 0), (14, 13), (15, 14), (16, 15), (17, 16), (17, 2), (17, 13), (17, 8), (18, 1), (18, 17), (19, 18), (20, 19), (21, 20), (21, 13), (21, 17), (21, 8), (17, 7), (21, 7), (13, 8), (21, 17), (17, 13), (21, 13)] -> acX ops (i, k) = true := fun i k h => List.all_eq_true.1 hchk _ h
  have put : ∀ (i t0 : Nat) (x0 : TV) (D : Nat -> Bool) (o : Oper) (nd : Prop), o.guard = none -> (∀ c, o.op ≠ .defer c) -> o.dst = some t0 -> t0 < 96 -> kH Tryz.prog (gT H0 c i8 i12 m p x f8 cs zs D).length (iP E0 H0 N g lp c r i8 i12 m p x f8 A cs zs D).ev (hget (gT H0 c i8 i12 m p x f8 cs zs D)) o = some (nd, .t x0, .nop) -> nd ->
      (∀ e, e ∈ eX c r i8 i12 m p x f8 A -> if e.t = t0 then e.x = x0 else (e.c (upd D i) = true -> e.c D = true)) -> t0 ∈ (eX c r i8 i12 m p x f8 A).map (·.t) -> ((upd D i) 8 = D 8 /\ (upd D i) 12 = D 12 /\ (upd D i) 13 = D 13 /\ (upd D i) 17 = D 17 /\ (upd D i) 21 = D 21) ->
      Vm Tryz.prog o (iP E0 H0 N g lp c r i8 i12 m p x f8 A cs zs D) (iP E0 H0 N g lp c r i8 i12 m p x f8 A cs zs (upd D i)) := fun i t0 x0 D o nd hg hdf hdst hlt hop hn ht hin hh =>
    EB hg hdf (CB _) (by rw [hdst]; show t0 < N; omega) hop hn (by
      rw [hdst]
      exact kD rfl rfl rfl (fun t => zD (E0 := E0) (eX c r i8 i12 m p x f8 A) ht hin t) fun q => by
        show hget (gT H0 c i8 i12 m p x f8 cs zs (upd D i)) q = hget (gT H0 c i8 i12 m p x f8 cs zs D) q
        rw [Ch hh])
  have c8b : (c == i8) = false := by simp [c8]
  have r8b : (r == i8) = false := by simp [r8]
  have i12b : (i12 == i8) = false := by simp [Ne.symm n812]
  have g2 : ∀ D, (iP E0 H0 N g lp c r i8 i12 m p x f8 A cs zs D).get 2 = .t (.one (.ptr b 0)) := fun D => h2
  refine Ke (fun D => iP E0 H0 N g lp c r i8 i12 m p x f8 A cs zs D) hm' hback hd ?_ ?_ ?_
  · refine kD rfl rfl rfl (adK _ (by simp [eX])) fun q => ?_
    show hget (gT H0 c i8 i12 m p x f8 cs zs (fun _ => false)) q = hget H0 q
    rw [dO, if_neg (by simp), if_neg (by simp)]
    by_cases h : q = c
    · subst h; rw [if_pos rfl, hc]; rfl
    · rw [if_neg h]
  · intro i o hio D hcl hDi hpre
    have hi : i < 22 := by rw [<- hlen]; exact (Array.getElem?_eq_some_iff.1 hio).1
    have hio' := hio
    rw [ho] at hio'
    have at_ : ∀ k, (i, k) ∈ [(4, 3), (5, 4), (6, 5), (7, 6), (8, 7), (11, 10), (12, 11), (13, 8), (13, 9), (13, 12), (14, 0), (14, 13), (15, 14), (16, 15), (17, 16), (17, 2), (17, 13), (17, 8), (18, 1), (18, 17), (19, 18), (20, 19), (21, 20), (21, 13), (21, 17), (21, 8), (17, 7), (21, 7), (13, 8), (21, 17), (17, 13), (21, 13)] -> D k = true := fun k h => ahQ hcl hio hpre (anc i k h)
    have af_ : ∀ k, k < 22 -> (k, i) ∈ [(4, 3), (5, 4), (6, 5), (7, 6), (8, 7), (11, 10), (12, 11), (13, 8), (13, 9), (13, 12), (14, 0), (14, 13), (15, 14), (16, 15), (17, 16), (17, 2), (17, 13), (17, 8), (18, 1), (18, 17), (19, 18), (20, 19), (21, 20), (21, 13), (21, 17), (21, 8), (17, 7), (21, 7), (13, 8), (21, 17), (17, 13), (21, 13)] -> D k = false := fun k hk h => ake hcl hDi (by omega) (anc k i h)
    clear hio hpre hcl
    rcases (by omega : i = 0 \/ i = 1 \/ i = 2 \/ i = 3 \/ i = 4 \/ i = 5 \/ i = 6 \/ i = 7 \/ i = 8 \/ i = 9 \/ i = 10 \/ i = 11 \/ i = 12 \/ i = 13 \/ i = 14 \/ i = 15 \/ i = 16 \/ i = 17 \/ i = 18 \/ i = 19 \/ i = 20 \/ i = 21) with rfl | rfl | rfl | rfl | rfl | rfl | rfl | rfl | rfl | rfl | rfl | rfl | rfl | rfl | rfl | rfl | rfl | rfl | rfl | rfl | rfl | rfl
    · obtain rfl := Option.some.inj hio'
      exact put 0 76 (.one (.ptr c 0)) D _ _ rfl (fun c e => by cases e) rfl (by omega) (tu (s := iP E0 H0 N g lp c r i8 i12 m p x f8 A cs zs D) t122 (g2 D) (gb D)) (And.intro trivial (by simp)) (by intro e he; simp only [eX, List.mem_cons, List.not_mem_nil, or_false] at he; rcases he with rfl | rfl | rfl | rfl | rfl | rfl | rfl | rfl | rfl | rfl | rfl | rfl | rfl | rfl | rfl | rfl | rfl | rfl | rfl | rfl <;> simp [upd]) (by simp [eX]) (by simp [upd])
    · obtain rfl := Option.some.inj hio'
      exact put 1 77 (.one (.ptr c 0)) D _ _ rfl (fun c e => by cases e) rfl (by omega) (tu (s := iP E0 H0 N g lp c r i8 i12 m p x f8 A cs zs D) t122 (g2 D) (gb D)) (And.intro trivial (by simp)) (by intro e he; simp only [eX, List.mem_cons, List.not_mem_nil, or_false] at he; rcases he with rfl | rfl | rfl | rfl | rfl | rfl | rfl | rfl | rfl | rfl | rfl | rfl | rfl | rfl | rfl | rfl | rfl | rfl | rfl | rfl <;> simp [upd]) (by simp [eX]) (by simp [upd])
    · obtain rfl := Option.some.inj hio'
      exact put 2 78 (.one f8) D _ _ rfl (fun c e => by cases e) rfl (by omega) (NG h8) trivial (by intro e he; simp only [eX, List.mem_cons, List.not_mem_nil, or_false] at he; rcases he with rfl | rfl | rfl | rfl | rfl | rfl | rfl | rfl | rfl | rfl | rfl | rfl | rfl | rfl | rfl | rfl | rfl | rfl | rfl | rfl <;> simp [upd]) (by simp [eX]) (by simp [upd])
    · obtain rfl := Option.some.inj hio'
      exact put 3 79 (.one (.ptr c 0)) D _ _ rfl (fun c e => by cases e) rfl (by omega) (tu (s := iP E0 H0 N g lp c r i8 i12 m p x f8 A cs zs D) t122 (g2 D) (gb D)) (And.intro trivial (by simp)) (by intro e he; simp only [eX, List.mem_cons, List.not_mem_nil, or_false] at he; rcases he with rfl | rfl | rfl | rfl | rfl | rfl | rfl | rfl | rfl | rfl | rfl | rfl | rfl | rfl | rfl | rfl | rfl | rfl | rfl | rfl <;> simp [upd]) (by simp [eX]) (by simp [upd])
    · obtain rfl := Option.some.inj hio'
      have k3 := at_ 3 (by decide)
      have g79 : (iP E0 H0 N g lp c r i8 i12 m p x f8 A cs zs D).get 79 = .t (.one (.ptr c 0)) := by show (bif D 3 then AV.t _ else .any) = _; rw [k3]; rfl
      exact put 4 80 (.one (.ptr c 0)) D _ _ rfl (fun c e => by cases e) rfl (by omega) (Lb g79) trivial (by intro e he; simp only [eX, List.mem_cons, List.not_mem_nil, or_false] at he; rcases he with rfl | rfl | rfl | rfl | rfl | rfl | rfl | rfl | rfl | rfl | rfl | rfl | rfl | rfl | rfl | rfl | rfl | rfl | rfl | rfl <;> simp [upd]) (by simp [eX]) (by simp [upd])
    · obtain rfl := Option.some.inj hio'
      have k4 := at_ 4 (by decide)
      have g80 : (iP E0 H0 N g lp c r i8 i12 m p x f8 A cs zs D).get 80 = .t (.one (.ptr c 0)) := by show (bif D 4 then AV.t _ else .any) = _; rw [k4]; rfl
      exact put 5 81 (.one (.ptr c 0)) D _ _ rfl (fun c e => by cases e) rfl (by omega) (sV o79 g80) ⟨trivial, trivial⟩ (by intro e he; simp only [eX, List.mem_cons, List.not_mem_nil, or_false] at he; rcases he with rfl | rfl | rfl | rfl | rfl | rfl | rfl | rfl | rfl | rfl | rfl | rfl | rfl | rfl | rfl | rfl | rfl | rfl | rfl | rfl <;> simp [upd]) (by simp [eX]) (by simp [upd])
    · obtain rfl := Option.some.inj hio'
      have k5 := at_ 5 (by decide)
      have g81 : (iP E0 H0 N g lp c r i8 i12 m p x f8 A cs zs D).get 81 = .t (.one (.ptr c 0)) := by show (bif D 5 then AV.t _ else .any) = _; rw [k5]; rfl
      exact put 6 82 (.one (.ptr c 11)) D _ _ rfl (fun c e => by cases e) rfl (by omega) (sV o275 g81) ⟨trivial, trivial⟩ (by intro e he; simp only [eX, List.mem_cons, List.not_mem_nil, or_false] at he; rcases he with rfl | rfl | rfl | rfl | rfl | rfl | rfl | rfl | rfl | rfl | rfl | rfl | rfl | rfl | rfl | rfl | rfl | rfl | rfl | rfl <;> simp [upd]) (by simp [eX]) (by simp [upd])
    · obtain rfl := Option.some.inj hio'
      have k6 := at_ 6 (by decide)
      have f17 := af_ 17 (by omega) (by decide)
      have f21 := af_ 21 (by omega) (by decide)
      have g82 : (iP E0 H0 N g lp c r i8 i12 m p x f8 A cs zs D).get 82 = .t (.one (.ptr c 11)) := by show (bif D 6 then AV.t _ else .any) = _; rw [k6]; rfl
      have gc' : hget (gT H0 c i8 i12 m p x f8 cs zs D) c = some cs := (gc D).trans (by unfold oO; rw [f21, f17]; rfl)
      have ev := fun n => tu (s := iP E0 H0 N g lp c r i8 i12 m p x f8 A cs zs D) (nid := n) (d := some 83) (ty := 36) (pos := s7) (a := a7) t24 g82 gc'
      rw [hcd] at ev
      exact put 7 83 (.one (.iv (.lst 1 m A))) D _ _ rfl (fun c e => by cases e) rfl (by omega) (ev _) (And.intro trivial (by rw [hcl]; omega)) (by intro e he; simp only [eX, List.mem_cons, List.not_mem_nil, or_false] at he; rcases he with rfl | rfl | rfl | rfl | rfl | rfl | rfl | rfl | rfl | rfl | rfl | rfl | rfl | rfl | rfl | rfl | rfl | rfl | rfl | rfl <;> simp [upd]) (by simp [eX]) (by simp [upd])
    · obtain rfl := Option.some.inj hio'
      have k7 := at_ 7 (by decide)
      have f13 := af_ 13 (by omega) (by decide)
      have g83 : (iP E0 H0 N g lp c r i8 i12 m p x f8 A cs zs D).get 83 = .t (.one (.iv (.lst 1 m A))) := by show (bif D 7 then AV.t _ else .any) = _; rw [k7]; rfl
      have hA : ∀ q, hget (gT H0 c i8 i12 m p x f8 cs zs (upd D 8)) q = hget (hset (gT H0 c i8 i12 m p x f8 cs zs D) i8 (dZ A 1 m 0)) q := fun q => by
        by_cases hq : q = i8
        · subst hq; rw [aG, dO]; rw [if_neg (fun h => n812 h.2), if_pos (by simp [upd]), hz, show (upd D 8) 13 = D 13 from rfl, f13]; rfl
        · rw [aH _ _ _ _ hq, dO, dO]; simp [upd, hq, oO]
      refine ⟨rfl, fun w0 Z0 a w K Q n ⟨J, Z, R⟩ hK => iB R (by show 84 < N; omega) (K := fun s' => DZ s' (iP E0 H0 N g lp c r i8 i12 m p x f8 A cs zs (upd D 8))) (Vr g83 (by kernel_rfl) (ach m A hm _ i8 ?_) ?_) fun s' a' w' R' hk => hK _ _ (hk _ _ _ _ R')⟩
      · show hget (gT H0 c i8 i12 m p x f8 cs zs D) i8 = none
        rw [dO, if_neg (fun h => n812 h.2), if_neg (by rw [hDi]; simp), if_neg (Ne.symm c8), n8]
      · refine kD rfl rfl rfl (fun t => zD (t0 := 84) (x0 := .one (.slc i8 0 m 1)) (E0 := E0) (D := D) (D' := upd D 8) (eX c r i8 i12 m p x f8 A) (by intro e he; simp only [eX, List.mem_cons, List.not_mem_nil, or_false] at he; rcases he with rfl | rfl | rfl | rfl | rfl | rfl | rfl | rfl | rfl | rfl | rfl | rfl | rfl | rfl | rfl | rfl | rfl | rfl | rfl | rfl <;> simp [upd]) (by simp [eX]) t) hA
    · obtain rfl := Option.some.inj hio'
      exact put 9 85 (.one (.iv (.g (.int .i64 (p : Int))))) D _ _ rfl (fun c e => by cases e) rfl (by omega) (NG h11) trivial (by intro e he; simp only [eX, List.mem_cons, List.not_mem_nil, or_false] at he; rcases he with rfl | rfl | rfl | rfl | rfl | rfl | rfl | rfl | rfl | rfl | rfl | rfl | rfl | rfl | rfl | rfl | rfl | rfl | rfl | rfl <;> simp [upd]) (by simp [eX]) (by simp [upd])
    · obtain rfl := Option.some.inj hio'
      exact put 10 86 (.one (.ptr r 1)) D _ _ rfl (fun c e => by cases e) rfl (by omega) (sV o30 h3) ⟨trivial, trivial⟩ (by intro e he; simp only [eX, List.mem_cons, List.not_mem_nil, or_false] at he; rcases he with rfl | rfl | rfl | rfl | rfl | rfl | rfl | rfl | rfl | rfl | rfl | rfl | rfl | rfl | rfl | rfl | rfl | rfl | rfl | rfl <;> simp [upd]) (by simp [eX]) (by simp [upd])
    · obtain rfl := Option.some.inj hio'
      have k10 := at_ 10 (by decide)
      have g86 : (iP E0 H0 N g lp c r i8 i12 m p x f8 A cs zs D).get 86 = .t (.one (.ptr r 1)) := by show (bif D 10 then AV.t _ else .any) = _; rw [k10]; rfl
      have ev := fun n => tu (s := iP E0 H0 N g lp c r i8 i12 m p x f8 A cs zs D) (nid := n) (d := some 87) (ty := 3) (pos := s11) (a := a11) t3 g86 (gr D)
      rw [hrs.1] at ev
      exact put 11 87 (.one (.iv (.g (.int .i64 x)))) D _ _ rfl (fun c e => by cases e) rfl (by omega) (ev _) (And.intro trivial hrs.2.1) (by intro e he; simp only [eX, List.mem_cons, List.not_mem_nil, or_false] at he; rcases he with rfl | rfl | rfl | rfl | rfl | rfl | rfl | rfl | rfl | rfl | rfl | rfl | rfl | rfl | rfl | rfl | rfl | rfl | rfl | rfl <;> simp [upd]) (by simp [eX]) (by simp [upd])
    · obtain rfl := Option.some.inj hio'
      have k11 := at_ 11 (by decide)
      have g87 : (iP E0 H0 N g lp c r i8 i12 m p x f8 A cs zs D).get 87 = .t (.one (.iv (.g (.int .i64 x)))) := by show (bif D 11 then AV.t _ else .any) = _; rw [k11]; rfl
      have hA : ∀ q, hget (gT H0 c i8 i12 m p x f8 cs zs (upd D 12)) q = hget (hset (gT H0 c i8 i12 m p x f8 cs zs D) i12 [.iv (.g (.int .i64 x))]) q := fun q => by
        by_cases hq : q = i12
        · subst hq; rw [aG, dO]; rw [if_pos (by simp [upd])]
        · rw [aH _ _ _ _ hq, dO, dO]; simp [upd, hq, oO]
      refine EB (nid := i12) rfl (fun c e => by cases e) ?_ (by show 88 < N; omega) (ak0 g87) ⟨trivial, trivial⟩ (kD rfl rfl rfl (fun t => zD (t0 := 88) (x0 := .one (.slc i12 0 1 1)) (E0 := E0) (D := D) (D' := upd D 12) (eX c r i8 i12 m p x f8 A) (by intro e he; simp only [eX, List.mem_cons, List.not_mem_nil, or_false] at he; rcases he with rfl | rfl | rfl | rfl | rfl | rfl | rfl | rfl | rfl | rfl | rfl | rfl | rfl | rfl | rfl | rfl | rfl | rfl | rfl | rfl <;> simp [upd]) (by simp [eX]) t) hA)
      show hget (gT H0 c i8 i12 m p x f8 cs zs D) i12 = none
      rw [dO, if_neg (by rw [hDi]; simp), if_neg (fun h => n812 h.2.symm), if_neg (Ne.symm c12), n12]
    · obtain rfl := Option.some.inj hio'
      have k8 := at_ 8 (by decide)
      have k9 := at_ 9 (by decide)
      have k12 := at_ 12 (by decide)
      have f17 := af_ 17 (by omega) (by decide)
      have f21 := af_ 21 (by omega) (by decide)
      have hi8 : hget (gT H0 c i8 i12 m p x f8 cs zs D) i8 = some (dU zs) := by rw [dO, if_neg (fun h => n812 h.2), if_pos ⟨k8, rfl⟩, hDi]; rfl
      have hi12 : hget (gT H0 c i8 i12 m p x f8 cs zs D) i12 = some [.iv (.g (.int .i64 x))] := by rw [dO, if_pos ⟨k12, rfl⟩]
      have g84 : (iP E0 H0 N g lp c r i8 i12 m p x f8 A cs zs D).get 84 = .t (.one (.slc i8 0 zs.length 1)) := by show (bif (D 8 && !D 13) then AV.t _ else .any) = _; rw [k8, hDi, hzl]; rfl
      have g85 : (iP E0 H0 N g lp c r i8 i12 m p x f8 A cs zs D).get 85 = .t (.one (.iv (.g (.int .i64 (p : Int))))) := by show (bif D 9 then AV.t _ else .any) = _; rw [k9]; rfl
      have g88 : (iP E0 H0 N g lp c r i8 i12 m p x f8 A cs zs D).get 88 = .t (.one (.slc i12 0 1 1)) := by show (bif D 12 then AV.t _ else .any) = _; rw [k12]; rfl
      refine ⟨rfl, fun w0 Z0 a w K Q n ⟨J, Z, R⟩ hK => dW (dS _) (fun c e => by cases e) (iL (iK rfl (gU R (show dV ((iP E0 H0 N g lp c r i8 i12 m p x f8 A cs zs D).ev (.func 101)) = .pure 101 from rfl)) (by kernel_rfl)) ?_)⟩
      simp only [Array.empty_append, Array.append_empty]
      have hargs : aQ (cu w J Z) ((#[Operand.tmp 84, Operand.tmp 85, Operand.tmp 88] : Array Operand).map a.eval).toList [.one (.slc i8 0 zs.length 1), .one (.iv (.g (.int .i64 (p : Int)))), .one (.slc i12 0 1 1)] := by
        simp only [Array.toList_map]; exact mP R (l := [.tmp 84, .tmp 85, .tmp 88]) (nd := True /\ True /\ True /\ True) (by simp only [kg, AS.ev, g84, g85, g88, AV.tv, AV.nd]) ⟨trivial, trivial, trivial, trivial⟩
      refine (akc R hi8 hi12 n812 (by omega) (by omega) hargs).mono fun e w' ⟨v, J', he, R', hr⟩ => ⟨v, he, hK _ _ ?_⟩
      rw [hzl] at hr
      have R2 := R'.put (d := some 89) (fun k e => by cases e; show 89 < N; omega) hr
      have tt : DZ (((iP E0 H0 N g lp c r i8 i12 m p x f8 A cs zs D).qm 0 (.app i8 (dU (lS zs p x)))).put (some 89) (.t (.one (.slc i8 0 (m + 1) 1)))) (iP E0 H0 N g lp c r i8 i12 m p x f8 A cs zs (upd D 13)) := by
        refine kD rfl pG.symm rfl (fun t => ?_) (fun q => ?_)
        · rcases zD (t0 := 89) (x0 := .one (.slc i8 0 (m + 1) 1)) (E0 := E0) (D := D) (D' := upd D 13) (eX c r i8 i12 m p x f8 A) (by intro e he; simp only [eX, List.mem_cons, List.not_mem_nil, or_false] at he; rcases he with rfl | rfl | rfl | rfl | rfl | rfl | rfl | rfl | rfl | rfl | rfl | rfl | rfl | rfl | rfl | rfl | rfl | rfl | rfl | rfl <;> simp [upd]) (by simp [eX]) t with h | h
          · left
            show lk (jL (eX c r i8 i12 m p x f8 A) (upd D 13) ++ E0) t = lk ((89, _) :: lM i8 (jL (eX c r i8 i12 m p x f8 A) D ++ E0)) t
            by_cases ht : t = 89
            · subst ht; rw [h]; rfl
            · have hp := N7 (D := upd D 13) (t0 := 89) pE (eX c r i8 i12 m p x f8 A) (by intro e he; simp only [eX, List.mem_cons, List.not_mem_nil, or_false] at he; rcases he with rfl | rfl | rfl | rfl | rfl | rfl | rfl | rfl | rfl | rfl | rfl | rfl | rfl | rfl | rfl | rfl | rfl | rfl | rfl | rfl <;> first | (intro _ _; exact hf8) | (intro h; exact absurd rfl h) | (simp [upd]; done) | (intro _ _; simp [AV.cB, AV.has, TV.has, CV.has, c8b, r8b, i12b])) t ht
              simp only [lk, if_neg ht] at h ⊢
              rw [kC, <- h, hp]
          · exact Or.inr h
        · show hget (gT H0 c i8 i12 m p x f8 cs zs (upd D 13)) q = hget (hset (kL i8 (gT H0 c i8 i12 m p x f8 cs zs D)) i8 (dU (lS zs p x))) q
          by_cases hq : q = i8
          · subst hq; rw [aG, dO, if_neg (fun h => n812 h.2), if_pos ⟨k8, rfl⟩]; rfl
          · rw [aH _ _ _ _ hq, fU, dO, dO]
            by_cases h12 : q = i12
            · rw [if_pos ⟨k12, h12⟩, if_pos ⟨k12, h12⟩]; rfl
            · simp only [h12, hq, and_false, if_false]
              by_cases hqc : q = c
              · rw [if_pos hqc, if_pos hqc]
                have e1 : oO c i8 m f8 cs (upd D 13) = cs := by unfold oO; rw [show (upd D 13) 21 = D 21 from rfl, show (upd D 13) 17 = D 17 from rfl, f21, f17]; rfl
                have e2 : oO c i8 m f8 cs D = cs := by unfold oO; rw [f21, f17]; rfl
                rw [e1, e2, Option.map_some, pC]
              · rw [if_neg hqc, if_neg hqc, <- fU, pH]
      exact tt _ _ _ _ ⟨J', Z, R2⟩
    · obtain rfl := Option.some.inj hio'
      have k0 := at_ 0 (by decide)
      have k13 := at_ 13 (by decide)
      have g76 : (iP E0 H0 N g lp c r i8 i12 m p x f8 A cs zs D).get 76 = .t (.one (.ptr c 0)) := by show (bif D 0 then AV.t _ else .any) = _; rw [k0]; rfl
      exact put 14 90 (.one (.ptr c 0)) D _ _ rfl (fun c e => by cases e) rfl (by omega) (Lb g76) trivial (by intro e he; simp only [eX, List.mem_cons, List.not_mem_nil, or_false] at he; rcases he with rfl | rfl | rfl | rfl | rfl | rfl | rfl | rfl | rfl | rfl | rfl | rfl | rfl | rfl | rfl | rfl | rfl | rfl | rfl | rfl <;> simp [upd]) (by simp [eX]) (by simp [upd])
    · obtain rfl := Option.some.inj hio'
      have k14 := at_ 14 (by decide)
      have g90 : (iP E0 H0 N g lp c r i8 i12 m p x f8 A cs zs D).get 90 = .t (.one (.ptr c 0)) := by show (bif D 14 then AV.t _ else .any) = _; rw [k14]; rfl
      exact put 15 91 (.one (.ptr c 0)) D _ _ rfl (fun c e => by cases e) rfl (by omega) (sV o79 g90) ⟨trivial, trivial⟩ (by intro e he; simp only [eX, List.mem_cons, List.not_mem_nil, or_false] at he; rcases he with rfl | rfl | rfl | rfl | rfl | rfl | rfl | rfl | rfl | rfl | rfl | rfl | rfl | rfl | rfl | rfl | rfl | rfl | rfl | rfl <;> simp [upd]) (by simp [eX]) (by simp [upd])
    · obtain rfl := Option.some.inj hio'
      have k15 := at_ 15 (by decide)
      have g91 : (iP E0 H0 N g lp c r i8 i12 m p x f8 A cs zs D).get 91 = .t (.one (.ptr c 0)) := by show (bif D 15 then AV.t _ else .any) = _; rw [k15]; rfl
      exact put 16 92 (.one (.ptr c 12)) D _ _ rfl (fun c e => by cases e) rfl (by omega) (sV o276 g91) ⟨trivial, trivial⟩ (by intro e he; simp only [eX, List.mem_cons, List.not_mem_nil, or_false] at he; rcases he with rfl | rfl | rfl | rfl | rfl | rfl | rfl | rfl | rfl | rfl | rfl | rfl | rfl | rfl | rfl | rfl | rfl | rfl | rfl | rfl <;> simp [upd]) (by simp [eX]) (by simp [upd])
    · obtain rfl := Option.some.inj hio'
      have k16 := at_ 16 (by decide)
      have k2 := at_ 2 (by decide)
      have k13 := at_ 13 (by decide)
      have k8 := at_ 8 (by decide)
      have f21 := af_ 21 (by omega) (by decide)
      have g92 : (iP E0 H0 N g lp c r i8 i12 m p x f8 A cs zs D).get 92 = .t (.one (.ptr c 12)) := by show (bif D 16 then AV.t _ else .any) = _; rw [k16]; rfl
      have g78 : (iP E0 H0 N g lp c r i8 i12 m p x f8 A cs zs D).get 78 = .t (.one f8) := by show (bif D 2 then AV.t _ else .any) = _; rw [k2]; rfl
      have gc' : hget (gT H0 c i8 i12 m p x f8 cs zs D) c = some cs := (gc D).trans (by unfold oO; rw [f21, hDi]; rfl)
      have hA : ∀ q, hget (gT H0 c i8 i12 m p x f8 cs zs (upd D 17)) q = hget (hset (gT H0 c i8 i12 m p x f8 cs zs D) c (cs.take 12 ++ [f8] ++ cs.drop 13)) q := fun q => by
        by_cases hq : q = c
        · subst hq; rw [aG, dO]; rw [if_neg (fun h => c12 h.2), if_neg (fun h => c8 h.2), if_pos rfl]; unfold oO; rw [show (upd D 17) 21 = D 21 from rfl, f21]; rfl
        · rw [aH _ _ _ _ hq, dO, dO]; rw [if_neg hq, if_neg hq]; simp [upd]
      exact EB (nid := (gT H0 c i8 i12 m p x f8 cs zs D).length) rfl (fun c e => by cases e) (CB _) trivial (Jz t25 g92 g78 gc') ⟨trivial, trivial, rfl, by omega, by omega⟩ (kD rfl rfl rfl (BD (eX c r i8 i12 m p x f8 A) (by intro e he; simp only [eX, List.mem_cons, List.not_mem_nil, or_false] at he; rcases he with rfl | rfl | rfl | rfl | rfl | rfl | rfl | rfl | rfl | rfl | rfl | rfl | rfl | rfl | rfl | rfl | rfl | rfl | rfl | rfl <;> simp [upd])) hA)
    · obtain rfl := Option.some.inj hio'
      have k1 := at_ 1 (by decide)
      have k17 := at_ 17 (by decide)
      have g77 : (iP E0 H0 N g lp c r i8 i12 m p x f8 A cs zs D).get 77 = .t (.one (.ptr c 0)) := by show (bif D 1 then AV.t _ else .any) = _; rw [k1]; rfl
      exact put 18 93 (.one (.ptr c 0)) D _ _ rfl (fun c e => by cases e) rfl (by omega) (Lb g77) trivial (by intro e he; simp only [eX, List.mem_cons, List.not_mem_nil, or_false] at he; rcases he with rfl | rfl | rfl | rfl | rfl | rfl | rfl | rfl | rfl | rfl | rfl | rfl | rfl | rfl | rfl | rfl | rfl | rfl | rfl | rfl <;> simp [upd]) (by simp [eX]) (by simp [upd])
    · obtain rfl := Option.some.inj hio'
      have k18 := at_ 18 (by decide)
      have g93 : (iP E0 H0 N g lp c r i8 i12 m p x f8 A cs zs D).get 93 = .t (.one (.ptr c 0)) := by show (bif D 18 then AV.t _ else .any) = _; rw [k18]; rfl
      exact put 19 94 (.one (.ptr c 0)) D _ _ rfl (fun c e => by cases e) rfl (by omega) (sV o79 g93) ⟨trivial, trivial⟩ (by intro e he; simp only [eX, List.mem_cons, List.not_mem_nil, or_false] at he; rcases he with rfl | rfl | rfl | rfl | rfl | rfl | rfl | rfl | rfl | rfl | rfl | rfl | rfl | rfl | rfl | rfl | rfl | rfl | rfl | rfl <;> simp [upd]) (by simp [eX]) (by simp [upd])
    · obtain rfl := Option.some.inj hio'
      have k19 := at_ 19 (by decide)
      have g94 : (iP E0 H0 N g lp c r i8 i12 m p x f8 A cs zs D).get 94 = .t (.one (.ptr c 0)) := by show (bif D 19 then AV.t _ else .any) = _; rw [k19]; rfl
      exact put 20 95 (.one (.ptr c 11)) D _ _ rfl (fun c e => by cases e) rfl (by omega) (sV o275 g94) ⟨trivial, trivial⟩ (by intro e he; simp only [eX, List.mem_cons, List.not_mem_nil, or_false] at he; rcases he with rfl | rfl | rfl | rfl | rfl | rfl | rfl | rfl | rfl | rfl | rfl | rfl | rfl | rfl | rfl | rfl | rfl | rfl | rfl | rfl <;> simp [upd]) (by simp [eX]) (by simp [upd])
    · obtain rfl := Option.some.inj hio'
      have k20 := at_ 20 (by decide)
      have k13 := at_ 13 (by decide)
      have k17 := at_ 17 (by decide)
      have k8 := at_ 8 (by decide)
      have g95 : (iP E0 H0 N g lp c r i8 i12 m p x f8 A cs zs D).get 95 = .t (.one (.ptr c 11)) := by show (bif D 20 then AV.t _ else .any) = _; rw [k20]; rfl
      have g89 : (iP E0 H0 N g lp c r i8 i12 m p x f8 A cs zs D).get 89 = .t (.one (.slc i8 0 (m + 1) 1)) := by show (bif D 13 then AV.t _ else .any) = _; rw [k13]; rfl
      have gc' : hget (gT H0 c i8 i12 m p x f8 cs zs D) c = some (cs.take 12 ++ [f8] ++ cs.drop 13) := (gc D).trans (by unfold oO; rw [hDi, k17]; rfl)
      have hA : ∀ q, hget (gT H0 c i8 i12 m p x f8 cs zs (upd D 21)) q = hget (hset (gT H0 c i8 i12 m p x f8 cs zs D) c ((cs.take 12 ++ [f8] ++ cs.drop 13).take 11 ++ [.slc i8 0 (m + 1) 1] ++ (cs.take 12 ++ [f8] ++ cs.drop 13).drop 12)) q := fun q => by
        by_cases hq : q = c
        · subst hq; rw [aG, dO]; rw [if_neg (fun h => c12 h.2), if_neg (fun h => c8 h.2), if_pos rfl]; unfold oO; rfl
        · rw [aH _ _ _ _ hq, dO, dO]; rw [if_neg hq, if_neg hq]; simp [upd]
      exact EB (nid := (gT H0 c i8 i12 m p x f8 cs zs D).length) rfl (fun c e => by cases e) (CB _) trivial (Jz t24 g95 g89 gc') ⟨trivial, trivial, rfl, by simp [hcl], by omega⟩ (kD rfl rfl rfl (BD (eX c r i8 i12 m p x f8 A) (by intro e he; simp only [eX, List.mem_cons, List.not_mem_nil, or_false] at he; rcases he with rfl | rfl | rfl | rfl | rfl | rfl | rfl | rfl | rfl | rfl | rfl | rfl | rfl | rfl | rfl | rfl | rfl | rfl | rfl | rfl <;> simp [upd])) hA)
  · intro D hD
    have hD' : ∀ k, k < 22 -> D k = true := fun k hk => hD k (by omega)
    refine ⟨⟨E0, gT H0 c i8 i12 m p x f8 cs zs (fun _ => true), N, g, lp⟩, kD rfl rfl rfl (fun t => ?_) (fun q => ?_), hQ⟩
    · by_cases ht : t ∈ (eX c r i8 i12 m p x f8 A).map (·.t)
      · exact Or.inr (agq (List.all_eq_true.1 hE t ht))
      · exact Or.inl (TQ _ ht).symm
    · show hget (gT H0 c i8 i12 m p x f8 cs zs (fun _ => true)) q = hget (gT H0 c i8 i12 m p x f8 cs zs D) q
      rw [Ch ⟨(hD' 8 (by omega)).symm, (hD' 12 (by omega)).symm, (hD' 13 (by omega)).symm, (hD' 17 (by omega)).symm, (hD' 21 (by omega)).symm⟩]
end Go.Proofs.YtcfechepbamhkaaGreat
