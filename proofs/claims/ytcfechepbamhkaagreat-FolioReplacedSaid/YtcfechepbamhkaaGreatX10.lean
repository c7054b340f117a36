/- Part 10 of 17: contracts of functions and plain laws for the root text. No condition. -/
import Derived.Test.YtcfechepbamhkaaGreatX01
import Derived.Test.YtcfechepbamhkaaGreatX02
import Derived.Test.YtcfechepbamhkaaGreatX03
import Derived.Test.YtcfechepbamhkaaGreatX04
import Derived.Test.YtcfechepbamhkaaGreatX05
import Derived.Test.YtcfechepbamhkaaGreatX06
import Derived.Test.YtcfechepbamhkaaGreatX07
import Derived.Test.YtcfechepbamhkaaGreatX08
import Derived.Test.YtcfechepbamhkaaGreatX09
import Derived.Laws.Tables
import Derived.Laws.IdiomCopy
import Derived.Laws.AppendOwn
set_option linter.unusedVariables false
set_option linter.unusedSimpArgs false
namespace Go.Proofs.YtcfechepbamhkaaGreat
open Go.RowKit Go.Sea Go.Sort
def lK (zs : List Int) (p : Nat) (x : Int) : List Int := zs.take p ++ x :: zs.drop p
theorem iQ {zs : List Int} {p : Nat} {x : Int} (hp : p <= zs.length) : (lK zs p x).length = zs.length + 1 := by simp [lK]; omega
theorem uP {zs : List Int} {p : Nat} {x : Int} {k : Nat} (hp : p <= zs.length) (hk : k < p) : (lK zs p x).getD k 0 = zs.getD k 0 := by
  unfold lK; rw [List.getD, List.getElem?_append_left (by simp; omega), List.getElem?_take, if_pos hk]; rfl
theorem vD {zs : List Int} {p : Nat} {x : Int} (hp : p <= zs.length) : (lK zs p x).getD p 0 = x := by
  unfold lK; rw [List.getD, List.getElem?_append_right (by simp; omega)]; simp [Nat.min_eq_left hp]
theorem GI {zs : List Int} {p : Nat} {x : Int} {k : Nat} (hp : p <= zs.length) (hk : p < k) : (lK zs p x).getD k 0 = zs.getD (k - 1) 0 := by
  unfold lK
  rw [List.getD, List.getElem?_append_right (by simp; omega)]
  simp only [List.length_take, Nat.min_eq_left hp]
  obtain ⟨m, rfl⟩ : ∃ m, k = p + 1 + m := ⟨k - (p + 1), by omega⟩
  rw [show p + 1 + m - p = m + 1 by omega, List.getElem?_cons_succ, List.getElem?_drop, show p + 1 + m - 1 = p + m by omega]; rfl
theorem iY {b : Nat} {e : TypeId} : ∀ (vs : List Value) (o : Nat) (w : World) (c : Array Value), w.heap[b]? = some (.cells c e (0, 0)) -> o + vs.length <= c.size ->
    ∃ c' : Array Value, w.setCells b o vs = w.setRow b c' /\ c'.size = c.size /\ ∀ k, c'[k]? = if o <= k /\ k < o + vs.length then vs[k - o]? else c[k]?
  | [], o, w, c, hb, _ => ⟨c, by
      show w = w.setRow b c
      have : (w.setRow b c).heap = w.heap := by
        apply Array.ext_getElem?
        intro k
        by_cases hk : k = b
        · subst hk; rw [setRow_heap w k c c e (0, 0) hb, hb]
        · exact setRow_other w b k c hk
      show w = { w with heap := (w.setRow b c).heap }
      rw [this], rfl, fun k => by rw [if_neg (by simp only [List.length_nil]; omega)]⟩
  | v :: r, o, w, c, hb, hl => by
    have hl' : o + 1 + r.length <= c.size := by simp at hl; omega
    have e1 := setCell_eq_setRow w b o c e (0, 0) v hb
    obtain ⟨c', h1, h2, h3⟩ := iY r (o + 1) (w.setCell ⟨b, o, none⟩ v) (c.setIfInBounds o v) (by rw [e1]; exact setRow_heap w b c _ e (0, 0) hb) (by simpa using hl')
    refine ⟨c', ?_, by simpa using h2, fun k => ?_⟩
    · rw [World.setCells, h1, e1, setRow_setRow]
    · rw [h3]
      by_cases hk : k = o
      · subst hk
        rw [if_neg (by omega), if_pos (by simp), Nat.sub_self, Array.getElem?_setIfInBounds, if_pos rfl, if_pos (by omega)]; rfl
      · by_cases hi : o + 1 <= k /\ k < o + 1 + r.length
        · rw [if_pos hi, if_pos (by simp; omega)]
          obtain ⟨m, rfl⟩ : ∃ m, k = o + 1 + m := ⟨k - (o + 1), by omega⟩
          rw [show o + 1 + m - (o + 1) = m by omega, show o + 1 + m - o = m + 1 by omega, List.getElem?_cons_succ]
        · rw [if_neg hi, if_neg (by simp; omega), Array.getElem?_setIfInBounds, if_neg (by omega)]
theorem lJ (w : World) (C D : Array Value) (e : TypeId) : (w.alloc (.cells C e)).setRow w.heap.size D = w.alloc (.cells D e) := by
  unfold World.setRow World.alloc
  simp only [World.mk.injEq, and_true]
  apply Array.ext_getElem?
  intro k
  rw [Array.getElem?_modify]
  by_cases h : w.heap.size = k
  · subst h; rw [if_pos rfl]; simp
  · rw [if_neg h]
    by_cases h2 : k < w.heap.size
    · rw [Array.getElem?_push_lt h2, Array.getElem?_push_lt h2]
    · rw [Array.getElem?_eq_none (by simp; omega), Array.getElem?_eq_none (by simp; omega)]
section
variable {w0 : World} {Z0 : Fr} {J : Nat -> Option Nat} {Z : Nat -> Prop} {s : AS} {a : Act} {w : World}
theorem PG {ys : List Int} {c : Array Value} (h : ∀ k, k < ys.length -> c[k]? = some (.int .i64 (ys.getD k 0))) (hs : ys.length <= c.size) : aO (bK w J Z) (c.toList.take (dY ys).length) (dY ys) := by
  refine aO.of (by simp [bf]; omega) fun k u y hu hy => ?_
  have hk : k < ys.length := by
    rw [List.getElem?_take] at hu
    split at hu
    · rename_i h; rwa [bf] at h
    · cases hu
  rw [List.getElem?_take, if_pos (by rw [bf]; exact hk), Array.getElem?_toList, h k hk] at hu
  simp [dY, hk] at hy
  cases hu; subst hy
  have : ys.getD k 0 = ys[k] := by simp [List.getD, hk]
  rw [this]
  exact Rd.g _ rfl
theorem TG (zs : List Int) (i : Nat) : ig i (dY zs) = dY zs := l6 i (iI zs)
theorem Py (R : Rel w0 Z0 J Z s a w) {i b : Nat} {cs : List CV} {c c' : Array Value} {e : TypeId} {zs : List Int} (hi : hget s.heap i = some cs) (hj : J i = some b) (hb : w.heap[b]? = some (.cells c e (0, 0))) (hsz : c'.size = c.size) (hl : zs.length <= c'.size) (h : ∀ k, k < zs.length -> c'[k]? = some (.int .i64 (zs.getD k 0))) :
    Rel w0 Z0 J Z (s.qQ 0 (.app i (dY zs))) a (w.setRow b c') := by
  have R1 := Rel.set R hi hj hb hsz (aH s.heap i (dY zs)) (fun q hq => aJ _ _ _ _ hq) (PG h hl)
  have R2 := R1.bU i
  simp only [AS.bU, kR, TG] at R2
  exact R2
theorem afv (R : Rel w0 Z0 J Z s a w) {i : Nat} {cs : List CV} {C : Array Value} {e : TypeId} {zs : List Int} (hi : hget s.heap i = some cs) (hl : zs.length <= C.size) (h : ∀ k, k < zs.length -> C[k]? = some (.int .i64 (zs.getD k 0))) :
    Rel w0 Z0 (gF J i w.heap.size) Z (s.qQ 0 (.app i (dY zs))) a (w.alloc (.cells C e)) := by
  refine Rel.move (s := s.bU i) (cs := dY zs) (R.bU i) ?_ (aH _ _ _) (fun q hq => aJ _ _ _ _ hq) (fun t => ?_) (fun f t => ?_) (fun q x hq y hy => ?_) (PG h hl)
  · simp [AS.bU, gJ, hi]
  · simp only [AS.bU, AS.get, kQ]; exact AV.kK i _
  · simp only [AS.bU, vH]; exact AV.kK i _
  · by_cases hqk : q = i
    · subst hqk
      rw [aH, Option.some.injEq] at hq
      subst hq
      have := iI _ y hy
      cases y <;> first | trivial | exact this.elim
    · rw [aJ _ _ _ _ hqk] at hq
      simp only [AS.bU, gJ, Option.map_eq_some_iff] at hq
      obtain ⟨cs0, _, rfl⟩ := hq
      exact rD i _ y hy
theorem acs {zs : List Int} {c : Array Value} (h : ∀ j, j < zs.length -> c[j]? = some (.int .i64 (zs.getD j 0))) {b : Nat} {e : TypeId} (hb : w.heap[b]? = some (.cells c e (0, 0))) : ∀ j v, (zs.map (Value.int .i64))[j]? = some v -> w.cell? ⟨b, 0 + j, none⟩ = some v := fun j v hv => by
  rw [cell_of_row w b _ c e _ hb, Nat.zero_add]
  rw [List.getElem?_map] at hv
  cases hz : zs[j]? with
  | none => rw [hz] at hv; cases hv
  | some z =>
    rw [hz] at hv
    obtain ⟨hj, rfl⟩ := List.getElem?_eq_some_iff.1 hz
    rw [h j hj]
    simp [List.getD, hj] at hv ⊢; exact hv
theorem EY (zs : List Int) : ∀ v ∈ zs.map (Value.int .i64), v.oneCell' = true := fun v hv => by
  obtain ⟨z, _, rfl⟩ := List.mem_map.1 hv; rfl
theorem uW {zs : List Int} {k : Nat} (hk : k < zs.length) : (zs.map (Value.int .i64))[k]? = some (.int .i64 (zs.getD k 0)) := by
  rw [List.getElem?_map, List.getElem?_eq_getElem hk]; simp [List.getD, hk]
theorem Rx {zs : List Int} {p : Nat} {x : Int} (hp : p <= zs.length) {c c1 c2 : Array Value} (h : ∀ k, k < p -> c[k]? = some (.int .i64 (zs.getD k 0)))
    (h1 : ∀ k, c1[k]? = if p + 1 <= k /\ k < p + 1 + (zs.map (Value.int .i64)).length - p then ((zs.map (Value.int .i64)).drop p)[k - (p + 1)]? else c[k]?) (h2 : ∀ k, c2[k]? = if p <= k /\ k < p + 1 then [Value.int .i64 x][k - p]? else c1[k]?) : ∀ k, k < (lK zs p x).length -> c2[k]? = some (.int .i64 ((lK zs p x).getD k 0)) := fun k hk => by
  rw [iQ hp] at hk
  rcases Nat.lt_trichotomy k p with hl | rfl | hl
  · rw [h2, if_neg (by omega), h1, if_neg (by omega), h k hl, uP hp hl]
  · rw [h2, if_pos (by omega), Nat.sub_self, vD hp]; rfl
  · rw [h2, if_neg (by omega), h1, if_pos (by rw [List.length_map]; omega), GI hp hl, List.getElem?_drop, show p + (k - (p + 1)) = k - 1 by omega, uW (by omega)]
end
set_option maxHeartbeats 1000000 in
theorem amk {w0 : World} {Z0 : Fr} {J : Nat -> Option Nat} {Z : Nat -> Prop} {s : AS} {a : Act} {w : World} (R : Rel w0 Z0 J Z s a w) {i j : Nat} {zs : List Int} {p : Nat} {x : Int} {vs : Array Value} (hi : hget s.heap i = some (dY zs)) (hj : hget s.heap j = some [.iv (.g (.int .i64 x))]) (hij : i ≠ j) (hp : p <= zs.length) (hz : (zs.length + 1) * 8 <= 140737488355328)
    (hv : aO (bQ w J Z) vs.toList [.one (.slc i 0 zs.length 1), .one (.iv (.g (.int .i64 (p : Int)))), .one (.slc j 0 1 1)]) :
    Calls Tryz.prog 101 vs w fun e w' => ∃ v J', e = .returned v /\ Rel w0 Z0 J' Z (s.qQ 0 (.app i (dY (lK zs p x)))) a w' /\ bB w' J' Z v (.t (.one (.slc i 0 (zs.length + 1) 1))) := by
  obtain ⟨vs⟩ := vs
  match vs, hv with
  | [v1, v2, v3], ⟨h1, h2, h3, _⟩ =>
    have e2 : v2 = .int .i64 p := by cases h2; rfl
    subst e2
    rcases h3 with ⟨h3, _⟩ | ⟨vb, vc, C, eC, rfl, hjv, hvc1, hvc2, hbv, hsv⟩
    · cases h3
    have hne : zs.length + 1 <= maxLen := by unfold maxLen; omega
    have hV : ∀ q v, [Value.int .i64 x][q]? = some v -> w.cell? ⟨vb, 0 + q, none⟩ = some v := fun q v hq => by
      obtain ⟨c1, e1, g2, g3⟩ := R.cells hj (by simp) hjv ⟨_, _, hbv⟩
      rw [hbv] at g2; cases g2
      rcases q with _ | q
      · rw [cell_of_row w vb _ C eC _ hbv, Nat.zero_add]
        obtain ⟨u, hu, hr⟩ := g3.get (k := 0) (y := .iv (.g (.int .i64 x))) rfl
        rw [List.getElem?_take, if_pos (by simp), Array.getElem?_toList] at hu
        rw [hu]; cases hr; exact hq
      · simp at hq
    have h1v : ∀ v ∈ [Value.int .i64 x], v.oneCell' = true := fun v hv => by simp at hv; subst hv; rfl
    have new : ∀ (e : Ending) (W : World) (c : Nat) (C2 : Array Value), e = .returned (.slice (some ⟨w.heap.size, 0, none⟩) (zs.length + 1) (grownCap w (zs.length + 1) c 3)) -> Rel w0 Z0 J Z s a W -> W.heap.size = w.heap.size -> (∀ k, k < (lK zs p x).length -> C2[k]? = some (.int .i64 ((lK zs p x).getD k 0))) -> C2.size = zs.length + 1 + (grownCap w (zs.length + 1) c 3 - (zs.length + 1)) ->
        ∃ v J', e = .returned v /\ Rel w0 Z0 J' Z (s.qQ 0 (.app i (dY (lK zs p x)))) a (W.alloc (.cells C2 3)) /\ bB (W.alloc (.cells C2 3)) J' Z v (.t (.one (.slc i 0 (zs.length + 1) 1))) := fun e W c C2 he RW hWs hC hsz => by
      have hg := grownCap_ge w (zs.length + 1) c 3
      have hl := iQ (x := x) hp
      refine ⟨_, _, he, afv RW hi (by rw [hl]; omega) hC, ?_⟩
      refine Or.inr ⟨w.heap.size, _, _, 3, rfl, by simp [gF, hWs], hg, grownCap_le_maxLen w _ _ 3 hne, ?_, by rw [hsz]; omega⟩
      rw [<- hWs]; exact heap_alloc_new W _
    have hlz : (zs.map (Value.int .i64)).length = zs.length := List.length_map _
    rcases h1 with ⟨h0, rfl⟩ | ⟨b, cap, c, e, rfl, hjb, hc1, hc2, hb, hs⟩
    · -- nil
      have hz0 : zs = [] := List.eq_nil_of_length_eq_zero h0
      subst hz0
      obtain rfl : p = 0 := by simpa using hp
      have H : Calls Tryz.prog 101 #[.slice none 0 0, .int .i64 (0 : Nat), .slice (some ⟨vb, 0, none⟩) 1 vc] w fun e w' => e = .returned (.slice (some ⟨w.heap.size, 0, none⟩) (0 + 1) (grownCap w (0 + 1) 0 3)) /\ w' = w.drew.alloc (.cells (([] ++ [Value.int .i64 x]).toArray ++ Builtin.zeroCells (Value.int .i64 0).cells (grownCap w (0 + 1) 0 3 - (0 + 1))) 3) :=
        Any2.slices_Insert_int_end_grow Tryz.nX none 0 0 vb 0 1 vc [] [.int .i64 x] w (by omega) (by omega) (by omega) (by omega) rfl rfl (fun _ => rfl) (fun _ h => by cases h) hV h1v
      refine H.mono fun e w' ⟨he, hw⟩ => ?_
      subst hw
      refine new e w.drew 0 _ he R.drew rfl (fun k hk => ?_) ?_
      · have : k = 0 := by rw [iQ hp] at hk; simp at hk; exact hk
        subst this; rw [Array.getElem?_append_left (by simp)]; rfl
      · simp [Builtin.zeroCells, Value.cells]
    · have hcz : ∀ k, k < zs.length -> c[k]? = some (.int .i64 (zs.getD k 0)) := fun k hk => (Kr R hjb hb (by rintro rfl; simp at hk) hi).2 k hk
      have hvb : vb ≠ b := by
        rintro rfl
        exact hij (R.inj _ _ _ hjb hjv)
      have hrow := acs hcz hb
      by_cases hroom : zs.length + 1 <= cap
      · have hcs : zs.length + 1 <= c.size := by omega
        rcases Nat.lt_or_ge p zs.length with hpl | hpl
        · -- shift
          have H : Calls Tryz.prog 101 #[.slice (some ⟨b, 0, none⟩) zs.length cap, .int .i64 p, .slice (some ⟨vb, 0, none⟩) 1 vc] w fun e w' => e = .returned (.slice (some ⟨b, 0, none⟩) (zs.length + 1) cap) /\ w' = (w.drew.setCells b (0 + (p + 1)) ((zs.map (Value.int .i64)).drop p)).setCells b (0 + p) [.int .i64 x] :=
            Any2.slices_Insert_int_shift Tryz.nX b 0 zs.length cap p vb 0 1 vc (zs.map (Value.int .i64)) [.int .i64 x] w hpl (by omega) hroom (by unfold maxLen at hc2; omega) hvb hlz rfl hrow (fun q hq => by
              rw [cell_of_row w b _ c e _ hb, Array.getElem?_eq_getElem (by omega)]; rfl) (fun q hq => by simp [World.frozen?, hb]) hV (EY zs) h1v eC e C.size c.size (by simp [World.shape?, hbv]) (by simp [World.shape?, hb]) (by omega) (by simp [World.frozen?, hbv]) (by simp [World.frozen?, hbv])
          refine H.mono fun e' w' ⟨he, hw⟩ => ?_
          obtain ⟨c1, g1, g2, g3⟩ := iY (e := e) ((zs.map (Value.int .i64)).drop p) (0 + (p + 1)) w.drew c hb (by rw [List.length_drop, hlz]; omega)
          obtain ⟨c2, k1, k2, k3⟩ := iY (e := e) [.int .i64 x] (0 + p) (w.drew.setRow b c1) c1 (setRow_heap w.drew b c c1 e (0, 0) hb) (by simp; omega)
          rw [g1, k1, setRow_setRow] at hw
          subst hw
          have hC := Rx (x := x) hp (fun k hk => hcz k (by omega)) (c1 := c1) (c2 := c2) (fun k => by rw [g3, List.length_drop, hlz]; simp only [Nat.zero_add]; congr 1; exact propext ⟨fun h => by omega, fun h => by omega⟩) (fun k => by rw [k3]; simp only [Nat.zero_add, List.length_cons, List.length_nil])
          refine ⟨_, J, he, Py R.drew hi hjb hb (by omega) (by rw [iQ hp]; omega) hC, ?_⟩
          exact Or.inr ⟨b, cap, c2, e, rfl, hjb, hroom, hc2, setRow_heap w.drew b c c2 e (0, 0) hb, by omega⟩
        · -- the end, room
          obtain rfl : p = zs.length := by omega
          have H : Calls Tryz.prog 101 #[.slice (some ⟨b, 0, none⟩) zs.length cap, .int .i64 zs.length, .slice (some ⟨vb, 0, none⟩) 1 vc] w fun e w' => e = .returned (.slice (some ⟨b, 0, none⟩) (zs.length + 1) cap) /\ w' = w.setCells b (0 + zs.length) [.int .i64 x] :=
            Any2.slices_Insert_int_end_room Tryz.nX b 0 zs.length cap vb 0 1 vc [.int .i64 x] w (by omega) hroom (by unfold maxLen at hc2; omega) rfl (fun q hq => by
              rw [cell_of_row w b _ c e _ hb, Array.getElem?_eq_getElem (by omega)]; rfl) (fun q hq => by simp [World.frozen?, hb]) hV h1v
          refine H.mono fun e' w' ⟨he, hw⟩ => ?_
          obtain ⟨c2, k1, k2, k3⟩ := iY (e := e) [.int .i64 x] (0 + zs.length) w c hb (by simp; omega)
          rw [k1] at hw
          subst hw
          refine ⟨_, J, he, Py R hi hjb hb (by omega) (by rw [iQ hp]; omega) (fun k hk => ?_), ?_⟩
          · rw [iQ hp] at hk
            rw [k3]
            by_cases hke : k = zs.length
            · subst hke; rw [if_pos (by simp), vD hp]; simp
            · rw [if_neg (by simp; omega), hcz k (by omega), uP hp (by omega)]
          · exact Or.inr ⟨b, cap, c2, e, rfl, hjb, hroom, hc2, setRow_heap w b c c2 e (0, 0) hb, by omega⟩
      · rcases Nat.lt_or_ge p zs.length with hpl | hpl
        · -- anew, in the middle
          have H : Calls Tryz.prog 101 #[.slice (some ⟨b, 0, none⟩) zs.length cap, .int .i64 p, .slice (some ⟨vb, 0, none⟩) 1 vc] w fun e w' => e = .returned (.slice (some ⟨w.heap.size, 0, none⟩) (zs.length + 1) (grownCap w (zs.length + 1) cap 3)) ∧
              w' = (((w.alloc (.cells (((zs.map (Value.int .i64)).take p).toArray ++ Builtin.zeroCells (Value.int .i64 0).cells (zs.length + 1 - p) ++ Builtin.zeroCells (Value.int .i64 0).cells (grownCap w (zs.length + 1) cap 3 - (zs.length + 1))) 3)).drew.setCells w.heap.size p [.int .i64 x]).drew).setCells w.heap.size (p + 1) ((zs.map (Value.int .i64)).drop p) :=
            Any2.slices_Insert_int_grow Tryz.nX b 0 zs.length cap p vb 0 1 vc (zs.map (Value.int .i64)) [.int .i64 x] w hpl (by omega) hc1 (by omega) hz hlz rfl hrow hV (EY zs) h1v
          refine H.mono fun e' w' ⟨he, hw⟩ => ?_
          obtain ⟨C0, hC0⟩ : ∃ C0, C0 = ((zs.map (Value.int .i64)).take p).toArray ++ Builtin.zeroCells (Value.int .i64 0).cells (zs.length + 1 - p) ++ Builtin.zeroCells (Value.int .i64 0).cells (grownCap w (zs.length + 1) cap 3 - (zs.length + 1)) := ⟨_, rfl⟩
          have hs0 : C0.size = zs.length + 1 + (grownCap w (zs.length + 1) cap 3 - (zs.length + 1)) := by
            rw [hC0]; simp [Builtin.zeroCells, Value.cells]; omega
          have hlo : ∀ k, k < p -> C0[k]? = some (.int .i64 (zs.getD k 0)) := fun k hk => by
            rw [hC0, Array.append_assoc, Array.getElem?_append_left (by simp; omega), List.getElem?_toArray, List.getElem?_take, if_pos hk, uW (by omega)]
          rw [<- hC0] at hw
          obtain ⟨c1, g1, g2, g3⟩ := iY (e := 3) [.int .i64 x] p (w.drew.alloc (.cells C0 3)) C0 (heap_alloc_new w.drew _) (by simp; omega)
          obtain ⟨c2, k1, k2, k3⟩ := iY (e := 3) ((zs.map (Value.int .i64)).drop p) (p + 1) (w.drew.drew.alloc (.cells c1 3)) c1 (heap_alloc_new w.drew.drew _) (by rw [List.length_drop, hlz]; omega)
          have e1 : (w.alloc (.cells C0 3)).drew.setCells w.heap.size p [.int .i64 x] = w.drew.alloc (.cells c1 3) := g1.trans (lJ w.drew C0 c1 3)
          have e2 : (w.drew.alloc (.cells c1 3)).drew.setCells w.heap.size (p + 1) ((zs.map (Value.int .i64)).drop p) = w.drew.drew.alloc (.cells c2 3) := k1.trans (lJ w.drew.drew c1 c2 3)
          rw [e1, e2] at hw
          subst hw
          refine new e' w.drew.drew cap c2 he R.drew.drew rfl (fun k hk => ?_) (by omega)
          rw [iQ hp] at hk
          rw [k3]
          rcases Nat.lt_trichotomy k p with hl | hl | hl
          · rw [if_neg (by omega), g3, if_neg (by omega), hlo k hl, uP hp hl]
          · subst hl; rw [if_neg (by omega), g3, if_pos (by simp), Nat.sub_self, vD hp]; rfl
          · rw [if_pos (by rw [List.length_drop, hlz]; omega), List.getElem?_drop, show p + (k - (p + 1)) = k - 1 by omega, uW (by omega), GI hp hl]
        · -- anew, at the end
          obtain rfl : p = zs.length := by omega
          have H : Calls Tryz.prog 101 #[.slice (some ⟨b, 0, none⟩) zs.length cap, .int .i64 zs.length, .slice (some ⟨vb, 0, none⟩) 1 vc] w fun e w' => e = .returned (.slice (some ⟨w.heap.size, 0, none⟩) (zs.length + 1) (grownCap w (zs.length + 1) cap 3)) /\ w' = w.drew.alloc (.cells (((zs.map (Value.int .i64)) ++ [Value.int .i64 x]).toArray ++ Builtin.zeroCells (Value.int .i64 0).cells (grownCap w (zs.length + 1) cap 3 - (zs.length + 1))) 3) :=
            Any2.slices_Insert_int_end_grow Tryz.nX (some ⟨b, 0, none⟩) zs.length cap vb 0 1 vc (zs.map (Value.int .i64)) [.int .i64 x] w (by omega) hc1 (by omega) hz hlz rfl (fun h => by cases h) (fun a ha q v hq => by cases ha; rw [Addr.add_lit]; exact hrow q v hq) hV h1v
          refine H.mono fun e' w' ⟨he, hw⟩ => ?_
          subst hw
          refine new e' w.drew cap _ he R.drew rfl (fun k hk => ?_) ?_
          · rw [iQ hp] at hk
            rw [Array.getElem?_append_left (by simp; omega), List.getElem?_toArray]
            by_cases hke : k = zs.length
            · subst hke; rw [List.getElem?_append_right (by simp), vD hp]; simp
            · rw [List.getElem?_append_left (by simp; omega), uW (by omega), uP hp (by omega)]
          · simp [Builtin.zeroCells, Value.cells]
end Go.Proofs.YtcfechepbamhkaaGreat
set_option maxRecDepth 100000
set_option maxHeartbeats 4000000
namespace Go.Proofs.YtcfechepbamhkaaGreat
open Go.RowKit Go.Sea
open Nat renaming reduceAdd -> xA, reduceLT -> xL, reduceLeDiff -> xD, reduceEqDiff -> xE, reduceMul -> xM, reduceSub -> xS, reduceBEq -> xB
theorem ak1 : Ii Tryz.prog 23 = none := by kernel_rfl
theorem ac3 : aM Tryz.prog 47 = true := by kernel_rfl
theorem afn : aM Tryz.prog 68 = true := by kernel_rfl
theorem anW : yu Tryz.prog 23 = some true := by kernel_rfl
theorem aks : rP Tryz.prog 23 = some (7, 72, 28) := by kernel_rfl
attribute [go_sem] ak1 ac3 afn anW aks
def afo : ah -> Nat -> IV
  | N, 0 => .g (.int .i64 N.oc)
  | N, 1 => .g (.int .i64 N.nu)
  | N, 2 => .g (.int .i64 N.kd)
  | N, 3 => .g (.int .i64 N.fr)
  | N, 4 => .g (.int .i64 N.un)
  | N, 5 => .g (.int .i64 N.ca)
  | N, _ + 6 => .lst 3 N.n (dZ N.p)
def dX (N : Nat -> ah) (i c : Nat) : IV := afo (N i) c
theorem anO (N : Nat -> ah) (i : Nat) : dX N i 0 = .g (.int .i64 (N i).oc) := rfl
theorem anq (N : Nat -> ah) (i : Nat) : dX N i 1 = .g (.int .i64 (N i).nu) := rfl
theorem al0 (N : Nat -> ah) (i : Nat) : dX N i 2 = .g (.int .i64 (N i).kd) := rfl
theorem akM (N : Nat -> ah) (i : Nat) : dX N i 3 = .g (.int .i64 (N i).fr) := rfl
theorem amN (N : Nat -> ah) (i : Nat) : dX N i 4 = .g (.int .i64 (N i).un) := rfl
theorem amI (N : Nat -> ah) (i : Nat) : dX N i 5 = .g (.int .i64 (N i).ca) := rfl
theorem alp (N : Nat -> ah) (i : Nat) : dX N i 6 = .lst 3 (N i).n (dZ (N i).p) := rfl
attribute [go_sem] anO anq al0 akM amN amI alp
def uU (N : Nat -> ah) (i : Nat) : Prop := iy (N i) = true /\ (N i).oc = (N 0).oc /\ (0 < i -> (N (i - 1)).nu < (N i).nu)
instance (N : Nat -> ah) (i : Nat) : Decidable (uU N i) := by unfold uU; infer_instance
def pq (n : Nat) (N : Nat -> ah) : Bool := decide (n <= 200 /\ ∀ i, i < n -> uU N i)
def jJ (N : ah) (ch : Int) : Nat := jM (fun i => decide ((N.p i).ch = ch)) N.n
def iK (N : ah) (ch : Int) : Bool := decide (jJ N ch < N.n)
def TJ (N : ah) (ch : Int) : Int := if jJ N ch < N.n then (jJ N ch : Int) else -1
def kN (N : ah) (ch : Int) : Bool := decide (N.kd = 1) && iK N ch
def nV (n : Nat) (N : Nat -> ah) (x : Int) : Nat := jM (fun i => decide ((N i).nu = x)) n
theorem af4 {N : ah} {ch : Int} {i : Nat} (hi : (i : Int) < N.n) (h : (N.p i).ch = ch) (g : ∀ j, j < i -> (N.p j).ch ≠ ch) : jJ N ch = i := jY (b := fun i => decide ((N.p i).ch = ch)) (decide_eq_true h) (fun j hj => decide_eq_false (g j hj)) _ (by omega)
theorem agb {N : ah} {ch : Int} {i : Nat} (hi : (N.n : Int) <= i) (g : ∀ j, j < i -> (N.p j).ch ≠ ch) : jJ N ch = N.n := o8 _ fun j hj => decide_eq_false (g j (by omega))
theorem Lv {n : Nat} {N : Nat -> ah} {i : Nat} (hi : (i : Int) < n) (h : (iy (N i) = false \/ (N i).oc ≠ (N 0).oc) \/ (i : Int) > 0 /\ (N i).nu <= (N (i - 1)).nu) : false = pq n N := (decide_eq_false fun g => by
  have g1 := g.2 i (by omega)
  rcases h with (h | h) | h
  · rw [g1.1] at h; cases h
  · exact h g1.2.1
  · have := g1.2.2 (by omega); omega).symm
def jZ (q : Nat) (a : Nat -> Int) : List Int := (List.range q).map a
theorem iF (q : Nat) (a : Nat -> Int) : (jZ q a).length = q := by simp [jZ]
theorem o7 {q : Nat} {a : Nat -> Int} {i : Nat} (h : i < q) : (jZ q a).getD i 0 = a i := by simp [jZ, List.getD, h]
def jB (zs : List Int) (x : Int) : Nat := jM (fun i => decide (¬ zs.getD i 0 < x)) zs.length
theorem kE (zs : List Int) (x : Int) : jB zs x <= zs.length := rz _ _
def LU (q : Nat) (a : Nat -> Int) (x : Int) (i : Nat) : Int := (lK (jZ q a) (jB (jZ q a) x) x).getD i 0
theorem fI (zs : List Int) (x : Int) (i : Nat) : List.map (CV.bU i) (dY zs ++ [.iv (.g (.int .i64 x))]) = dY (zs ++ [x]) := by
  have e : dY zs ++ [CV.iv (.g (.int .i64 x))] = dY (zs ++ [x]) := by simp [dY]
  rw [e]; exact bD _ _
theorem abn {q : Nat} {a : Nat -> Int} {x : Int} : ∀ i o, i < q + 1 -> o < 1 -> (Im ((dY (lK (jZ q a) (jB (jZ q a) x) x)).getD (i * 1 + o) .any)).eqv (bC (LU q a x) i o) := fun i o hi ho => by
  obtain rfl : o = 0 := by omega
  have hl : (lK (jZ q a) (jB (jZ q a) x) x).length = q + 1 := by rw [iQ (kE _ _), iF]
  rw [Nat.add_zero, Nat.mul_one, BM _ _ (by omega)]
  exact IV.bn _
theorem Kc {q : Nat} {a : Nat -> Int} {x : Int} {i o : Nat} (hi : i < q + 1) (ho : o < 1) : (Im ((dY (lK (jZ q a) (jB (jZ q a) x) x)).getD (i + o) .any)).eqv (.g (.int .i64 (LU q a x i))) := by
  have := abn (q := q) (a := a) (x := x) i o hi ho
  rw [Nat.mul_one] at this; exact this
def w64 (x : Int) : Int := IntKind.i64.wrap x
def ahx (p : fF) (acc : Int) : Nat -> Int
  | 0 => acc
  | j + 1 => w64 (w64 (ahx p acc j + ((p.o j).f.n : Int)) + ((p.o j).f.m : Int))
def W9 (N : ah) : Nat -> Int
  | 0 => N.n
  | i + 1 => ahx (N.p i) (w64 (w64 (W9 N i + ((N.p i).q : Int)) + ((N.p i).k : Int))) (N.p i).k
end Go.Proofs.YtcfechepbamhkaaGreat
set_option maxRecDepth 100000
set_option maxHeartbeats 4000000
namespace Go.Proofs.YtcfechepbamhkaaGreat
open Go.RowKit Go.Sea
open Nat renaming reduceAdd -> xA, reduceLT -> xL, reduceLeDiff -> xD, reduceEqDiff -> xE, reduceMul -> xM, reduceSub -> xS, reduceBEq -> xB
theorem aeP : aM Tryz.prog 14 = true := by kernel_rfl
theorem ae2 : aM Tryz.prog 67 = true := by kernel_rfl
theorem abl : aM Tryz.prog 79 = true := by kernel_rfl
theorem Xl : aM Tryz.prog 186 = true := by kernel_rfl
theorem anR : fM Tryz.prog 39 = true := by kernel_rfl
theorem aln : lD Tryz.prog 39 = some (true, 13) := by kernel_rfl
theorem ak0 : fO Tryz.prog 39 = some [.iv (.g (.int .i64 0)), .iv (.g (.int .i64 0)), .iv (.g (.int .i64 0)), .iv (.g (.int .i64 0)), .iv (.g (.int .i64 0)), .iv (.g (.int .i64 0)), .iv (.g (.int .i64 0)), .iv (.g (.int .i64 0)), .iv (.g (.int .i64 0)), .iv (.g (.int .i64 0)), .iv (.g (.int .i64 0)), .iv (.g (.slice none 0 0)), .iv (.g (.slice none 0 0))] := by kernel_rfl
attribute [go_sem] aeP ae2 abl Xl anR aln ak0
def bg : aF := ⟨0, 0, 0, ⟨0, 0, 0, 0, 0, 0, 0⟩, 0, 0, fun _ => 0, 0, fun _ => eG⟩
def prt (N : ah) (ch : Int) : fF := N.p (jJ N ch)
def AU (s : aF) (P : fF) : Bool := decide (∃ j, j < P.q /\ fD s.q s.dn (P.a j) = false)
def rM (s : aF) (N : ah) : Int := if fD s.q s.dn N.nu = true then 5 else if AU s (prt N s.ch) = true then 16 else if 200 <= s.q then 2 else if yU s.n s.f (prt N s.ch).k (prt N s.ch).o ≠ 0 then 15 else 0
def edE (s : aF) (N : ah) : Int := if N.kd ≠ 1 then 12 else if iK N s.ch = false then 4 else rM s N
def Mq (s : aF) (N : ah) : aF := { s with q := s.q + 1, dn := LU s.q s.dn N.nu, n := EA s.n s.f (prt N s.ch).k (prt N s.ch).o, f := Zd s.n s.f (prt N s.ch).k (prt N s.ch).o }
def pQ (s : aF) (N : ah) : Int := if (dW s && iy N) = true then edE s N else 1
def mQ (s : aF) (N : ah) : aF := if pQ s N = 0 then Mq s N else bg
theorem yX {s : aF} {N : ah} {e : Int} (h : pQ s N = e) (h0 : e ≠ 0) : mQ s N = bg /\ pQ s N = e := ⟨by unfold mQ; rw [if_neg (by rw [h]; exact h0)], h⟩
theorem agt {s : aF} {N : ah} (h : pQ s N = 0) : mQ s N = Mq s N /\ pQ s N = 0 := ⟨by unfold mQ; rw [if_pos h], h⟩
theorem Vb {s : aF} {N : ah} (h : dW s = false \/ iy N = false) : pQ s N = 1 := by unfold pQ; rcases h with h | h <;> simp [h]
theorem jR {s : aF} {N : ah} (h1 : dW s = true) (h2 : iy N = true) : pQ s N = edE s N := by unfold pQ; simp [h1, h2]
theorem af8 {s : aF} {N : ah} (h : N.kd ≠ 1) : edE s N = 12 := by unfold edE; rw [if_pos h]
theorem akE {s : aF} {N : ah} (h : N.kd = 1) (h2 : iK N s.ch = false) : edE s N = 4 := by unfold edE; rw [if_neg (by omega), if_pos h2]
theorem rT {s : aF} {N : ah} (h : N.kd = 1) (h2 : iK N s.ch = true) : edE s N = rM s N := by unfold edE; rw [if_neg (by omega), if_neg (by rw [h2]; simp)]
theorem amW {s : aF} {N : ah} (h : fD s.q s.dn N.nu = true) : rM s N = 5 := by unfold rM; rw [if_pos h]
theorem agz {s : aF} {N : ah} (h : fD s.q s.dn N.nu = false) {j : Nat} (hj : (j : Int) < (prt N s.ch).q) (h2 : fD s.q s.dn ((prt N s.ch).a j) = false) : rM s N = 16 := by
  have hm : AU s (prt N s.ch) = true := decide_eq_true ⟨j, by omega, h2⟩
  unfold rM; rw [if_neg (by rw [h]; simp), if_pos hm]
theorem NZ {s : aF} {P : fF} {j : Nat} (hj : (P.q : Int) <= j) (g : ∀ k, k < j -> fD s.q s.dn (P.a k) = true) : AU s P = false := decide_eq_false fun ⟨k, h1, h2⟩ => by rw [g k (by omega)] at h2; cases h2
theorem alH {s : aF} {N : ah} (h : fD s.q s.dn N.nu = false) (hm : AU s (prt N s.ch) = false) (hq : (s.q : Int) >= 200) : rM s N = 2 := by
  unfold rM; rw [if_neg (by rw [h]; simp), if_neg (by rw [hm]; simp), if_pos (by omega)]
theorem agF {s : aF} {N : ah} (h : fD s.q s.dn N.nu = false) (hm : AU s (prt N s.ch) = false) (hq : (s.q : Int) < 200) (he : yU s.n s.f (prt N s.ch).k (prt N s.ch).o ≠ 0) : rM s N = 15 := by
  unfold rM; rw [if_neg (by rw [h]; simp), if_neg (by rw [hm]; simp), if_neg (by omega), if_pos he]
theorem akZ {s : aF} {N : ah} (h : fD s.q s.dn N.nu = false) (hm : AU s (prt N s.ch) = false) (hq : (s.q : Int) < 200) (he : yU s.n s.f (prt N s.ch).k (prt N s.ch).o = 0) : rM s N = 0 := by
  unfold rM; rw [if_neg (by rw [h]; simp), if_neg (by rw [hm]; simp), if_neg (by omega), if_neg (by simp [he])]
theorem Jd {s : aF} (h : dW s = true) : s.q <= 200 /\ s.n <= 300 /\ (∀ i, i < s.q -> nG s.dn 10001 i) := by
  unfold dW at h
  simp only [Bool.and_eq_true] at h
  have h1 := of_decide_eq_true h.1.1.1
  have h2 := of_decide_eq_true h.2
  exact ⟨h1.1, h2.1, h1.2⟩
end Go.Proofs.YtcfechepbamhkaaGreat
set_option maxRecDepth 100000
set_option maxHeartbeats 4000000
namespace Go.Proofs.YtcfechepbamhkaaGreat
open Go.RowKit Go.Sea
open Nat renaming reduceAdd -> xA, reduceLT -> xL, reduceLeDiff -> xD, reduceEqDiff -> xE, reduceMul -> xM, reduceSub -> xS, reduceBEq -> xB
theorem U5 : aM Tryz.prog 135 = true := by kernel_rfl
theorem jE : aM Tryz.prog 18 = true := by kernel_rfl
theorem vw : aM Tryz.prog 100 = true := by kernel_rfl
theorem JU : aM Tryz.prog 134 = true := by kernel_rfl
theorem ana : fM Tryz.prog 58 = true := by kernel_rfl
theorem afP : dF Tryz.prog 94 0 = some 0 := by kernel_rfl
theorem anh : fO Tryz.prog 28 = some [.iv (.g (.int .i64 0)), .iv (.g (.int .i64 0)), .iv (.g (.int .i64 0)), .iv (.g (.int .i64 0)), .iv (.g (.int .i64 0)), .iv (.g (.int .i64 0)), .iv (.g (.slice none 0 0))] := by kernel_rfl
attribute [go_sem] jE vw JU ana afP anh
theorem pR {q : Nat} {a : Nat -> Int} {nu : Int} (h : ∀ i, i < q -> nG a nu i) {i : Nat} : ∀ j, i < j -> j < q -> a i < a j
  | 0, hij, _ => absurd hij (Nat.not_lt_zero _)
  | j + 1, hij, hj => by
    have h1 := (h (j + 1) hj).2.2 (by omega)
    rw [Nat.add_sub_cancel] at h1
    by_cases e : i = j
    · subst e; exact h1
    · have := pR (i := i) h j (by omega) (by omega)
      omega
theorem TN {zs : List Int} {x : Int} {i : Nat} (hi : i <= zs.length) (h1 : ∀ j, j < i -> zs.getD j 0 < x) (h2 : ∀ j, i <= j -> j < zs.length -> ¬ zs.getD j 0 < x) : zs.countP (fun z => decide (z < x)) = i := by
  have e : zs = zs.take i ++ zs.drop i := (List.take_append_drop i zs).symm
  rw [e, List.countP_append]
  have e1 : (zs.take i).countP (fun z => decide (z < x)) = (zs.take i).length := List.countP_eq_length.2 fun z hz => by
    obtain ⟨j, hj, rfl⟩ := List.getElem_of_mem hz
    have hj' : j < i := by rw [List.length_take] at hj; omega
    have := h1 j hj'
    rw [List.getD, List.getElem?_eq_getElem (by omega)] at this
    simpa using this
  have e2 : (zs.drop i).countP (fun z => decide (z < x)) = 0 := List.countP_eq_zero.2 fun z hz => by
    obtain ⟨j, hj, rfl⟩ := List.getElem_of_mem hz
    have hj' : i + j < zs.length := by rw [List.length_drop] at hj; omega
    have := h2 (i + j) (by omega) hj'
    rw [List.getD, List.getElem?_eq_getElem hj'] at this
    simpa using this
  rw [e1, e2, List.length_take]; omega
theorem iU {b : Nat -> Bool} {k : Nat} : (∀ j, j < jM b k -> b j = false) /\ (jM b k < k -> b (jM b k) = true) := by
  by_cases h : jM b k < k
  · exact ⟨(Fz k h).2, fun _ => (Fz k h).1⟩
  · refine ⟨fun j hj => ?_, fun h' => absurd h' h⟩
    have hk : jM b k = k := by have := rz b k; omega
    rw [hk] at hj
    clear h
    induction j using Nat.strongRecOn with
    | _ j ih =>
      cases hb : b j with
      | false => rfl
      | true =>
        have := jY hb (fun q hq => ih q hq (by omega)) k hj
        omega
theorem NS {zs : List Int} {x : Int} {j : Nat} (h : j < jB zs x) : zs.getD j 0 < x := by
  have := (iU (b := fun i => decide (¬ zs.getD i 0 < x)) (k := zs.length)).1 j h
  have := of_decide_eq_false this
  omega
theorem NQ {zs : List Int} {x : Int} (h : jB zs x < zs.length) : ¬ zs.getD (jB zs x) 0 < x := of_decide_eq_true ((iU (b := fun i => decide (¬ zs.getD i 0 < x)) (k := zs.length)).2 h)
theorem UN {q : Nat} {a : Nat -> Int} {x : Int} (hs : ∀ i j, i < j -> j < q -> a i < a j) : (jZ q a).countP (fun z => decide (z < x)) = jB (jZ q a) x := by
  refine TN (kE _ _) (fun j hj => NS hj) fun j h1 h2 => ?_
  have hp := NQ (zs := jZ q a) (x := x) (by omega)
  rw [iF] at h2
  rw [o7 (by have := kE (jZ q a) x; rw [iF] at this; omega)] at hp
  rw [o7 h2]
  by_cases e : jB (jZ q a) x = j
  · rw [e] at hp; exact hp
  · have := hs (jB (jZ q a) x) j (by omega) h2
    omega
theorem OT (q : Nat) (a : Nat -> Int) (x : Int) : (jZ q a).contains x = fD q a x := by
  refine Bool.eq_iff_iff.2 ?_
  unfold fD
  simp [jZ]
theorem ai4 (q : Nat) (a : Nat -> Int) (x : Int) (hq : q <= 1000000) (hs : ∀ i j, i < j -> j < q -> a i < a j) : aA Tryz.prog 100 [.one (.lst 1 q (bC a)), .one (.g (.int .i64 x))] (.tup [.one (.g (.int .i64 (jB (jZ q a) x : Nat))), .one (.g (.bool (fD q a x)))]) := by
  intro w Z vs hZ hv
  obtain ⟨vs⟩ := vs
  match vs, hv with
  | [v, v2], ⟨hv, h2, _⟩ =>
    have e2 : v2 = .int .i64 x := by cases h2; rfl
    subst e2
    have hv : Rd w Z v (.lst 1 q (bC a)) := hv
    cases hv with
    | nil p cap =>
      refine (Tryz.slices_BinarySearch_int_empty p cap x w).mono fun e w' ⟨he, hw⟩ => ?_
      subst hw
      have e1 : jB (jZ 0 a) x = 0 := rfl
      have e2 : fD 0 a x = false := decide_eq_false fun ⟨i, h, _⟩ => absurd h (Nat.not_lt_zero _)
      refine ⟨_, he, Below.refl _ _, _, rfl, ?_, ?_, trivial⟩
      · rw [e1]; exact Rd.g _ rfl
      · rw [e2]; exact Rd.g _ rfl
    | lst b off _ cap _ _ X hz hn hm h1 h2 =>
      have hc : ∀ j, j < (jZ q a).length -> w.cell? ⟨b, off + j, none⟩ = some (.int .i64 ((jZ q a).getD j 0)) := fun j hj => by
        rw [iF] at hj
        have k1 := h1 j 0 hj (by omega)
        have k2 := h2 j 0 hj (by omega)
        rw [Nat.mul_one, Nat.add_zero] at k1
        rw [k1, o7 hj]
        have : X j 0 = .int .i64 (a j) := by
          generalize X j 0 = y at k2
          have k2 : Rd w Z y (.g (.int .i64 (a j))) := k2
          cases k2; rfl
        rw [this]
      have hso : ((jZ q a).take q).Pairwise (· <= ·) := by
        rw [List.take_of_length_le (by rw [iF]; exact Nat.le_refl _)]
        unfold jZ
        rw [List.pairwise_map]
        refine List.Pairwise.imp_of_mem (fun {i j} hi hj hij => ?_) (List.pairwise_lt_range (n := q))
        have := hs i j hij (List.mem_range.1 hj)
        omega
      refine (Tryz.slices_BinarySearch_int b off q cap (jZ q a) x w (by rw [iF]; exact Nat.le_refl _) (by omega) hc hso).mono fun e w' ⟨he, n, hw⟩ => ?_
      subst hw
      rw [List.take_of_length_le (by rw [iF]; exact Nat.le_refl _), UN hs, OT] at he
      exact ⟨_, he, ⟨rfl, rfl, rfl, Nat.le_refl _, fun _ _ => rfl⟩, _, rfl, Rd.g _ rfl, Rd.g _ rfl, trivial⟩
def vK : fF := ⟨0, 0, fun _ => 0, 0, fun _ => TS 0 0⟩
def fQ (N : ah) (ch : Int) : fF := if iK N ch = true then prt N ch else vK
theorem aip {N : ah} {ch : Int} {i : Nat} (hi : (i : Int) < N.n) (h : (N.p i).ch = ch) (g : ∀ j, j < i -> (N.p j).ch ≠ ch) : fQ N ch = N.p i /\ iK N ch = true := by
  have e := af4 hi h g
  have e2 : iK N ch = true := decide_eq_true (by rw [e]; omega)
  refine ⟨?_, e2⟩
  unfold fQ prt; rw [if_pos e2, e]
theorem ahG {N : ah} {ch : Int} {i : Nat} (hi : (N.n : Int) <= i) (g : ∀ j, j < i -> (N.p j).ch ≠ ch) : fQ N ch = vK /\ iK N ch = false := by
  have e2 : iK N ch = false := decide_eq_false (by rw [agb hi g]; omega)
  refine ⟨?_, e2⟩
  unfold fQ; rw [if_neg (by rw [e2]; simp)]
theorem amf {n : Nat} {N : Nat -> ah} {i : Nat} (hi : (n : Int) <= i) (g : ∀ j, j < i -> uU N j) : decide ((n : Int) <= 200) = pq n N := by
  unfold pq; exact decide_eq_decide.2 ⟨fun h => ⟨by omega, fun j hj => g j (by omega)⟩, fun h => by omega⟩
theorem ES (n : Nat) (N : Nat -> ah) (hn : n <= 9223372036854775807) (hN : ∀ i, i < n -> (N i).Ok) : aA Tryz.prog 82 [.one (.lst 7 n (dX N))] (.t (.one (.g (.bool (pq n N))))) := by
  refine ak Tryz.func82 rfl (by rw [Tryz.ntmps82]; simp) ?_
  simp only [Tryz.ntmps82, zM, PT.tv, au, Nat.zero_add, Nat.reduceAdd]
  repeat' (first
 | ((with_reducible show AW _ _ _ _); first
 | (with_reducible first | refine aS (fun K hK => ?_) | refine aI ?_ | refine aX ?_ | refine aT ?_ | refine aC ?_ | refine aB ?_)
 | (first
 | (with_reducible first | refine aP 0 [0] ?_ | refine aP 1 [0] ?_ | refine aP 2 [0,5,6,7] ?_ | refine aP 3 [0,5,6,7] ?_)
 | ((with_reducible refine aR (c := Code.region 4 _ true) [0,3,4,5,6,7] ?_); (with_reducible refine aD ?_ ?_ ?_ ?_); (focus kernel_rfl); (focus kernel_rfl); (focus kernel_rfl))
 | (with_reducible first | refine aP 5 [] ?_ | refine aP 6 [0,5,6,7] ?_ | refine aP 7 [0] ?_))
 | ((with_reducible show AW _ (Code.loop _) _ _); first
 | ((with_reducible refine aL (c := (Code.seq (Code.region 2 _ _) _)) (ι := Nat) [0,5,6] (fun i => [(7, iA .i64 (i : Int))]) (fun i => []) (fun i => i <= n /\ (∀ j, j < i -> uU N j)) (fun i => n - i) 0 ?lg2 ?l12 ?l22 ?li2 ?lr2); (case' lg2 => rintro i _); (case' li2 => try (exact ⟨Nat.zero_le _, fun i hi => absurd hi (Nat.not_lt_zero _)⟩)); (case' lr2 => rintro i ⟨hi, hai⟩ KR hR2; simp only [bG, dL, hset, lk, if_true, if_false, xE, reduceIte, zN]))))
 | ((first | (with_reducible refine And.intro ?_ ?_) | (with_reducible refine Need.mk ?_)); focus (first | exact True.intro | omega | (intros; (repeat' (first | omega | (with_reducible refine And.intro ?_ ?_))); done) | (simp; done) | (simp +contextual; done) | (intro hq; have hq2 := hq; simp only [Bool.and_eq_true, Bool.or_eq_true, Bool.not_eq_true', Bool.not_not, Bool.not_eq_false', decide_eq_true_eq, decide_eq_false_iff_not] at hq2; (repeat' (first | exact hq | (with_reducible refine And.intro ?_ ?_) | omega)); done)))
 | (with_reducible refine aK ?_)
 | ((with_reducible show bL _ _ _ _ _ _); first
 | ((with_reducible refine aN ?_ ?_) <;> (intro hc; (try simp only [zB, zC, reduceCtorEq] at hc); (try (exfalso; contradiction)))))
 | ((with_reducible refine And.intro ?_ ?_); focus ((with_reducible show iL _ _ _ = true); kernel_rfl))
 | ((with_reducible show eP _ _ _ _ _ _ _ _ _ _ _ _ _); first
 | (refine bR (k := 18) jE (pU (N i) (hN i (by omega))) ?_ ?_))
 | ((with_reducible refine hR2 _ (i + 1) ?_); (try clear hR2 KR))
 | ((with_reducible refine Told.mk ?_); simp only [go_sem, reduceIte, reduceCtorEq, xA, xL, xD, xE, xM, xS, xB] <;> ((((try simp (disch := omega) only [aY, Int.natCast_add, Int.cast_ofNat_Int, and_true, true_and, and_self]); (repeat' (first | omega | (with_reducible refine And.intro ?_ ?_) | ((exact all_succ (by assumption) ⟨by simp_all, by omega, fun h0 => by omega⟩)))); done))))
 | ((fail_if_success (with_reducible show AW _ _ _ _)); simp (maxSteps := 2000000) only [go_sem, reduceIte, reduceCtorEq, xA, xL, xD, xE, xM, xS, xB, Tryz.f82])
 | ((fail_if_success (with_reducible show AW _ _ _ _)); simp (disch := omega) only [aY, iP, iX])
 | ((with_reducible refine hK _ ?_); clear hK K)
 | (with_reducible apply_assumption -exfalso only [*]))
  all_goals (first | exact Lv (by assumption) hc | exact amf (by assumption) hai)
theorem KM (s : aF) (x : Int) (hs : s.Ok) (hv : dW s = true) : aA Tryz.prog 98 [(lY s), .one (.g (.int .i64 x))] (.t (.one (.g (.bool (fD s.q s.dn x))))) := by
  have hsq := Jd hv
  refine ak Tryz.func98 rfl (by rw [Tryz.ntmps98]; simp) ?_
  simp only [lY, Tryz.ntmps98, zM, PT.tv, au, Nat.zero_add, Nat.reduceAdd]
  repeat' (first
 | ((with_reducible show AW _ _ _ _); first
 | (with_reducible first | refine aS (fun K hK => ?_) | refine aT ?_)
 | (first
 | (with_reducible first | refine aP 0 [0,1] ?_ | refine aP 1 [1,2] ?_ | refine aP 2 [6] ?_)))
 | (((with_reducible refine Need.mk ?_)); focus (exact True.intro))
 | (with_reducible refine aK ?_)
 | ((with_reducible show aZ _ _ _ _ _ _ _ _ _ _); first
 | (refine aG (k := 100) vw (ai4 s.q s.dn x (by omega) (fun i j h1 h2 => pR hsq.2.2 j h1 h2)) ?_ ?_))
 | ((fail_if_success (with_reducible show AW _ _ _ _)); simp (maxSteps := 2000000) only [go_sem, reduceIte, reduceCtorEq, xA, xL, xD, xE, xM, xS, xB, Tryz.f98])
 | ((with_reducible refine hK _ ?_); clear hK K))
theorem Cy (N : ah) (ch : Int) (ho : N.Ok) : aA Tryz.prog 96 [(Er N), .one (.g (.int .i64 ch))] (.tup [.agg [.g (.int .i64 (fQ N ch).ch), .lst 1 (fQ N ch).q (bC (fQ N ch).a), .lst 16 (fQ N ch).k (jq (fQ N ch).o)], .one (.g (.bool (iK N ch)))]) := by
  have hnn := ho.n
  refine ak Tryz.func96 rfl (by rw [Tryz.ntmps96]; simp) ?_
  simp only [Er, Tryz.ntmps96, zM, PT.tv, au, Nat.zero_add, Nat.reduceAdd]
  repeat' (first
 | ((with_reducible show AW _ _ _ _); first
 | (with_reducible first | refine aS (fun K hK => ?_) | refine aI ?_ | refine aX ?_ | refine aT ?_ | refine aC ?_ | refine aB ?_)
 | (first
 | (with_reducible first | refine aP (ops := #[⟨some 2, _, _, _, _, _⟩, _, _, _]) 0 [0,1] ?_ | refine aP (ops := #[⟨some 4, _, _, _, _, _⟩]) 0 [0,1] ?_ | refine aP (ops := #[⟨some 2, _, _, _, _, _⟩, _]) 0 [0,1] ?_ | refine aP (ops := #[⟨some 7, _, _, _, _, _⟩, _, _, _, _]) 1 [2,3,4] ?_ | refine aP (ops := #[⟨some 6, _, _, _, _, _⟩, _, _]) 1 [0,1] ?_ | refine aP (ops := #[⟨some 4, _, _, _, _, _⟩, _, _, _, _]) 1 [1,2] ?_ | refine aP (ops := #[⟨some 11, _, _, _, _, _⟩, _]) 2 [2,4,6] ?_ | refine aP (ops := #[⟨some 9, _, _, _, _, _⟩]) 2 [0,1,7,8] ?_ | refine aP (ops := #[⟨some 13, _, _, _, _, _⟩, _, _]) 3 [4] ?_ | refine aP (ops := #[⟨some 10, _, _, _, _, _⟩, _]) 3 [0,1,7,8] ?_ | refine aP (ops := #[⟨some 14, _, _, _, _, _⟩, _, _, _, _, _, _]) 4 [2,4,6] ?_ | refine aP (ops := #[⟨some 11, _, _, _, _, _⟩, _, _, _, _, _]) 4 [0,1,5,7,8] ?_ | refine aP 5 [5] ?_ | refine aP 6 [0,1,7,8] ?_ | refine aP 7 [] ?_))
 | ((with_reducible show AW _ (Code.loop _) _ _); first
 | ((with_reducible refine aL (c := (Code.seq (Code.region 2 _ _) _)) (ι := Nat) [0,1,7] (fun i => [(8, iA .i64 (i : Int))]) (fun i => []) (fun i => i <= N.n /\ (∀ j, j < i -> (N.p j).ch ≠ ch)) (fun i => N.n - i) 0 ?lg2 ?l12 ?l22 ?li2 ?lr2); (case' lg2 => rintro i _); (case' li2 => try (exact ⟨Nat.zero_le _, fun i hi => absurd hi (Nat.not_lt_zero _)⟩)); (case' lr2 => rintro i ⟨hi, hai⟩ KR hR2; simp only [bG, dL, hset, lk, if_true, if_false, xE, reduceIte, zN]))))
 | (((with_reducible refine And.intro ?_ ?_)); focus (omega))
 | (with_reducible refine aK ?_)
 | ((with_reducible show bL _ _ _ _ _ _); first
 | ((with_reducible refine aN ?_ ?_) <;> (intro hc; (try simp only [zB, zC, reduceCtorEq] at hc); (try (exfalso; contradiction)))))
 | ((with_reducible refine hR2 _ (i + 1) ?_); (try clear hR2 KR))
 | ((with_reducible refine Told.mk ?_); simp only [go_sem, reduceIte, reduceCtorEq, xA, xL, xD, xE, xM, xS, xB, bC] <;> ((((try simp (disch := omega) only [aY, Int.natCast_add, Int.cast_ofNat_Int, and_true, true_and, and_self]); (repeat' (first | omega | (with_reducible refine And.intro ?_ ?_) | (exact all_succ (by assumption) (by assumption)))); done))))
 | ((fail_if_success (with_reducible show AW _ _ _ _)); simp (maxSteps := 2000000) only [go_sem, reduceIte, reduceCtorEq, xA, xL, xD, xE, xM, xS, xB, Tryz.f96, Tryz.f134, Tryz.f135, bC])
 | ((with_reducible show aZ _ _ _ _ _ _ _ _ _ _); first
 | ((refine bW (k := 134) Tryz.func134 rfl JU (by rw [Tryz.ntmps134]; simp) ?_ ?_ (fun K hK => ?_)); (focus (exact True.intro)); (focus ((simp [iZ]; done))); simp only [Tryz.ntmps134, List.map_cons, List.map_nil, List.nil_append, List.cons_append, List.append_nil, LV.tv, au, Nat.zero_add, Nat.reduceAdd])
 | ((refine kJ (k := 135) Tryz.func135 rfl U5 (by rw [Tryz.ntmps135]; simp) ?_ ?_ (fun K hK => ?_)); (focus (exact True.intro)); (focus ((simp [iZ]; done))); simp only [Tryz.ntmps135, List.map_cons, List.map_nil, List.nil_append, List.cons_append, List.append_nil, LV.tv, au, Nat.zero_add, Nat.reduceAdd]))
 | ((with_reducible refine hK _ ?_); clear hK K)
 | (with_reducible apply_assumption -exfalso only [*]))
  all_goals (first | (have e := aip (by assumption) (by assumption) hai; rw [e.1, e.2]; (repeat' (first | exact rfl | (with_reducible refine And.intro ?_ ?_) | (intro i q hi hq; exact IV.bn _) | (intro i q hi hq; exact rfl))); done) | (have e := ahG (by assumption) hai; rw [e.1, e.2]; (repeat' (first | exact rfl | (with_reducible refine And.intro ?_ ?_))); done))
end Go.Proofs.YtcfechepbamhkaaGreat
namespace Go.Proofs.YtcfechepbamhkaaGreat
open Go.RowKit Go.Sea Go.Lib
theorem ahl : Tryz.prog.underlying 36 = some (.slice 3) := by kernel_rfl
theorem aoc : (Tryz.prog.info? 3).map (fun i => (i.size, i.bytes, i.zero.map (·.cells.size))) = some (1, 8, some 1) := by kernel_rfl
set_option maxHeartbeats 4000000 in
set_option maxRecDepth 100000 in
set_option maxHeartbeats 2000000 in
theorem Rm (cap : Nat) (w : World) : Calls Tryz.prog 102 #[.slice none 0 cap] w fun e w' => e = .returned (.slice none 0 0) /\ w' = w := by
  have q : (binOp .eql 36 (.slice none 0 cap) (.slice none 0 0)).run Tryz.prog w = .ok (.bool true) w := run_eql_slice_nil w 36 3 none 0 cap ahl
  go_enter Tryz.func102, Tryz.ntmps102
  go_wp2
  go_ret
  exact ⟨rfl, rfl⟩
set_option maxHeartbeats 4000000 in
set_option maxRecDepth 100000 in
theorem Dw (p : Addr) (n cap : Nat) (w w' : World) (u : Value) (h : ∀ ty, (Builtin.append_ #[36,36] ty #[.slice (some ⟨w.heap.size, 0, none⟩) 0 0, .slice (some p) n cap]).run Tryz.prog (w.alloc (.cells #[] 3)) = .ok u w') : Calls Tryz.prog 102 #[.slice (some p) n cap] w fun e w'' => e = .returned u /\ w'' = w' := by
  have q : (binOp .eql 36 (.slice (some p) n cap) (.slice none 0 0)).run Tryz.prog w = .ok (.bool false) w := run_eql_slice_nil w 36 3 (some p) n cap ahl
  go_enter Tryz.func102, Tryz.ntmps102
  go_wp2_with (at_builtin; refine Lib.wpList_append_run _ rfl _ _ _ _ rfl _ _ rfl rfl _ _ (h _) ?_)
  all_goals (go_ret; exact ⟨rfl, rfl⟩)
theorem ni (w : World) (o : Obj) : Below w.heap.size w (w.alloc o) := by
  refine ⟨rfl, rfl, rfl, by simp, fun k hk => ?_⟩
  exact Below.heap_alloc _ _ _ hk
set_option maxHeartbeats 2000000 in
theorem acz (n : Nat) (f : Nat -> Nat -> IV) (hn : n <= 1000) : l7 Tryz.prog 102 [.one (.iv (.lst 1 n f))] (eO f 1 n 0) (fun i => .t (.one (.slc i 0 n 1))) := by
  intro H i hH w0 Z0 J Z s a w vs R hs hv
  subst hs
  obtain ⟨vs⟩ := vs
  match vs, hv with
  | [v], ⟨hv, _⟩ =>
    have hv : Rd w Z v (.lst 1 n f) := hv
    have hlen : (eO f 1 n 0).length = n * 1 := gK f 1 n 0
    have empty : ∀ (p : Addr) (cap : Nat), n = 0 -> v = .slice (some p) 0 cap -> Calls Tryz.prog 102 #[v] w fun e w' => ∃ v J' Z', e = .returned v /\ Rel w0 Z0 J' Z' { s with heap := hset s.heap i (eO f 1 n 0) } a w' /\ bB w' J' Z' v (.t (.one (.slc i 0 n 1))) := fun p cap h0 ev => by
      subst h0; subst ev
      obtain ⟨ii, h33⟩ : ∃ ii, Tryz.prog.info? 3 = some ii := by
        have := aoc
        cases h : Tryz.prog.info? 3 with
        | none => rw [h] at this; cases this
        | some i => exact ⟨i, rfl⟩
      refine (Dw p 0 cap w _ _ fun ty => gX ahl h33 _ _ 0 0 cap (Nat.le_refl _)).mono fun e w' ⟨he, hw⟩ => ?_
      subst hw
      have R1 := R.new (nid := i) (cs := []) (c := #[]) (e := 3) (H := hset s.heap i []) hH (aH _ _ _) (fun q hq => aJ _ _ _ _ hq) (by simp [aO])
      exact ⟨_, _, _, he, R1, Or.inr ⟨w.heap.size, 0, #[], 3, rfl, by simp [gF], Nat.zero_le _, Nat.zero_le _, heap_alloc_new w _, by simp⟩⟩
    have hv0 := hv
    cases hv with
    | nil p cap =>
      cases p with
      | none =>
        refine (Rm cap w).mono fun e w' ⟨he, hw⟩ => ?_
        subst hw
        exact ⟨_, J, Z, he, R.qz (nid := i) hH (by rw [aH]; rfl) (fun q hq => aJ _ _ _ _ hq), Or.inl ⟨rfl, rfl⟩⟩
      | some p => exact empty p cap rfl rfl
    | lst b off _ cap _ _ X hz hc hm h1 h2 =>
      by_cases h0 : n = 0
      · exact empty ⟨b, off, none⟩ cap h0 (by rw [h0])
      · obtain ⟨hR1, G⟩ := R.call (ni w (.cells #[] 3))
        have hv1 : bQ (w.alloc (.cells #[] 3)) J (fun b => Z b \/ (w.heap.size <= b /\ b < (w.alloc (.cells #[] 3)).heap.size)) (.slice (some ⟨b, off, none⟩) n cap) (.one (.iv (.lst 1 n f))) := bK.grow G (CV.bP (.iv (.lst 1 n f))) hv0
        obtain ⟨ii, z, t1, t2, t3, t4, t5, t6, t7⟩ := gZ (P := Tryz.prog) (t := 36) (e := 3) (n := 1) (b := 8) (by kernel_rfl)
        rcases ku hR1 (size := 1) (m := n) (nd := True) (x := .one (.iv (.lst 1 n f))) (ns := eO f 1 n 0) (by simp [vR]) trivial hv1 with ⟨h, _⟩ | ⟨hpos, b2, off2, cap2, news, e2, n1, n2, n3, n4⟩
        · exact absurd h h0
        · cases e2
          have hrun := fun ty => run_append_grow (P := Tryz.prog) (w.alloc (.cells #[] 3)) 36 ty 3 ii z t1 t2 t3 ⟨w.heap.size, 0, none⟩ 0 0 [] (by simp) (fun j v h => by simp at h) ⟨b, off, none⟩ n cap news (by rw [n1, t5]) n2 (by omega) (by omega) (by
            rw [t6]; exact growslice_fits (by omega) (by omega))
          simp only [Nat.zero_add] at hrun
          have hsz := grownCap_ge (w.alloc (.cells #[] 3)) n 0 3
          have hmx := grownCap_le_maxLen (w.alloc (.cells #[] 3)) n 0 3 (by unfold maxLen; omega)
          generalize grownCap (w.alloc (.cells #[] 3)) n 0 3 = G at hrun hsz hmx
          have hC : G * 1 <= (([] : List Value).toArray ++ news.toArray ++ Builtin.zeroCells z.cells (G - n)).size := by
            simp only [Array.size_append, size_zeroCells, t4, List.size_toArray, n1, List.length_nil]
            omega
          have hD : aO (bK (w.alloc (.cells #[] 3)) J (fun b => Z b \/ (w.heap.size <= b /\ b < (w.alloc (.cells #[] 3)).heap.size))) ((([] : List Value).toArray ++ news.toArray ++ Builtin.zeroCells z.cells (G - n)).toList.take (eO f 1 n 0).length) (eO f 1 n 0) := by
            rw [Array.toList_append, Array.toList_append, List.nil_append, List.take_append_of_le_length (by simp; omega), List.take_of_length_le (by simp; omega)]
            exact n4
          generalize ([] : List Value).toArray ++ news.toArray ++ Builtin.zeroCells z.cells (G - n) = C at hrun hC hD
          have cl := Dw ⟨b, off, none⟩ n cap w _ _ hrun
          have R2 := (hR1.drew).new (nid := i) (cs := eO f 1 n 0) (c := C) (e := 3) (H := hset s.heap i (eO f 1 n 0)) hH (aH _ _ _) (fun q hq => aJ _ _ _ _ hq) (lT hD)
          have hA := heap_alloc_new (w.alloc (.cells #[] 3)).drew (.cells C 3)
          generalize hw1 : w.alloc (.cells #[] 3) = w1 at cl R2 hA
          refine cl.mono fun e w' ⟨he, hw⟩ => ?_
          subst hw
          exact ⟨_, _, _, he, R2, Or.inr ⟨_, _, _, 3, rfl, by simp [gF], hsz, hmx, hA, by rw [Nat.zero_add]; exact hC⟩⟩
end Go.Proofs.YtcfechepbamhkaaGreat
namespace Go.Proofs.YtcfechepbamhkaaGreat
open Go.RowKit Go.Sea
def EU (s s' : AS) : Prop := ∀ (w0 : World) (Z0 : Fr) (a : Act) (w : World), mE w0 Z0 s a w -> mE w0 Z0 s' a w
def Ul (P : Program) (o : Oper) (s s' : AS) : Prop := o.guard = none /\ ∀ (w0 : World) (Z0 : Fr) (a : Act) (w : World) (K : Act -> World -> Prop) (Q : Exit -> Act -> World -> Prop) (n : Nat), mE w0 Z0 s a w -> (∀ a' w', mE w0 Z0 s' a' w' -> K a' w') -> o.wpIn (fo Z0.ro) n P a w K Q
theorem Md {P : Program} {s : AS} {Q : Exit -> AS -> Prop} {id : Nat} {ops : Array Oper} (S : (Nat -> Bool) -> AS) (hm : P.follows .mixedOrders = true) (hback : qK .any ops = true) (hd : jh ops = true) (h0 : EU s (S fun _ => false))
    (hs : ∀ i o, ops[i]? = some o -> ∀ D, Closed .any ops D -> D i = false -> (o.after.toList.all fun e => !Region.binds .any e || D e.on) = true -> Ul P o (S D) (S (upd D i)))
    (hq : ∀ D, (∀ i, i < ops.size -> D i = true) -> ∃ s', EU (S D) s' /\ Q .normal s') : AW P (.region id ops true) s Q := fun w0 Z0 a w n R => by
  refine oG (d9 _) (fun _ D a w => mE w0 Z0 (S D) a w) hm hd hback ?_ ?_ fun D a w hD R' => ?_
  · obtain ⟨J, Z, R⟩ := h0 _ _ _ _ R
    exact ⟨J, Z, R.drew⟩
  · refine kC.of ops.toList 0 fun i o ho D a w R' hDi hpre hcl K hK => ?_
    rw [Nat.zero_add] at hDi
    simp only [Nat.zero_add] at hK
    have hoi : ops[i]? = some o := by rw [<- Array.getElem?_toList]; exact ho
    obtain ⟨hg, hst⟩ := hs i o hoi D hcl hDi hpre
    have hw : Region.wanted o (yielded ops a.tmps) = true := by simp [Region.wanted, hg]
    rw [if_pos hw]
    exact hst w0 Z0 a w _ _ _ R' hK
  · obtain ⟨s', h1, h2⟩ := hq D hD
    exact ⟨s', h1 _ _ _ _ R', h2⟩
theorem kH {s s' : AS} (hN : s'.N = s.N) (hg : s'.gh = s.gh) (hl : s'.lp = s.lp) (he : ∀ t, s'.get t = s.get t \/ s'.get t = .any) (hh : ∀ q, hget s'.heap q = hget s.heap q) : EU s s' := fun w0 Z0 a w ⟨J, Z, R⟩ =>
  ⟨J, Z, R.nodef, by rw [hN]; exact R.size, R.below, R.zfrom, R.zlt, R.jlt, R.inj, fun i hi => R.hole i ((hh i).symm.trans hi), fun i cs hi => R.blk i cs ((hh i).symm.trans hi), fun t => by
    rcases he t with e | e
    · show bB _ _ _ _ (s'.get t); rw [e]; exact R.slots t
    · show bB _ _ _ _ (s'.get t); rw [e]; trivial, fun f t => by rw [hg]; exact R.ghost f t, by rw [hl]; exact R.loops, by rw [hl]; exact R.lnd, by rw [hl]; exact R.ro⟩
theorem H8 {P : Program} {o : Oper} {s s' : AS} {nid : Nat} {nd : Prop} {v : AV} {ef : Eff} (hg : o.guard = none) (hd : ∀ c, o.op ≠ .defer c) (hh : hget s.heap nid = none) (hdst : gP s o.dst) (hop : kU P nid s.ev (hget s.heap) o = some (nd, v, ef)) (hn : nd) (ht : EU (s.ent o.dst nid v ef) s') : Ul P o s s' :=
  ⟨hg, fun w0 Z0 a w K Q n ⟨J, Z, R⟩ hK => eD (d9 _) hd (qY (lU R hh hop hn) fun J' w' u R' hr => hK _ _ (ht _ _ _ _ ⟨J', Z, R'.put (fun k e => by rw [EJ]; exact dR hdst k e) hr⟩))⟩
structure En where
  t : Nat
  c : (Nat -> Bool) -> Bool
  x : TV
def j5 (tb : List En) (D : Nat -> Bool) : List (Nat × AV) := tb.map fun e => (e.t, bif e.c D then .t e.x else .any)
theorem zU {D D' : Nat -> Bool} {t0 : Nat} {x0 : TV} {E0 : List (Nat × AV)} : ∀ (tb : List En), (∀ e, e ∈ tb -> if e.t = t0 then e.x = x0 else (e.c D' = true -> e.c D = true)) -> t0 ∈ tb.map (·.t) ->
    ∀ t, lk (j5 tb D' ++ E0) t = lk ((t0, .t x0) :: (j5 tb D ++ E0)) t \/ lk (j5 tb D' ++ E0) t = .any := by
  have key : ∀ (tb : List En), (∀ e, e ∈ tb -> if e.t = t0 then e.x = x0 else (e.c D' = true -> e.c D = true)) -> ∀ t, (t = t0 -> t0 ∈ tb.map (·.t)) -> lk (j5 tb D' ++ E0) t = (if t = t0 then .t x0 else lk (j5 tb D ++ E0) t) \/ lk (j5 tb D' ++ E0) t = .any := by
    intro tb
    induction tb with
    | nil => intro _ t ht; by_cases h : t = t0
             · simp at ht; exact absurd h ht
             · rw [if_neg h]; exact Or.inl rfl
    | cons e l ih =>
      intro h t ht
      show lk ((e.t, _) :: (j5 l D' ++ E0)) t = (if t = t0 then _ else lk ((e.t, _) :: (j5 l D ++ E0)) t) \/ lk ((e.t, _) :: (j5 l D' ++ E0)) t = .any
      simp only [lk]
      have he := h e (List.mem_cons_self ..)
      by_cases hte : t = e.t
      · rw [if_pos hte, if_pos hte]
        cases hc : e.c D' with
        | false => exact Or.inr rfl
        | true =>
          left
          by_cases h0 : t = t0
          · rw [if_pos h0]; rw [if_pos (by omega)] at he; exact congrArg AV.t he
          · rw [if_neg h0]; rw [if_neg (by omega)] at he; rw [he hc]
      · rw [if_neg hte, if_neg hte]
        exact ih (fun e' h' => h e' (List.mem_cons_of_mem _ h')) t fun e0 => by
          rcases List.mem_cons.1 (ht e0) with h1 | h1
          · exact absurd (e0.trans h1) hte
          · exact h1
  intro tb h ht t
  exact key tb h t fun _ => ht
theorem DK {D D' : Nat -> Bool} {E0 : List (Nat × AV)} : ∀ (tb : List En), (∀ e, e ∈ tb -> e.c D' = true -> e.c D = true) -> ∀ t, lk (j5 tb D' ++ E0) t = lk (j5 tb D ++ E0) t \/ lk (j5 tb D' ++ E0) t = .any
  | [], _, t => Or.inl rfl
  | e :: l, h, t => by
    show lk ((e.t, _) :: (j5 l D' ++ E0)) t = lk ((e.t, _) :: (j5 l D ++ E0)) t \/ lk ((e.t, _) :: (j5 l D' ++ E0)) t = .any
    simp only [lk]
    by_cases hte : t = e.t
    · rw [if_pos hte, if_pos hte]
      cases hc : e.c D' with
      | false => exact Or.inr rfl
      | true => rw [h e (List.mem_cons_self ..) hc]; exact Or.inl rfl
    · rw [if_neg hte, if_neg hte]
      exact DK l (fun e' h' => h e' (List.mem_cons_of_mem _ h')) t
theorem ags {D : Nat -> Bool} {E0 : List (Nat × AV)} : ∀ (tb : List En), (∀ e, e ∈ tb -> e.c D = false) -> ∀ t, lk (j5 tb D ++ E0) t = lk E0 t \/ lk (j5 tb D ++ E0) t = .any
  | [], _, t => Or.inl rfl
  | e :: l, h, t => by
    show lk ((e.t, _) :: (j5 l D ++ E0)) t = _ \/ lk ((e.t, _) :: (j5 l D ++ E0)) t = .any
    simp only [lk]
    by_cases hte : t = e.t
    · rw [if_pos hte, h e (List.mem_cons_self ..)]; exact Or.inr rfl
    · rw [if_neg hte]
      exact ags l (fun e' h' => h e' (List.mem_cons_of_mem _ h')) t
theorem Vn {D : Nat -> Bool} {E0 : List (Nat × AV)} {t : Nat} : ∀ (tb : List En), t ∉ tb.map (·.t) -> lk (j5 tb D ++ E0) t = lk E0 t
  | [], _ => rfl
  | e :: l, h => by
    show lk ((e.t, _) :: (j5 l D ++ E0)) t = _
    simp only [lk]
    rw [if_neg (by rintro rfl; exact h (by simp))]
    exact Vn l fun h' => h (by simp only [List.map_cons, List.mem_cons]; exact Or.inr h')
def adu (ops : Array Oper) (p : Nat × Nat) : Bool := ((masks [] ops.toList).getD p.1 0).testBit p.2
theorem alz {ops : Array Oper} {D : Nat -> Bool} (hcl : Closed .any ops D) {i k : Nat} {o : Oper} (ho : ops[i]? = some o) (hpre : (o.after.toList.all fun e => !Region.binds .any e || D e.on) = true) (h : adu ops (i, k) = true) : D k = true := (nS (ops := ops) h).done hcl o ho hpre
theorem ak2 {ops : Array Oper} {D : Nat -> Bool} (hcl : Closed .any ops D) {i k : Nat} (hi : D i = false) (hk : k < ops.size) (h : adu ops (k, i) = true) : D k = false := by
  cases hD : D k with
  | false => rfl
  | true =>
    have ho : ops[k]? = some ops[k] := Array.getElem?_eq_getElem hk
    have := (nS (ops := ops) h).done hcl _ ho (hcl k _ ho hD)
    rw [hi] at this; cases this
def fC (c r i8 i12 m p : Nat) (x : Int) (f8 : CV) (A : Nat -> Nat -> IV) : List En := [⟨76, fun D => D 0, .one (.ptr c 0)⟩, ⟨77, fun D => D 1, .one (.ptr c 0)⟩, ⟨78, fun D => D 2, .one f8⟩, ⟨79, fun D => D 3, .one (.ptr c 0)⟩, ⟨80, fun D => D 4, .one (.ptr c 0)⟩, ⟨81, fun D => D 5, .one (.ptr c 0)⟩, ⟨82, fun D => D 6, .one (.ptr c 11)⟩, ⟨83, fun D => D 7, .one (.iv (.lst 1 m A))⟩, ⟨84, fun D => (D 8 && !D 13), .one (.slc i8 0 m 1)⟩, ⟨85, fun D => D 9, .one (.iv (.g (.int .i64 (p : Int))))⟩, ⟨86, fun D => D 10, .one (.ptr r 1)⟩, ⟨87, fun D => D 11, .one (.iv (.g (.int .i64 x)))⟩, ⟨88, fun D => D 12, .one (.slc i12 0 1 1)⟩, ⟨89, fun D => D 13, .one (.slc i8 0 (m + 1) 1)⟩, ⟨90, fun D => D 14, .one (.ptr c 0)⟩, ⟨91, fun D => D 15, .one (.ptr c 0)⟩, ⟨92, fun D => D 16, .one (.ptr c 12)⟩, ⟨93, fun D => D 18, .one (.ptr c 0)⟩, ⟨94, fun D => D 19, .one (.ptr c 0)⟩, ⟨95, fun D => D 20, .one (.ptr c 11)⟩]
def mW (c i8 m : Nat) (f8 : CV) (cs : List CV) (D : Nat -> Bool) : List CV := bif D 21 then (cs.take 12 ++ [f8] ++ cs.drop 13).take 11 ++ [.slc i8 0 (m + 1) 1] ++ (cs.take 12 ++ [f8] ++ cs.drop 13).drop 12 else bif D 17 then cs.take 12 ++ [f8] ++ cs.drop 13 else cs
def gY (H0 : List (Option (List CV))) (c i8 i12 m p : Nat) (x : Int) (f8 : CV) (cs : List CV) (zs : List Int) (D : Nat -> Bool) : List (Option (List CV)) :=
  (fun H => bif D 12 then hset H i12 [.iv (.g (.int .i64 x))] else H) ((fun H => bif D 8 then hset H i8 (bif D 13 then dY (lK zs p x) else dY zs) else H) (hset H0 c (mW c i8 m f8 cs D)))
theorem dQ (H0 : List (Option (List CV))) (c i8 i12 m p : Nat) (x : Int) (f8 : CV) (cs : List CV) (zs : List Int) (D : Nat -> Bool) (q : Nat) : hget (gY H0 c i8 i12 m p x f8 cs zs D) q = if D 12 = true /\ q = i12 then some [.iv (.g (.int .i64 x))] else if D 8 = true /\ q = i8 then some (bif D 13 then dY (lK zs p x) else dY zs) else if q = c then some (mW c i8 m f8 cs D) else hget H0 q := by
  have g : ∀ (H : List (Option (List CV))) (n k : Nat) (y : List CV), hget (hset H n y) k = if k = n then some y else hget H k := fun H n k y => by
    by_cases h : k = n
    · subst h; rw [if_pos rfl, aH]
    · rw [if_neg h, aJ _ _ _ _ h]
  unfold gY
  cases D 12 <;> cases D 8 <;> simp [g]
theorem Dr (h : List (Option (List CV))) : hget h h.length = none := by simp [hget]
theorem PN {P : Program} {s : AS} {nid t ty : Nat} {d : Option Nat} {pos : String} {a : Array Edge} {y : TV} (h : s.get t = .t y) : kU P nid s.ev (hget s.heap) ⟨d, .move (.tmp t), ty, pos, a, none⟩ = some (True, .t y, .nop) := by
  unfold kU; simp only [AS.ev, h]
theorem uN {P : Program} {s : AS} {nid t k ty n i o : Nat} {d : Option Nat} {pos : String} {a : Array Edge} {cs : List CV} (hty : lD P k = some (false, n)) (h : s.get t = .t (.one (.ptr i o))) (hh : hget s.heap i = some cs) : kU P nid s.ev (hget s.heap) ⟨d, .load k (.tmp t), ty, pos, a, none⟩ = some (True /\ o < cs.length, .t (.one (cs.getD o .any)), .nop) := by
  unfold kU; simp only [AS.ev, h, hty, AV.tv, TV.dp, qh, hh, cond_false, AV.nd]
theorem MX {P : Program} {s : AS} {nid t ty i o : Nat} {d : Option Nat} {pos : String} {a : Array Edge} (h : s.get t = .t (.one (.ptr i o))) : kU P nid s.ev (hget s.heap) ⟨d, .nilCheck (.tmp t), ty, pos, a, none⟩ = some (True, .t (.one (.ptr i o)), .nop) := by
  unfold kU uO; simp only [AS.ev, h, AV.tv, ncF, AV.nd]
theorem tT {P : Program} {s : AS} {nid t k f ty i o off : Nat} {d : Option Nat} {pos : String} {a : Array Edge} (hty : dF P k f = some off) (h : s.get t = .t (.one (.ptr i o))) : kU P nid s.ev (hget s.heap) ⟨d, .fieldAddr k (.tmp t) f, ty, pos, a, none⟩ = some (True /\ True, .t (.one (.ptr i (o + off))), .nop) := by
  unfold kU; simp only [AS.ev, h, hty, AV.tv, TV.dp, Eb, AV.nd]
theorem J4 {P : Program} {s : AS} {nid t u k ty i o : Nat} {ag : Bool} {pos : String} {a : Array Edge} {y : CV} {cs : List CV} (hty : lD P k = some (ag, 1)) (h : s.get t = .t (.one (.ptr i o))) (hu : s.get u = .t (.one y)) (hh : hget s.heap i = some cs) : kU P nid s.ev (hget s.heap) ⟨none, .store k (.tmp t) (.tmp u), ty, pos, a, none⟩ = some (True /\ True /\ ([y].length = 1 /\ o + 1 <= cs.length /\ 0 < 1), .any, .set i (cs.take o ++ [y] ++ cs.drop (o + 1))) := by
  unfold kU; simp only [AS.ev, h, hu, hty, AV.tv, TV.dp, oO, hh, AV.nd, TV.cells]
theorem ak3 {s : AS} {nid t ty : Nat} {d : Option Nat} {pos : String} {a : Array Edge} {y : CV} (h : s.get t = .t (.one y)) : kU Tryz.prog nid s.ev (hget s.heap) ⟨d, .buildSlice 36 1 #[(0, .tmp t)], ty, pos, a, none⟩ = some (True /\ True, .t (.one (.slc nid 0 1 1)), .new [y]) := by
  have e1 : rP Tryz.prog 36 = some (1, 8, 3) := by kernel_rfl
  have e2 : fO Tryz.prog 3 = some [.iv (.g (.int .i64 0))] := by kernel_rfl
  unfold kU; simp [AS.ev, h, e1, e2, AV.tv, AV.nd, jF, nT, r9, TV.cells]
theorem PK {D : Nat -> Bool} {i t0 : Nat} {E0 : List (Nat × AV)} (h0 : mK i E0 = E0) : ∀ (tb : List En), (∀ e, e ∈ tb -> e.t ≠ t0 -> e.c D = true -> (AV.t e.x).bU i = .t e.x) -> ∀ t, t ≠ t0 -> (lk (j5 tb D ++ E0) t).bU i = lk (j5 tb D ++ E0) t
  | [], _, t, _ => by
    show (lk E0 t).bU i = lk E0 t
    rw [<- kQ, h0]
  | e :: l, h, t, ht => by
    show (lk ((e.t, _) :: (j5 l D ++ E0)) t).bU i = lk ((e.t, _) :: (j5 l D ++ E0)) t
    simp only [lk]
    by_cases hte : t = e.t
    · rw [if_pos hte]
      cases hc : e.c D with
      | false => rfl
      | true => rw [cond_true, h e (List.mem_cons_self ..) (by omega) hc]
    · rw [if_neg hte]
      exact PK h0 l (fun e' h' => h e' (List.mem_cons_of_mem _ h')) t ht
theorem Uu {P : Program} {s : AS} {t k ty : Nat} {d : Option Nat} {pos : String} {a : Array Edge} {tys : Array TypeId} {y : TV} {K : AS -> Prop} {r : AV} {H' : List (Option (List CV))} (h : s.get t = .t y) (hf : aM P k = true) (hc : iD P k [y] s.heap r H') (hk : K ({ s with heap := H' }.put d r)) : ze P ⟨d, .call ⟨.value (.func k), #[.tmp t], tys⟩, ty, pos, a, none⟩ s K := by
  refine Or.inl ?_
  unfold ug
  simp only [AS.ev, eu, kD, List.size_toArray, List.length_nil, and_self, if_true, kG, h, AV.tv]
  exact Or.inr ⟨hf, ⟨trivial, trivial⟩, Or.inr ⟨r, H', hc, hk⟩⟩
def anJ : AV -> Bool
  | .any => true
  | _ => false
theorem aiv {x : AV} (h : anJ x = true) : x = .any := by cases x <;> first | rfl | cases h
abbrev jf (E0 : List (Nat × AV)) (H0 : List (Option (List CV))) (N : Nat) (g : List (Nat × List (Nat × AV))) (lp : LP) (c r i8 i12 m p : Nat) (x : Int) (f8 : CV) (A : Nat -> Nat -> IV) (cs : List CV) (zs : List Int) (D : Nat -> Bool) : AS := ⟨j5 (fC c r i8 i12 m p x f8 A) D ++ E0, gY H0 c i8 i12 m p x f8 cs zs D, N, g, lp⟩
theorem Bl {H0 : List (Option (List CV))} {c i8 i12 m p : Nat} {x : Int} {f8 : CV} {cs : List CV} {zs : List Int} {D D' : Nat -> Bool} (h : D' 8 = D 8 /\ D' 12 = D 12 /\ D' 13 = D 13 /\ D' 17 = D 17 /\ D' 21 = D 21) : gY H0 c i8 i12 m p x f8 cs zs D' = gY H0 c i8 i12 m p x f8 cs zs D := by
  unfold gY mW; rw [h.1, h.2.1, h.2.2.1, h.2.2.2.1, h.2.2.2.2]
set_option maxRecDepth 10000 in
set_option maxHeartbeats 4000000 in
theorem Wh {E0 : List (Nat × AV)} {H0 : List (Option (List CV))} {N : Nat} {g : List (Nat × List (Nat × AV))} {lp : LP} {Q : Exit -> AS -> Prop} {id : Nat} {s0 s1 s2 s3 s4 s5 s6 s7 s8 s9 s10 s11 s12 s13 s14 s15 s16 s17 s18 s19 s20 s21 : String} {a0 a1 a2 a3 a4 a5 a6 a7 a8 a9 a10 a11 a12 a13 a14 a15 a16 a17 a18 a19 a20 a21 : Array Edge} {b p m c r : Nat} {x : Int} {f8 : CV} {cs rs : List CV} {A : Nat -> Nat -> IV} {zs : List Int} {ops : Array Oper} (i8 i12 : Nat) (ho : ops = #[⟨some 76, .load 131 (Operand.tmp 2), 131, s0, a0, none⟩, ⟨some 77, .load 131 (Operand.tmp 2), 131, s1, a1, none⟩, ⟨some 78, .move (Operand.tmp 8), 37, s2, a2, none⟩, ⟨some 79, .load 131 (Operand.tmp 2), 131, s3, a3, none⟩, ⟨some 80, .nilCheck (Operand.tmp 79), 0, s4, a4, none⟩, ⟨some 81, .fieldAddr 94 (Operand.tmp 80) 0, 0, s5, a5, none⟩, ⟨some 82, .fieldAddr 39 (Operand.tmp 81) 5, 0, s6, a6, none⟩, ⟨some 83, .load 36 (Operand.tmp 82), 36, s7, a7, none⟩, ⟨some 84, .call ⟨.value (.func 102), #[(Operand.tmp 83)], #[36]⟩, 36, s8, a8, none⟩, ⟨some 85, .move (Operand.tmp 11), 3, s9, a9, none⟩, ⟨some 86, .fieldAddr 28 (Operand.tmp 3) 1, 0, s10, a10, none⟩, ⟨some 87, .load 3 (Operand.tmp 86), 3, s11, a11, none⟩, ⟨some 88, .buildSlice 36 1 #[(0, (Operand.tmp 87))], 36, s12, a12, none⟩, ⟨some 89, .call ⟨.value (.func 101), #[(Operand.tmp 84), (Operand.tmp 85), (Operand.tmp 88)], #[36,3,36]⟩, 36, s13, a13, none⟩, ⟨some 90, .nilCheck (Operand.tmp 76), 0, s14, a14, none⟩, ⟨some 91, .fieldAddr 94 (Operand.tmp 90) 0, 0, s15, a15, none⟩, ⟨some 92, .fieldAddr 39 (Operand.tmp 91) 6, 0, s16, a16, none⟩, ⟨none, .store 37 (Operand.tmp 92) (Operand.tmp 78), 0, s17, a17, none⟩, ⟨some 93, .nilCheck (Operand.tmp 77), 0, s18, a18, none⟩, ⟨some 94, .fieldAddr 94 (Operand.tmp 93) 0, 0, s19, a19, none⟩, ⟨some 95, .fieldAddr 39 (Operand.tmp 94) 5, 0, s20, a20, none⟩, ⟨none, .store 36 (Operand.tmp 95) (Operand.tmp 89), 0, s21, a21, none⟩])
    (h2 : lk E0 2 = .t (.one (.ptr b 0))) (hb : hget H0 b = some [.ptr c 0]) (hc : hget H0 c = some cs) (hcl : cs.length = 13) (hcd : cs.getD 11 .any = .iv (.lst 1 m A)) (h8 : lk E0 8 = .t (.one f8)) (hf8 : (AV.t (.one f8)).bU i8 = .t (.one f8))
    (h11 : lk E0 11 = .t (.one (.iv (.g (.int .i64 (p : Int)))))) (h3 : lk E0 3 = .t (.one (.ptr r 0))) (hr : hget H0 r = some rs) (hrs : rs.getD 1 .any = .iv (.g (.int .i64 x)) /\ 1 < rs.length /\ r ≠ c) (n8 : hget H0 i8 = none) (n12 : hget H0 i12 = none) (n812 : i8 ≠ i12)
    (hm : m <= 1000) (hz : eO A 1 m 0 = dY zs) (hzl : zs.length = m) (hp : p <= m) (pE : mK i8 E0 = E0) (pG : qC i8 g = g) (pH : kX i8 H0 = H0) (pC : ig i8 cs = cs) (hN : 96 <= N) (hE : [76,77,78,79,80,81,82,83,84,85,86,87,88,89,90,91,92,93,94,95].all (fun t => anJ (lk E0 t)) = true)
    (hm' : Tryz.prog.follows .mixedOrders = true) (hback : qK .any ops = true) (hd : jh ops = true) (hchk : ([(4, 3), (5, 4), (6, 5), (7, 6), (8, 7), (11, 10), (12, 11), (13, 8), (13, 9), (13, 12), (14, 0), (14, 13), (15, 14), (16, 15), (17, 16), (17, 2), (17, 13), (17, 8), (18, 1), (18, 17), (19, 18), (20, 19), (21, 20), (21, 13), (21, 17), (21, 8), (17, 7), (21, 7), (13, 8), (21, 17), (17, 13), (21, 13)].all (adu ops)) = true)
    (hQ : Q .normal ⟨E0, gY H0 c i8 i12 m p x f8 cs zs (fun _ => true), N, g, lp⟩) : AW Tryz.prog (.region id ops true) ⟨E0, H0, N, g, lp⟩ Q := by
  have t122 : lD Tryz.prog 131 = some (false, 1) := by kernel_rfl
  have t24 : lD Tryz.prog 36 = some (false, 1) := by kernel_rfl
  have t25 : lD Tryz.prog 37 = some (false, 1) := by kernel_rfl
  have t3 : lD Tryz.prog 3 = some (false, 1) := by kernel_rfl
  have o79 : dF Tryz.prog 94 0 = some 0 := by kernel_rfl
  have o275 : dF Tryz.prog 39 5 = some 11 := by kernel_rfl
  have o276 : dF Tryz.prog 39 6 = some 12 := by kernel_rfl
  have o30 : dF Tryz.prog 28 1 = some 1 := by kernel_rfl
  have bc : b ≠ c := by rintro rfl; rw [hb] at hc; cases hc; simp at hcl
  have b8 : b ≠ i8 := by rintro rfl; rw [hb] at n8; cases n8
  have b12 : b ≠ i12 := by rintro rfl; rw [hb] at n12; cases n12
  have c8 : c ≠ i8 := by rintro rfl; rw [hc] at n8; cases n8
  have c12 : c ≠ i12 := by rintro rfl; rw [hc] at n12; cases n12
  have r8 : r ≠ i8 := by rintro rfl; rw [hr] at n8; cases n8
  have r12 : r ≠ i12 := by rintro rfl; rw [hr] at n12; cases n12
  have gb : ∀ D, hget (gY H0 c i8 i12 m p x f8 cs zs D) b = some [.ptr c 0] := fun D => by rw [dQ, if_neg (fun h => b12 h.2), if_neg (fun h => b8 h.2), if_neg bc, hb]
  have gr : ∀ D, hget (gY H0 c i8 i12 m p x f8 cs zs D) r = some rs := fun D => by rw [dQ, if_neg (fun h => r12 h.2), if_neg (fun h => r8 h.2), if_neg hrs.2.2, hr]
  have gc : ∀ D, hget (gY H0 c i8 i12 m p x f8 cs zs D) c = some (mW c i8 m f8 cs D) := fun D => by rw [dQ, if_neg (fun h => c12 h.2), if_neg (fun h => c8 h.2), if_pos rfl]
  have hlen : ops.size = 22 := by rw [ho]; rfl
  have anc : ∀ i k, (i, k) ∈ [(4, 3), (5, 4), (6, 5), (7, 6), (8, 7), (11, 10), (12, 11), (13, 8), (13, 9), (13, 12), (14, 0), (14, 13), (15, 14), (16, 15), (17, 16), (17, 2), (17, 13), (17, 8), (18, 1), (18, 17), (19, 18), (20, 19), (21, 20), (21, 13), (21, 17), (21, 8), (17, 7), (21, 7), (13, 8), (21, 17), (17, 13), (21, 13)] -> adu ops (i, k) = true := fun i k h => List.all_eq_true.1 hchk _ h
  have put : ∀ (i t0 : Nat) (x0 : TV) (D : Nat -> Bool) (o : Oper) (nd : Prop), o.guard = none -> (∀ c, o.op ≠ .defer c) -> o.dst = some t0 -> t0 < 96 -> kU Tryz.prog (gY H0 c i8 i12 m p x f8 cs zs D).length (jf E0 H0 N g lp c r i8 i12 m p x f8 A cs zs D).ev (hget (gY H0 c i8 i12 m p x f8 cs zs D)) o = some (nd, .t x0, .nop) -> nd ->
      (∀ e, e ∈ fC c r i8 i12 m p x f8 A -> if e.t = t0 then e.x = x0 else (e.c (upd D i) = true -> e.c D = true)) -> t0 ∈ (fC c r i8 i12 m p x f8 A).map (·.t) -> ((upd D i) 8 = D 8 /\ (upd D i) 12 = D 12 /\ (upd D i) 13 = D 13 /\ (upd D i) 17 = D 17 /\ (upd D i) 21 = D 21) ->
      Ul Tryz.prog o (jf E0 H0 N g lp c r i8 i12 m p x f8 A cs zs D) (jf E0 H0 N g lp c r i8 i12 m p x f8 A cs zs (upd D i)) := fun i t0 x0 D o nd hg hdf hdst hlt hop hn ht hin hh =>
    H8 hg hdf (Dr _) (by rw [hdst]; show t0 < N; omega) hop hn (by
      rw [hdst]
      exact kH rfl rfl rfl (fun t => zU (E0 := E0) (fC c r i8 i12 m p x f8 A) ht hin t) fun q => by
        show hget (gY H0 c i8 i12 m p x f8 cs zs (upd D i)) q = hget (gY H0 c i8 i12 m p x f8 cs zs D) q
        rw [Bl hh])
  have c8b : (c == i8) = false := by simp [c8]
  have r8b : (r == i8) = false := by simp [r8]
  have i12b : (i12 == i8) = false := by simp [Ne.symm n812]
  have g2 : ∀ D, (jf E0 H0 N g lp c r i8 i12 m p x f8 A cs zs D).get 2 = .t (.one (.ptr b 0)) := fun D => h2
  refine Md (fun D => jf E0 H0 N g lp c r i8 i12 m p x f8 A cs zs D) hm' hback hd ?_ ?_ ?_
  · refine kH rfl rfl rfl (ags _ (by simp [fC])) fun q => ?_
    show hget (gY H0 c i8 i12 m p x f8 cs zs (fun _ => false)) q = hget H0 q
    rw [dQ, if_neg (by simp), if_neg (by simp)]
    by_cases h : q = c
    · subst h; rw [if_pos rfl, hc]; rfl
    · rw [if_neg h]
  · intro i o hio D hcl hDi hpre
    have hi : i < 22 := by rw [<- hlen]; exact (Array.getElem?_eq_some_iff.1 hio).1
    have hio' := hio
    rw [ho] at hio'
    have at_ : ∀ k, (i, k) ∈ [(4, 3), (5, 4), (6, 5), (7, 6), (8, 7), (11, 10), (12, 11), (13, 8), (13, 9), (13, 12), (14, 0), (14, 13), (15, 14), (16, 15), (17, 16), (17, 2), (17, 13), (17, 8), (18, 1), (18, 17), (19, 18), (20, 19), (21, 20), (21, 13), (21, 17), (21, 8), (17, 7), (21, 7), (13, 8), (21, 17), (17, 13), (21, 13)] -> D k = true := fun k h => alz hcl hio hpre (anc i k h)
    have af_ : ∀ k, k < 22 -> (k, i) ∈ [(4, 3), (5, 4), (6, 5), (7, 6), (8, 7), (11, 10), (12, 11), (13, 8), (13, 9), (13, 12), (14, 0), (14, 13), (15, 14), (16, 15), (17, 16), (17, 2), (17, 13), (17, 8), (18, 1), (18, 17), (19, 18), (20, 19), (21, 20), (21, 13), (21, 17), (21, 8), (17, 7), (21, 7), (13, 8), (21, 17), (17, 13), (21, 13)] -> D k = false := fun k hk h => ak2 hcl hDi (by omega) (anc k i h)
    clear hio hpre hcl
    rcases (by omega : i = 0 \/ i = 1 \/ i = 2 \/ i = 3 \/ i = 4 \/ i = 5 \/ i = 6 \/ i = 7 \/ i = 8 \/ i = 9 \/ i = 10 \/ i = 11 \/ i = 12 \/ i = 13 \/ i = 14 \/ i = 15 \/ i = 16 \/ i = 17 \/ i = 18 \/ i = 19 \/ i = 20 \/ i = 21) with rfl | rfl | rfl | rfl | rfl | rfl | rfl | rfl | rfl | rfl | rfl | rfl | rfl | rfl | rfl | rfl | rfl | rfl | rfl | rfl | rfl | rfl
    · obtain rfl := Option.some.inj hio'
      exact put 0 76 (.one (.ptr c 0)) D _ _ rfl (fun c e => by cases e) rfl (by omega) (uN (s := jf E0 H0 N g lp c r i8 i12 m p x f8 A cs zs D) t122 (g2 D) (gb D)) (And.intro trivial (by simp)) (by intro e he; simp only [fC, List.mem_cons, List.not_mem_nil, or_false] at he; rcases he with rfl | rfl | rfl | rfl | rfl | rfl | rfl | rfl | rfl | rfl | rfl | rfl | rfl | rfl | rfl | rfl | rfl | rfl | rfl | rfl <;> simp [upd]) (by simp [fC]) (by simp [upd])
    · obtain rfl := Option.some.inj hio'
      exact put 1 77 (.one (.ptr c 0)) D _ _ rfl (fun c e => by cases e) rfl (by omega) (uN (s := jf E0 H0 N g lp c r i8 i12 m p x f8 A cs zs D) t122 (g2 D) (gb D)) (And.intro trivial (by simp)) (by intro e he; simp only [fC, List.mem_cons, List.not_mem_nil, or_false] at he; rcases he with rfl | rfl | rfl | rfl | rfl | rfl | rfl | rfl | rfl | rfl | rfl | rfl | rfl | rfl | rfl | rfl | rfl | rfl | rfl | rfl <;> simp [upd]) (by simp [fC]) (by simp [upd])
    · obtain rfl := Option.some.inj hio'
      exact put 2 78 (.one f8) D _ _ rfl (fun c e => by cases e) rfl (by omega) (PN h8) trivial (by intro e he; simp only [fC, List.mem_cons, List.not_mem_nil, or_false] at he; rcases he with rfl | rfl | rfl | rfl | rfl | rfl | rfl | rfl | rfl | rfl | rfl | rfl | rfl | rfl | rfl | rfl | rfl | rfl | rfl | rfl <;> simp [upd]) (by simp [fC]) (by simp [upd])
    · obtain rfl := Option.some.inj hio'
      exact put 3 79 (.one (.ptr c 0)) D _ _ rfl (fun c e => by cases e) rfl (by omega) (uN (s := jf E0 H0 N g lp c r i8 i12 m p x f8 A cs zs D) t122 (g2 D) (gb D)) (And.intro trivial (by simp)) (by intro e he; simp only [fC, List.mem_cons, List.not_mem_nil, or_false] at he; rcases he with rfl | rfl | rfl | rfl | rfl | rfl | rfl | rfl | rfl | rfl | rfl | rfl | rfl | rfl | rfl | rfl | rfl | rfl | rfl | rfl <;> simp [upd]) (by simp [fC]) (by simp [upd])
    · obtain rfl := Option.some.inj hio'
      have k3 := at_ 3 (by decide)
      have g79 : (jf E0 H0 N g lp c r i8 i12 m p x f8 A cs zs D).get 79 = .t (.one (.ptr c 0)) := by show (bif D 3 then AV.t _ else .any) = _; rw [k3]; rfl
      exact put 4 80 (.one (.ptr c 0)) D _ _ rfl (fun c e => by cases e) rfl (by omega) (MX g79) trivial (by intro e he; simp only [fC, List.mem_cons, List.not_mem_nil, or_false] at he; rcases he with rfl | rfl | rfl | rfl | rfl | rfl | rfl | rfl | rfl | rfl | rfl | rfl | rfl | rfl | rfl | rfl | rfl | rfl | rfl | rfl <;> simp [upd]) (by simp [fC]) (by simp [upd])
    · obtain rfl := Option.some.inj hio'
      have k4 := at_ 4 (by decide)
      have g80 : (jf E0 H0 N g lp c r i8 i12 m p x f8 A cs zs D).get 80 = .t (.one (.ptr c 0)) := by show (bif D 4 then AV.t _ else .any) = _; rw [k4]; rfl
      exact put 5 81 (.one (.ptr c 0)) D _ _ rfl (fun c e => by cases e) rfl (by omega) (tT o79 g80) ⟨trivial, trivial⟩ (by intro e he; simp only [fC, List.mem_cons, List.not_mem_nil, or_false] at he; rcases he with rfl | rfl | rfl | rfl | rfl | rfl | rfl | rfl | rfl | rfl | rfl | rfl | rfl | rfl | rfl | rfl | rfl | rfl | rfl | rfl <;> simp [upd]) (by simp [fC]) (by simp [upd])
    · obtain rfl := Option.some.inj hio'
      have k5 := at_ 5 (by decide)
      have g81 : (jf E0 H0 N g lp c r i8 i12 m p x f8 A cs zs D).get 81 = .t (.one (.ptr c 0)) := by show (bif D 5 then AV.t _ else .any) = _; rw [k5]; rfl
      exact put 6 82 (.one (.ptr c 11)) D _ _ rfl (fun c e => by cases e) rfl (by omega) (tT o275 g81) ⟨trivial, trivial⟩ (by intro e he; simp only [fC, List.mem_cons, List.not_mem_nil, or_false] at he; rcases he with rfl | rfl | rfl | rfl | rfl | rfl | rfl | rfl | rfl | rfl | rfl | rfl | rfl | rfl | rfl | rfl | rfl | rfl | rfl | rfl <;> simp [upd]) (by simp [fC]) (by simp [upd])
    · obtain rfl := Option.some.inj hio'
      have k6 := at_ 6 (by decide)
      have f17 := af_ 17 (by omega) (by decide)
      have f21 := af_ 21 (by omega) (by decide)
      have g82 : (jf E0 H0 N g lp c r i8 i12 m p x f8 A cs zs D).get 82 = .t (.one (.ptr c 11)) := by show (bif D 6 then AV.t _ else .any) = _; rw [k6]; rfl
      have gc' : hget (gY H0 c i8 i12 m p x f8 cs zs D) c = some cs := (gc D).trans (by unfold mW; rw [f21, f17]; rfl)
      have ev := fun n => uN (s := jf E0 H0 N g lp c r i8 i12 m p x f8 A cs zs D) (nid := n) (d := some 83) (ty := 36) (pos := s7) (a := a7) t24 g82 gc'
      rw [hcd] at ev
      exact put 7 83 (.one (.iv (.lst 1 m A))) D _ _ rfl (fun c e => by cases e) rfl (by omega) (ev _) (And.intro trivial (by rw [hcl]; omega)) (by intro e he; simp only [fC, List.mem_cons, List.not_mem_nil, or_false] at he; rcases he with rfl | rfl | rfl | rfl | rfl | rfl | rfl | rfl | rfl | rfl | rfl | rfl | rfl | rfl | rfl | rfl | rfl | rfl | rfl | rfl <;> simp [upd]) (by simp [fC]) (by simp [upd])
    · obtain rfl := Option.some.inj hio'
      have k7 := at_ 7 (by decide)
      have f13 := af_ 13 (by omega) (by decide)
      have g83 : (jf E0 H0 N g lp c r i8 i12 m p x f8 A cs zs D).get 83 = .t (.one (.iv (.lst 1 m A))) := by show (bif D 7 then AV.t _ else .any) = _; rw [k7]; rfl
      have hA : ∀ q, hget (gY H0 c i8 i12 m p x f8 cs zs (upd D 8)) q = hget (hset (gY H0 c i8 i12 m p x f8 cs zs D) i8 (eO A 1 m 0)) q := fun q => by
        by_cases hq : q = i8
        · subst hq; rw [aH, dQ]; rw [if_neg (fun h => n812 h.2), if_pos (by simp [upd]), hz, show (upd D 8) 13 = D 13 from rfl, f13]; rfl
        · rw [aJ _ _ _ _ hq, dQ, dQ]; simp [upd, hq, mW]
      refine ⟨rfl, fun w0 Z0 a w K Q n ⟨J, Z, R⟩ hK => iV R (by show 84 < N; omega) (K := fun s' => EU s' (jf E0 H0 N g lp c r i8 i12 m p x f8 A cs zs (upd D 8))) (Uu g83 (by kernel_rfl) (acz m A hm _ i8 ?_) ?_) fun s' a' w' R' hk => hK _ _ (hk _ _ _ _ R')⟩
      · show hget (gY H0 c i8 i12 m p x f8 cs zs D) i8 = none
        rw [dQ, if_neg (fun h => n812 h.2), if_neg (by rw [hDi]; simp), if_neg (Ne.symm c8), n8]
      · refine kH rfl rfl rfl (fun t => zU (t0 := 84) (x0 := .one (.slc i8 0 m 1)) (E0 := E0) (D := D) (D' := upd D 8) (fC c r i8 i12 m p x f8 A) (by intro e he; simp only [fC, List.mem_cons, List.not_mem_nil, or_false] at he; rcases he with rfl | rfl | rfl | rfl | rfl | rfl | rfl | rfl | rfl | rfl | rfl | rfl | rfl | rfl | rfl | rfl | rfl | rfl | rfl | rfl <;> simp [upd]) (by simp [fC]) t) hA
    · obtain rfl := Option.some.inj hio'
      exact put 9 85 (.one (.iv (.g (.int .i64 (p : Int))))) D _ _ rfl (fun c e => by cases e) rfl (by omega) (PN h11) trivial (by intro e he; simp only [fC, List.mem_cons, List.not_mem_nil, or_false] at he; rcases he with rfl | rfl | rfl | rfl | rfl | rfl | rfl | rfl | rfl | rfl | rfl | rfl | rfl | rfl | rfl | rfl | rfl | rfl | rfl | rfl <;> simp [upd]) (by simp [fC]) (by simp [upd])
    · obtain rfl := Option.some.inj hio'
      exact put 10 86 (.one (.ptr r 1)) D _ _ rfl (fun c e => by cases e) rfl (by omega) (tT o30 h3) ⟨trivial, trivial⟩ (by intro e he; simp only [fC, List.mem_cons, List.not_mem_nil, or_false] at he; rcases he with rfl | rfl | rfl | rfl | rfl | rfl | rfl | rfl | rfl | rfl | rfl | rfl | rfl | rfl | rfl | rfl | rfl | rfl | rfl | rfl <;> simp [upd]) (by simp [fC]) (by simp [upd])
    · obtain rfl := Option.some.inj hio'
      have k10 := at_ 10 (by decide)
      have g86 : (jf E0 H0 N g lp c r i8 i12 m p x f8 A cs zs D).get 86 = .t (.one (.ptr r 1)) := by show (bif D 10 then AV.t _ else .any) = _; rw [k10]; rfl
      have ev := fun n => uN (s := jf E0 H0 N g lp c r i8 i12 m p x f8 A cs zs D) (nid := n) (d := some 87) (ty := 3) (pos := s11) (a := a11) t3 g86 (gr D)
      rw [hrs.1] at ev
      exact put 11 87 (.one (.iv (.g (.int .i64 x)))) D _ _ rfl (fun c e => by cases e) rfl (by omega) (ev _) (And.intro trivial hrs.2.1) (by intro e he; simp only [fC, List.mem_cons, List.not_mem_nil, or_false] at he; rcases he with rfl | rfl | rfl | rfl | rfl | rfl | rfl | rfl | rfl | rfl | rfl | rfl | rfl | rfl | rfl | rfl | rfl | rfl | rfl | rfl <;> simp [upd]) (by simp [fC]) (by simp [upd])
    · obtain rfl := Option.some.inj hio'
      have k11 := at_ 11 (by decide)
      have g87 : (jf E0 H0 N g lp c r i8 i12 m p x f8 A cs zs D).get 87 = .t (.one (.iv (.g (.int .i64 x)))) := by show (bif D 11 then AV.t _ else .any) = _; rw [k11]; rfl
      have hA : ∀ q, hget (gY H0 c i8 i12 m p x f8 cs zs (upd D 12)) q = hget (hset (gY H0 c i8 i12 m p x f8 cs zs D) i12 [.iv (.g (.int .i64 x))]) q := fun q => by
        by_cases hq : q = i12
        · subst hq; rw [aH, dQ]; rw [if_pos (by simp [upd])]
        · rw [aJ _ _ _ _ hq, dQ, dQ]; simp [upd, hq, mW]
      refine H8 (nid := i12) rfl (fun c e => by cases e) ?_ (by show 88 < N; omega) (ak3 g87) ⟨trivial, trivial⟩ (kH rfl rfl rfl (fun t => zU (t0 := 88) (x0 := .one (.slc i12 0 1 1)) (E0 := E0) (D := D) (D' := upd D 12) (fC c r i8 i12 m p x f8 A) (by intro e he; simp only [fC, List.mem_cons, List.not_mem_nil, or_false] at he; rcases he with rfl | rfl | rfl | rfl | rfl | rfl | rfl | rfl | rfl | rfl | rfl | rfl | rfl | rfl | rfl | rfl | rfl | rfl | rfl | rfl <;> simp [upd]) (by simp [fC]) t) hA)
      show hget (gY H0 c i8 i12 m p x f8 cs zs D) i12 = none
      rw [dQ, if_neg (by rw [hDi]; simp), if_neg (fun h => n812 h.2.symm), if_neg (Ne.symm c12), n12]
    · obtain rfl := Option.some.inj hio'
      have k8 := at_ 8 (by decide)
      have k9 := at_ 9 (by decide)
      have k12 := at_ 12 (by decide)
      have f17 := af_ 17 (by omega) (by decide)
      have f21 := af_ 21 (by omega) (by decide)
      have hi8 : hget (gY H0 c i8 i12 m p x f8 cs zs D) i8 = some (dY zs) := by rw [dQ, if_neg (fun h => n812 h.2), if_pos ⟨k8, rfl⟩, hDi]; rfl
      have hi12 : hget (gY H0 c i8 i12 m p x f8 cs zs D) i12 = some [.iv (.g (.int .i64 x))] := by rw [dQ, if_pos ⟨k12, rfl⟩]
      have g84 : (jf E0 H0 N g lp c r i8 i12 m p x f8 A cs zs D).get 84 = .t (.one (.slc i8 0 zs.length 1)) := by show (bif (D 8 && !D 13) then AV.t _ else .any) = _; rw [k8, hDi, hzl]; rfl
      have g85 : (jf E0 H0 N g lp c r i8 i12 m p x f8 A cs zs D).get 85 = .t (.one (.iv (.g (.int .i64 (p : Int))))) := by show (bif D 9 then AV.t _ else .any) = _; rw [k9]; rfl
      have g88 : (jf E0 H0 N g lp c r i8 i12 m p x f8 A cs zs D).get 88 = .t (.one (.slc i12 0 1 1)) := by show (bif D 12 then AV.t _ else .any) = _; rw [k12]; rfl
      refine ⟨rfl, fun w0 Z0 a w K Q n ⟨J, Z, R⟩ hK => eD (d9 _) (fun c e => by cases e) (je (jg rfl (iC R (show eu ((jf E0 H0 N g lp c r i8 i12 m p x f8 A cs zs D).ev (.func 101)) = .pure 101 from rfl)) (by kernel_rfl)) ?_)⟩
      simp only [Array.empty_append, Array.append_empty]
      have hargs : aO (bQ w J Z) ((#[Operand.tmp 84, Operand.tmp 85, Operand.tmp 88] : Array Operand).map a.eval).toList [.one (.slc i8 0 zs.length 1), .one (.iv (.g (.int .i64 (p : Int)))), .one (.slc i12 0 1 1)] := by
        simp only [Array.toList_map]; exact ng R (l := [.tmp 84, .tmp 85, .tmp 88]) (nd := True /\ True /\ True /\ True) (by simp only [kG, AS.ev, g84, g85, g88, AV.tv, AV.nd]) ⟨trivial, trivial, trivial, trivial⟩
      refine (amk R hi8 hi12 n812 (by omega) (by omega) hargs).mono fun e w' ⟨v, J', he, R', hr⟩ => ⟨v, he, hK _ _ ?_⟩
      rw [hzl] at hr
      have R2 := R'.put (d := some 89) (fun k e => by cases e; show 89 < N; omega) hr
      have tt : EU (((jf E0 H0 N g lp c r i8 i12 m p x f8 A cs zs D).qQ 0 (.app i8 (dY (lK zs p x)))).put (some 89) (.t (.one (.slc i8 0 (m + 1) 1)))) (jf E0 H0 N g lp c r i8 i12 m p x f8 A cs zs (upd D 13)) := by
        refine kH rfl pG.symm rfl (fun t => ?_) (fun q => ?_)
        · rcases zU (t0 := 89) (x0 := .one (.slc i8 0 (m + 1) 1)) (E0 := E0) (D := D) (D' := upd D 13) (fC c r i8 i12 m p x f8 A) (by intro e he; simp only [fC, List.mem_cons, List.not_mem_nil, or_false] at he; rcases he with rfl | rfl | rfl | rfl | rfl | rfl | rfl | rfl | rfl | rfl | rfl | rfl | rfl | rfl | rfl | rfl | rfl | rfl | rfl | rfl <;> simp [upd]) (by simp [fC]) t with h | h
          · left
            show lk (j5 (fC c r i8 i12 m p x f8 A) (upd D 13) ++ E0) t = lk ((89, _) :: mK i8 (j5 (fC c r i8 i12 m p x f8 A) D ++ E0)) t
            by_cases ht : t = 89
            · subst ht; rw [h]; rfl
            · have hp := PK (D := upd D 13) (t0 := 89) pE (fC c r i8 i12 m p x f8 A) (by intro e he; simp only [fC, List.mem_cons, List.not_mem_nil, or_false] at he; rcases he with rfl | rfl | rfl | rfl | rfl | rfl | rfl | rfl | rfl | rfl | rfl | rfl | rfl | rfl | rfl | rfl | rfl | rfl | rfl | rfl <;> first | (intro _ _; exact hf8) | (intro h; exact absurd rfl h) | (simp [upd]; done) | (intro _ _; simp [AV.bU, AV.has, TV.has, CV.has, c8b, r8b, i12b])) t ht
              simp only [lk, if_neg ht] at h ⊢
              rw [kQ, <- h, hp]
          · exact Or.inr h
        · show hget (gY H0 c i8 i12 m p x f8 cs zs (upd D 13)) q = hget (hset (kX i8 (gY H0 c i8 i12 m p x f8 cs zs D)) i8 (dY (lK zs p x))) q
          by_cases hq : q = i8
          · subst hq; rw [aH, dQ, if_neg (fun h => n812 h.2), if_pos ⟨k8, rfl⟩]; rfl
          · rw [aJ _ _ _ _ hq, gJ, dQ, dQ]
            by_cases h12 : q = i12
            · rw [if_pos ⟨k12, h12⟩, if_pos ⟨k12, h12⟩]; rfl
            · simp only [h12, hq, and_false, if_false]
              by_cases hqc : q = c
              · rw [if_pos hqc, if_pos hqc]
                have e1 : mW c i8 m f8 cs (upd D 13) = cs := by unfold mW; rw [show (upd D 13) 21 = D 21 from rfl, show (upd D 13) 17 = D 17 from rfl, f21, f17]; rfl
                have e2 : mW c i8 m f8 cs D = cs := by unfold mW; rw [f21, f17]; rfl
                rw [e1, e2, Option.map_some, pC]
              · rw [if_neg hqc, if_neg hqc, <- gJ, pH]
      exact tt _ _ _ _ ⟨J', Z, R2⟩
    · obtain rfl := Option.some.inj hio'
      have k0 := at_ 0 (by decide)
      have k13 := at_ 13 (by decide)
      have g76 : (jf E0 H0 N g lp c r i8 i12 m p x f8 A cs zs D).get 76 = .t (.one (.ptr c 0)) := by show (bif D 0 then AV.t _ else .any) = _; rw [k0]; rfl
      exact put 14 90 (.one (.ptr c 0)) D _ _ rfl (fun c e => by cases e) rfl (by omega) (MX g76) trivial (by intro e he; simp only [fC, List.mem_cons, List.not_mem_nil, or_false] at he; rcases he with rfl | rfl | rfl | rfl | rfl | rfl | rfl | rfl | rfl | rfl | rfl | rfl | rfl | rfl | rfl | rfl | rfl | rfl | rfl | rfl <;> simp [upd]) (by simp [fC]) (by simp [upd])
    · obtain rfl := Option.some.inj hio'
      have k14 := at_ 14 (by decide)
      have g90 : (jf E0 H0 N g lp c r i8 i12 m p x f8 A cs zs D).get 90 = .t (.one (.ptr c 0)) := by show (bif D 14 then AV.t _ else .any) = _; rw [k14]; rfl
      exact put 15 91 (.one (.ptr c 0)) D _ _ rfl (fun c e => by cases e) rfl (by omega) (tT o79 g90) ⟨trivial, trivial⟩ (by intro e he; simp only [fC, List.mem_cons, List.not_mem_nil, or_false] at he; rcases he with rfl | rfl | rfl | rfl | rfl | rfl | rfl | rfl | rfl | rfl | rfl | rfl | rfl | rfl | rfl | rfl | rfl | rfl | rfl | rfl <;> simp [upd]) (by simp [fC]) (by simp [upd])
    · obtain rfl := Option.some.inj hio'
      have k15 := at_ 15 (by decide)
      have g91 : (jf E0 H0 N g lp c r i8 i12 m p x f8 A cs zs D).get 91 = .t (.one (.ptr c 0)) := by show (bif D 15 then AV.t _ else .any) = _; rw [k15]; rfl
      exact put 16 92 (.one (.ptr c 12)) D _ _ rfl (fun c e => by cases e) rfl (by omega) (tT o276 g91) ⟨trivial, trivial⟩ (by intro e he; simp only [fC, List.mem_cons, List.not_mem_nil, or_false] at he; rcases he with rfl | rfl | rfl | rfl | rfl | rfl | rfl | rfl | rfl | rfl | rfl | rfl | rfl | rfl | rfl | rfl | rfl | rfl | rfl | rfl <;> simp [upd]) (by simp [fC]) (by simp [upd])
    · obtain rfl := Option.some.inj hio'
      have k16 := at_ 16 (by decide)
      have k2 := at_ 2 (by decide)
      have k13 := at_ 13 (by decide)
      have k8 := at_ 8 (by decide)
      have f21 := af_ 21 (by omega) (by decide)
      have g92 : (jf E0 H0 N g lp c r i8 i12 m p x f8 A cs zs D).get 92 = .t (.one (.ptr c 12)) := by show (bif D 16 then AV.t _ else .any) = _; rw [k16]; rfl
      have g78 : (jf E0 H0 N g lp c r i8 i12 m p x f8 A cs zs D).get 78 = .t (.one f8) := by show (bif D 2 then AV.t _ else .any) = _; rw [k2]; rfl
      have gc' : hget (gY H0 c i8 i12 m p x f8 cs zs D) c = some cs := (gc D).trans (by unfold mW; rw [f21, hDi]; rfl)
      have hA : ∀ q, hget (gY H0 c i8 i12 m p x f8 cs zs (upd D 17)) q = hget (hset (gY H0 c i8 i12 m p x f8 cs zs D) c (cs.take 12 ++ [f8] ++ cs.drop 13)) q := fun q => by
        by_cases hq : q = c
        · subst hq; rw [aH, dQ]; rw [if_neg (fun h => c12 h.2), if_neg (fun h => c8 h.2), if_pos rfl]; unfold mW; rw [show (upd D 17) 21 = D 21 from rfl, f21]; rfl
        · rw [aJ _ _ _ _ hq, dQ, dQ]; rw [if_neg hq, if_neg hq]; simp [upd]
      exact H8 (nid := (gY H0 c i8 i12 m p x f8 cs zs D).length) rfl (fun c e => by cases e) (Dr _) trivial (J4 t25 g92 g78 gc') ⟨trivial, trivial, rfl, by omega, by omega⟩ (kH rfl rfl rfl (DK (fC c r i8 i12 m p x f8 A) (by intro e he; simp only [fC, List.mem_cons, List.not_mem_nil, or_false] at he; rcases he with rfl | rfl | rfl | rfl | rfl | rfl | rfl | rfl | rfl | rfl | rfl | rfl | rfl | rfl | rfl | rfl | rfl | rfl | rfl | rfl <;> simp [upd])) hA)
    · obtain rfl := Option.some.inj hio'
      have k1 := at_ 1 (by decide)
      have k17 := at_ 17 (by decide)
      have g77 : (jf E0 H0 N g lp c r i8 i12 m p x f8 A cs zs D).get 77 = .t (.one (.ptr c 0)) := by show (bif D 1 then AV.t _ else .any) = _; rw [k1]; rfl
      exact put 18 93 (.one (.ptr c 0)) D _ _ rfl (fun c e => by cases e) rfl (by omega) (MX g77) trivial (by intro e he; simp only [fC, List.mem_cons, List.not_mem_nil, or_false] at he; rcases he with rfl | rfl | rfl | rfl | rfl | rfl | rfl | rfl | rfl | rfl | rfl | rfl | rfl | rfl | rfl | rfl | rfl | rfl | rfl | rfl <;> simp [upd]) (by simp [fC]) (by simp [upd])
    · obtain rfl := Option.some.inj hio'
      have k18 := at_ 18 (by decide)
      have g93 : (jf E0 H0 N g lp c r i8 i12 m p x f8 A cs zs D).get 93 = .t (.one (.ptr c 0)) := by show (bif D 18 then AV.t _ else .any) = _; rw [k18]; rfl
      exact put 19 94 (.one (.ptr c 0)) D _ _ rfl (fun c e => by cases e) rfl (by omega) (tT o79 g93) ⟨trivial, trivial⟩ (by intro e he; simp only [fC, List.mem_cons, List.not_mem_nil, or_false] at he; rcases he with rfl | rfl | rfl | rfl | rfl | rfl | rfl | rfl | rfl | rfl | rfl | rfl | rfl | rfl | rfl | rfl | rfl | rfl | rfl | rfl <;> simp [upd]) (by simp [fC]) (by simp [upd])
    · obtain rfl := Option.some.inj hio'
      have k19 := at_ 19 (by decide)
      have g94 : (jf E0 H0 N g lp c r i8 i12 m p x f8 A cs zs D).get 94 = .t (.one (.ptr c 0)) := by show (bif D 19 then AV.t _ else .any) = _; rw [k19]; rfl
      exact put 20 95 (.one (.ptr c 11)) D _ _ rfl (fun c e => by cases e) rfl (by omega) (tT o275 g94) ⟨trivial, trivial⟩ (by intro e he; simp only [fC, List.mem_cons, List.not_mem_nil, or_false] at he; rcases he with rfl | rfl | rfl | rfl | rfl | rfl | rfl | rfl | rfl | rfl | rfl | rfl | rfl | rfl | rfl | rfl | rfl | rfl | rfl | rfl <;> simp [upd]) (by simp [fC]) (by simp [upd])
    · obtain rfl := Option.some.inj hio'
      have k20 := at_ 20 (by decide)
      have k13 := at_ 13 (by decide)
      have k17 := at_ 17 (by decide)
      have k8 := at_ 8 (by decide)
      have g95 : (jf E0 H0 N g lp c r i8 i12 m p x f8 A cs zs D).get 95 = .t (.one (.ptr c 11)) := by show (bif D 20 then AV.t _ else .any) = _; rw [k20]; rfl
      have g89 : (jf E0 H0 N g lp c r i8 i12 m p x f8 A cs zs D).get 89 = .t (.one (.slc i8 0 (m + 1) 1)) := by show (bif D 13 then AV.t _ else .any) = _; rw [k13]; rfl
      have gc' : hget (gY H0 c i8 i12 m p x f8 cs zs D) c = some (cs.take 12 ++ [f8] ++ cs.drop 13) := (gc D).trans (by unfold mW; rw [hDi, k17]; rfl)
      have hA : ∀ q, hget (gY H0 c i8 i12 m p x f8 cs zs (upd D 21)) q = hget (hset (gY H0 c i8 i12 m p x f8 cs zs D) c ((cs.take 12 ++ [f8] ++ cs.drop 13).take 11 ++ [.slc i8 0 (m + 1) 1] ++ (cs.take 12 ++ [f8] ++ cs.drop 13).drop 12)) q := fun q => by
        by_cases hq : q = c
        · subst hq; rw [aH, dQ]; rw [if_neg (fun h => c12 h.2), if_neg (fun h => c8 h.2), if_pos rfl]; unfold mW; rfl
        · rw [aJ _ _ _ _ hq, dQ, dQ]; rw [if_neg hq, if_neg hq]; simp [upd]
      exact H8 (nid := (gY H0 c i8 i12 m p x f8 cs zs D).length) rfl (fun c e => by cases e) (Dr _) trivial (J4 t24 g95 g89 gc') ⟨trivial, trivial, rfl, by simp [hcl], by omega⟩ (kH rfl rfl rfl (DK (fC c r i8 i12 m p x f8 A) (by intro e he; simp only [fC, List.mem_cons, List.not_mem_nil, or_false] at he; rcases he with rfl | rfl | rfl | rfl | rfl | rfl | rfl | rfl | rfl | rfl | rfl | rfl | rfl | rfl | rfl | rfl | rfl | rfl | rfl | rfl <;> simp [upd])) hA)
  · intro D hD
    have hD' : ∀ k, k < 22 -> D k = true := fun k hk => hD k (by omega)
    refine ⟨⟨E0, gY H0 c i8 i12 m p x f8 cs zs (fun _ => true), N, g, lp⟩, kH rfl rfl rfl (fun t => ?_) (fun q => ?_), hQ⟩
    · by_cases ht : t ∈ (fC c r i8 i12 m p x f8 A).map (·.t)
      · exact Or.inr (aiv (List.all_eq_true.1 hE t ht))
      · exact Or.inl (Vn _ ht).symm
    · show hget (gY H0 c i8 i12 m p x f8 cs zs (fun _ => true)) q = hget (gY H0 c i8 i12 m p x f8 cs zs D) q
      rw [Bl ⟨(hD' 8 (by omega)).symm, (hD' 12 (by omega)).symm, (hD' 13 (by omega)).symm, (hD' 17 (by omega)).symm, (hD' 21 (by omega)).symm⟩]
end Go.Proofs.YtcfechepbamhkaaGreat
