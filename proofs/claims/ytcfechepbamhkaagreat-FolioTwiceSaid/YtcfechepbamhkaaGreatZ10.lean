/- Part 10 of 17: contracts of functions and plain laws for the root text. No condition. -/
import Derived.Test.YtcfechepbamhkaaGreatZ01
import Derived.Test.YtcfechepbamhkaaGreatZ02
import Derived.Test.YtcfechepbamhkaaGreatZ03
import Derived.Test.YtcfechepbamhkaaGreatZ04
import Derived.Test.YtcfechepbamhkaaGreatZ05
import Derived.Test.YtcfechepbamhkaaGreatZ06
import Derived.Test.YtcfechepbamhkaaGreatZ07
import Derived.Test.YtcfechepbamhkaaGreatZ08
import Derived.Test.YtcfechepbamhkaaGreatZ09
import Derived.Laws.Tables
import Derived.Laws.IdiomCopy
import Derived.Laws.AppendOwn
set_option linter.unusedVariables false
set_option linter.unusedSimpArgs false
namespace Go.Proofs.YtcfechepbamhkaaGreat
open Go.RowKit Go.Sea Go.Sort
def lZ (zs : List Int) (p : Nat) (x : Int) : List Int := zs.take p ++ x :: zs.drop p
theorem jC {zs : List Int} {p : Nat} {x : Int} (hp : p <= zs.length) : (lZ zs p x).length = zs.length + 1 := by simp [lZ]; omega
theorem vv {zs : List Int} {p : Nat} {x : Int} {k : Nat} (hp : p <= zs.length) (hk : k < p) : (lZ zs p x).getD k 0 = zs.getD k 0 := by
  unfold lZ; rw [List.getD, List.getElem?_append_left (by simp; omega), List.getElem?_take, if_pos hk]; rfl
theorem uF {zs : List Int} {p : Nat} {x : Int} (hp : p <= zs.length) : (lZ zs p x).getD p 0 = x := by
  unfold lZ; rw [List.getD, List.getElem?_append_right (by simp; omega)]; simp [Nat.min_eq_left hp]
theorem F7 {zs : List Int} {p : Nat} {x : Int} {k : Nat} (hp : p <= zs.length) (hk : p < k) : (lZ zs p x).getD k 0 = zs.getD (k - 1) 0 := by
  unfold lZ
  rw [List.getD, List.getElem?_append_right (by simp; omega)]
  simp only [List.length_take, Nat.min_eq_left hp]
  obtain ⟨m, rfl⟩ : ∃ m, k = p + 1 + m := ⟨k - (p + 1), by omega⟩
  rw [show p + 1 + m - p = m + 1 by omega, List.getElem?_cons_succ, List.getElem?_drop, show p + 1 + m - 1 = p + m by omega]; rfl
theorem jg {b : Nat} {e : TypeId} : ∀ (vs : List Value) (o : Nat) (w : World) (c : Array Value), w.heap[b]? = some (.cells c e (0, 0)) -> o + vs.length <= c.size ->
    ∃ c' : Array Value, w.setCells b o vs = w.setRow b c' /\ c'.size = c.size /\ ∀ k, c'[k]? = if o <= k /\ k < o + vs.length then vs[k - o]? else c[k]?
  | [], o, w, c, hb, _ => ⟨c, by
      show w = w.setRow b c
      have : (w.setRow b c).heap = w.heap := by
        apply Array.ext_getElem?
        intro k
        by_cases hk : k = b
        · subst hk; rw [setRow_heap w k c c e (0, 0) hb, hb]
        · exact setRow_other w b k c hk
      show w = { w with heap := (w.setRow b c).heap }
      rw [this], rfl, fun k => by rw [if_neg (by simp only [List.length_nil]; omega)]⟩
  | v :: r, o, w, c, hb, hl => by
    have hl' : o + 1 + r.length <= c.size := by simp at hl; omega
    have e1 := setCell_eq_setRow w b o c e (0, 0) v hb
    obtain ⟨c', h1, h2, h3⟩ := jg r (o + 1) (w.setCell ⟨b, o, none⟩ v) (c.setIfInBounds o v) (by rw [e1]; exact setRow_heap w b c _ e (0, 0) hb) (by simpa using hl')
    refine ⟨c', ?_, by simpa using h2, fun k => ?_⟩
    · rw [World.setCells, h1, e1, setRow_setRow]
    · rw [h3]
      by_cases hk : k = o
      · subst hk
        rw [if_neg (by omega), if_pos (by simp), Nat.sub_self, Array.getElem?_setIfInBounds, if_pos rfl, if_pos (by omega)]; rfl
      · by_cases hi : o + 1 <= k /\ k < o + 1 + r.length
        · rw [if_pos hi, if_pos (by simp; omega)]
          obtain ⟨m, rfl⟩ : ∃ m, k = o + 1 + m := ⟨k - (o + 1), by omega⟩
          rw [show o + 1 + m - (o + 1) = m by omega, show o + 1 + m - o = m + 1 by omega, List.getElem?_cons_succ]
        · rw [if_neg hi, if_neg (by simp; omega), Array.getElem?_setIfInBounds, if_neg (by omega)]
theorem lT (w : World) (C D : Array Value) (e : TypeId) : (w.alloc (.cells C e)).setRow w.heap.size D = w.alloc (.cells D e) := by
  unfold World.setRow World.alloc
  simp only [World.mk.injEq, and_true]
  apply Array.ext_getElem?
  intro k
  rw [Array.getElem?_modify]
  by_cases h : w.heap.size = k
  · subst h; rw [if_pos rfl]; simp
  · rw [if_neg h]
    by_cases h2 : k < w.heap.size
    · rw [Array.getElem?_push_lt h2, Array.getElem?_push_lt h2]
    · rw [Array.getElem?_eq_none (by simp; omega), Array.getElem?_eq_none (by simp; omega)]
section
variable {w0 : World} {Z0 : Fr} {J : Nat -> Option Nat} {Z : Nat -> Prop} {s : AS} {a : Act} {w : World}
theorem Pk {ys : List Int} {c : Array Value} (h : ∀ k, k < ys.length -> c[k]? = some (.int .i64 (ys.getD k 0))) (hs : ys.length <= c.size) : aU (bM w J Z) (c.toList.take (dX ys).length) (dX ys) := by
  refine aU.of (by simp [bg]; omega) fun k u y hu hy => ?_
  have hk : k < ys.length := by
    rw [List.getElem?_take] at hu
    split at hu
    · rename_i h; rwa [bg] at h
    · cases hu
  rw [List.getElem?_take, if_pos (by rw [bg]; exact hk), Array.getElem?_toList, h k hk] at hu
  simp [dX, hk] at hy
  cases hu; subst hy
  have : ys.getD k 0 = ys[k] := by simp [List.getD, hk]
  rw [this]
  exact Rd.g _ rfl
theorem Ro (zs : List Int) (i : Nat) : iw i (dX zs) = dX zs := mK i (iO zs)
theorem Nu (R : Rel w0 Z0 J Z s a w) {i b : Nat} {cs : List CV} {c c' : Array Value} {e : TypeId} {zs : List Int} (hi : hget s.heap i = some cs) (hj : J i = some b) (hb : w.heap[b]? = some (.cells c e (0, 0))) (hsz : c'.size = c.size) (hl : zs.length <= c'.size) (h : ∀ k, k < zs.length -> c'[k]? = some (.int .i64 (zs.getD k 0))) :
    Rel w0 Z0 J Z (s.qV 0 (.app i (dX zs))) a (w.setRow b c') := by
  have R1 := Rel.set R hi hj hb hsz (aG s.heap i (dX zs)) (fun q hq => aK _ _ _ _ hq) (Pk h hl)
  have R2 := R1.cZ i
  simp only [AS.cZ, kP, Ro] at R2
  exact R2
theorem ac9 (R : Rel w0 Z0 J Z s a w) {i : Nat} {cs : List CV} {C : Array Value} {e : TypeId} {zs : List Int} (hi : hget s.heap i = some cs) (hl : zs.length <= C.size) (h : ∀ k, k < zs.length -> C[k]? = some (.int .i64 (zs.getD k 0))) :
    Rel w0 Z0 (gy J i w.heap.size) Z (s.qV 0 (.app i (dX zs))) a (w.alloc (.cells C e)) := by
  refine Rel.move (s := s.cZ i) (cs := dX zs) (R.cZ i) ?_ (aG _ _ _) (fun q hq => aK _ _ _ _ hq) (fun t => ?_) (fun f t => ?_) (fun q x hq y hy => ?_) (Pk h hl)
  · simp [AS.cZ, gG, hi]
  · simp only [AS.cZ, AS.get, kM]; exact AV.kQ i _
  · simp only [AS.cZ, uj]; exact AV.kQ i _
  · by_cases hqk : q = i
    · subst hqk
      rw [aG, Option.some.injEq] at hq
      subst hq
      have := iO _ y hy
      cases y <;> first | trivial | exact this.elim
    · rw [aK _ _ _ _ hqk] at hq
      simp only [AS.cZ, gG, Option.map_eq_some_iff] at hq
      obtain ⟨cs0, _, rfl⟩ := hq
      exact qQ i _ y hy
theorem ab9 {zs : List Int} {c : Array Value} (h : ∀ j, j < zs.length -> c[j]? = some (.int .i64 (zs.getD j 0))) {b : Nat} {e : TypeId} (hb : w.heap[b]? = some (.cells c e (0, 0))) : ∀ j v, (zs.map (Value.int .i64))[j]? = some v -> w.cell? ⟨b, 0 + j, none⟩ = some v := fun j v hv => by
  rw [cell_of_row w b _ c e _ hb, Nat.zero_add]
  rw [List.getElem?_map] at hv
  cases hz : zs[j]? with
  | none => rw [hz] at hv; cases hv
  | some z =>
    rw [hz] at hv
    obtain ⟨hj, rfl⟩ := List.getElem?_eq_some_iff.1 hz
    rw [h j hj]
    simp [List.getD, hj] at hv ⊢; exact hv
theorem Em (zs : List Int) : ∀ v ∈ zs.map (Value.int .i64), v.oneCell' = true := fun v hv => by
  obtain ⟨z, _, rfl⟩ := List.mem_map.1 hv; rfl
theorem tH {zs : List Int} {k : Nat} (hk : k < zs.length) : (zs.map (Value.int .i64))[k]? = some (.int .i64 (zs.getD k 0)) := by
  rw [List.getElem?_map, List.getElem?_eq_getElem hk]; simp [List.getD, hk]
theorem SI {zs : List Int} {p : Nat} {x : Int} (hp : p <= zs.length) {c c1 c2 : Array Value} (h : ∀ k, k < p -> c[k]? = some (.int .i64 (zs.getD k 0)))
    (h1 : ∀ k, c1[k]? = if p + 1 <= k /\ k < p + 1 + (zs.map (Value.int .i64)).length - p then ((zs.map (Value.int .i64)).drop p)[k - (p + 1)]? else c[k]?) (h2 : ∀ k, c2[k]? = if p <= k /\ k < p + 1 then [Value.int .i64 x][k - p]? else c1[k]?) : ∀ k, k < (lZ zs p x).length -> c2[k]? = some (.int .i64 ((lZ zs p x).getD k 0)) := fun k hk => by
  rw [jC hp] at hk
  rcases Nat.lt_trichotomy k p with hl | rfl | hl
  · rw [h2, if_neg (by omega), h1, if_neg (by omega), h k hl, vv hp hl]
  · rw [h2, if_pos (by omega), Nat.sub_self, uF hp]; rfl
  · rw [h2, if_neg (by omega), h1, if_pos (by rw [List.length_map]; omega), F7 hp hl, List.getElem?_drop, show p + (k - (p + 1)) = k - 1 by omega, tH (by omega)]
end
set_option maxHeartbeats 1000000 in
theorem ak5 {w0 : World} {Z0 : Fr} {J : Nat -> Option Nat} {Z : Nat -> Prop} {s : AS} {a : Act} {w : World} (R : Rel w0 Z0 J Z s a w) {i j : Nat} {zs : List Int} {p : Nat} {x : Int} {vs : Array Value} (hi : hget s.heap i = some (dX zs)) (hj : hget s.heap j = some [.iv (.g (.int .i64 x))]) (hij : i ≠ j) (hp : p <= zs.length) (hz : (zs.length + 1) * 8 <= 140737488355328)
    (hv : aU (cu w J Z) vs.toList [.one (.slc i 0 zs.length 1), .one (.iv (.g (.int .i64 (p : Int)))), .one (.slc j 0 1 1)]) :
    Calls Tryz.prog 101 vs w fun e w' => ∃ v J', e = .returned v /\ Rel w0 Z0 J' Z (s.qV 0 (.app i (dX (lZ zs p x)))) a w' /\ bD w' J' Z v (.t (.one (.slc i 0 (zs.length + 1) 1))) := by
  obtain ⟨vs⟩ := vs
  match vs, hv with
  | [v1, v2, v3], ⟨h1, h2, h3, _⟩ =>
    have e2 : v2 = .int .i64 p := by cases h2; rfl
    subst e2
    rcases h3 with ⟨h3, _⟩ | ⟨vb, vc, C, eC, rfl, hjv, hvc1, hvc2, hbv, hsv⟩
    · cases h3
    have hne : zs.length + 1 <= maxLen := by unfold maxLen; omega
    have hV : ∀ q v, [Value.int .i64 x][q]? = some v -> w.cell? ⟨vb, 0 + q, none⟩ = some v := fun q v hq => by
      obtain ⟨c1, e1, g2, g3⟩ := R.cells hj (by simp) hjv ⟨_, _, hbv⟩
      rw [hbv] at g2; cases g2
      rcases q with _ | q
      · rw [cell_of_row w vb _ C eC _ hbv, Nat.zero_add]
        obtain ⟨u, hu, hr⟩ := g3.get (k := 0) (y := .iv (.g (.int .i64 x))) rfl
        rw [List.getElem?_take, if_pos (by simp), Array.getElem?_toList] at hu
        rw [hu]; cases hr; exact hq
      · simp at hq
    have h1v : ∀ v ∈ [Value.int .i64 x], v.oneCell' = true := fun v hv => by simp at hv; subst hv; rfl
    have new : ∀ (e : Ending) (W : World) (c : Nat) (C2 : Array Value), e = .returned (.slice (some ⟨w.heap.size, 0, none⟩) (zs.length + 1) (grownCap w (zs.length + 1) c 3)) -> Rel w0 Z0 J Z s a W -> W.heap.size = w.heap.size -> (∀ k, k < (lZ zs p x).length -> C2[k]? = some (.int .i64 ((lZ zs p x).getD k 0))) -> C2.size = zs.length + 1 + (grownCap w (zs.length + 1) c 3 - (zs.length + 1)) ->
        ∃ v J', e = .returned v /\ Rel w0 Z0 J' Z (s.qV 0 (.app i (dX (lZ zs p x)))) a (W.alloc (.cells C2 3)) /\ bD (W.alloc (.cells C2 3)) J' Z v (.t (.one (.slc i 0 (zs.length + 1) 1))) := fun e W c C2 he RW hWs hC hsz => by
      have hg := grownCap_ge w (zs.length + 1) c 3
      have hl := jC (x := x) hp
      refine ⟨_, _, he, ac9 RW hi (by rw [hl]; omega) hC, ?_⟩
      refine Or.inr ⟨w.heap.size, _, _, 3, rfl, by simp [gy, hWs], hg, grownCap_le_maxLen w _ _ 3 hne, ?_, by rw [hsz]; omega⟩
      rw [<- hWs]; exact heap_alloc_new W _
    have hlz : (zs.map (Value.int .i64)).length = zs.length := List.length_map _
    rcases h1 with ⟨h0, rfl⟩ | ⟨b, cap, c, e, rfl, hjb, hc1, hc2, hb, hs⟩
    · -- nil
      have hz0 : zs = [] := List.eq_nil_of_length_eq_zero h0
      subst hz0
      obtain rfl : p = 0 := by simpa using hp
      have H : Calls Tryz.prog 101 #[.slice none 0 0, .int .i64 (0 : Nat), .slice (some ⟨vb, 0, none⟩) 1 vc] w fun e w' => e = .returned (.slice (some ⟨w.heap.size, 0, none⟩) (0 + 1) (grownCap w (0 + 1) 0 3)) /\ w' = w.drew.alloc (.cells (([] ++ [Value.int .i64 x]).toArray ++ Builtin.zeroCells (Value.int .i64 0).cells (grownCap w (0 + 1) 0 3 - (0 + 1))) 3) :=
        Any2.slices_Insert_int_end_grow Tryz.oo none 0 0 vb 0 1 vc [] [.int .i64 x] w (by omega) (by omega) (by omega) (by omega) rfl rfl (fun _ => rfl) (fun _ h => by cases h) hV h1v
      refine H.mono fun e w' ⟨he, hw⟩ => ?_
      subst hw
      refine new e w.drew 0 _ he R.drew rfl (fun k hk => ?_) ?_
      · have : k = 0 := by rw [jC hp] at hk; simp at hk; exact hk
        subst this; rw [Array.getElem?_append_left (by simp)]; rfl
      · simp [Builtin.zeroCells, Value.cells]
    · have hcz : ∀ k, k < zs.length -> c[k]? = some (.int .i64 (zs.getD k 0)) := fun k hk => (Im R hjb hb (by rintro rfl; simp at hk) hi).2 k hk
      have hvb : vb ≠ b := by
        rintro rfl
        exact hij (R.inj _ _ _ hjb hjv)
      have hrow := ab9 hcz hb
      by_cases hroom : zs.length + 1 <= cap
      · have hcs : zs.length + 1 <= c.size := by omega
        rcases Nat.lt_or_ge p zs.length with hpl | hpl
        · -- shift
          have H : Calls Tryz.prog 101 #[.slice (some ⟨b, 0, none⟩) zs.length cap, .int .i64 p, .slice (some ⟨vb, 0, none⟩) 1 vc] w fun e w' => e = .returned (.slice (some ⟨b, 0, none⟩) (zs.length + 1) cap) /\ w' = (w.drew.setCells b (0 + (p + 1)) ((zs.map (Value.int .i64)).drop p)).setCells b (0 + p) [.int .i64 x] :=
            Any2.slices_Insert_int_shift Tryz.oo b 0 zs.length cap p vb 0 1 vc (zs.map (Value.int .i64)) [.int .i64 x] w hpl (by omega) hroom (by unfold maxLen at hc2; omega) hvb hlz rfl hrow (fun q hq => by
              rw [cell_of_row w b _ c e _ hb, Array.getElem?_eq_getElem (by omega)]; rfl) (fun q hq => by simp [World.frozen?, hb]) hV (Em zs) h1v eC e C.size c.size (by simp [World.shape?, hbv]) (by simp [World.shape?, hb]) (by omega) (by simp [World.frozen?, hbv]) (by simp [World.frozen?, hbv])
          refine H.mono fun e' w' ⟨he, hw⟩ => ?_
          obtain ⟨c1, g1, g2, g3⟩ := jg (e := e) ((zs.map (Value.int .i64)).drop p) (0 + (p + 1)) w.drew c hb (by rw [List.length_drop, hlz]; omega)
          obtain ⟨c2, k1, k2, k3⟩ := jg (e := e) [.int .i64 x] (0 + p) (w.drew.setRow b c1) c1 (setRow_heap w.drew b c c1 e (0, 0) hb) (by simp; omega)
          rw [g1, k1, setRow_setRow] at hw
          subst hw
          have hC := SI (x := x) hp (fun k hk => hcz k (by omega)) (c1 := c1) (c2 := c2) (fun k => by rw [g3, List.length_drop, hlz]; simp only [Nat.zero_add]; congr 1; exact propext ⟨fun h => by omega, fun h => by omega⟩) (fun k => by rw [k3]; simp only [Nat.zero_add, List.length_cons, List.length_nil])
          refine ⟨_, J, he, Nu R.drew hi hjb hb (by omega) (by rw [jC hp]; omega) hC, ?_⟩
          exact Or.inr ⟨b, cap, c2, e, rfl, hjb, hroom, hc2, setRow_heap w.drew b c c2 e (0, 0) hb, by omega⟩
        · -- the end, room
          obtain rfl : p = zs.length := by omega
          have H : Calls Tryz.prog 101 #[.slice (some ⟨b, 0, none⟩) zs.length cap, .int .i64 zs.length, .slice (some ⟨vb, 0, none⟩) 1 vc] w fun e w' => e = .returned (.slice (some ⟨b, 0, none⟩) (zs.length + 1) cap) /\ w' = w.setCells b (0 + zs.length) [.int .i64 x] :=
            Any2.slices_Insert_int_end_room Tryz.oo b 0 zs.length cap vb 0 1 vc [.int .i64 x] w (by omega) hroom (by unfold maxLen at hc2; omega) rfl (fun q hq => by
              rw [cell_of_row w b _ c e _ hb, Array.getElem?_eq_getElem (by omega)]; rfl) (fun q hq => by simp [World.frozen?, hb]) hV h1v
          refine H.mono fun e' w' ⟨he, hw⟩ => ?_
          obtain ⟨c2, k1, k2, k3⟩ := jg (e := e) [.int .i64 x] (0 + zs.length) w c hb (by simp; omega)
          rw [k1] at hw
          subst hw
          refine ⟨_, J, he, Nu R hi hjb hb (by omega) (by rw [jC hp]; omega) (fun k hk => ?_), ?_⟩
          · rw [jC hp] at hk
            rw [k3]
            by_cases hke : k = zs.length
            · subst hke; rw [if_pos (by simp), uF hp]; simp
            · rw [if_neg (by simp; omega), hcz k (by omega), vv hp (by omega)]
          · exact Or.inr ⟨b, cap, c2, e, rfl, hjb, hroom, hc2, setRow_heap w b c c2 e (0, 0) hb, by omega⟩
      · rcases Nat.lt_or_ge p zs.length with hpl | hpl
        · -- anew, in the middle
          have H : Calls Tryz.prog 101 #[.slice (some ⟨b, 0, none⟩) zs.length cap, .int .i64 p, .slice (some ⟨vb, 0, none⟩) 1 vc] w fun e w' => e = .returned (.slice (some ⟨w.heap.size, 0, none⟩) (zs.length + 1) (grownCap w (zs.length + 1) cap 3)) ∧
              w' = (((w.alloc (.cells (((zs.map (Value.int .i64)).take p).toArray ++ Builtin.zeroCells (Value.int .i64 0).cells (zs.length + 1 - p) ++ Builtin.zeroCells (Value.int .i64 0).cells (grownCap w (zs.length + 1) cap 3 - (zs.length + 1))) 3)).drew.setCells w.heap.size p [.int .i64 x]).drew).setCells w.heap.size (p + 1) ((zs.map (Value.int .i64)).drop p) :=
            Any2.slices_Insert_int_grow Tryz.oo b 0 zs.length cap p vb 0 1 vc (zs.map (Value.int .i64)) [.int .i64 x] w hpl (by omega) hc1 (by omega) hz hlz rfl hrow hV (Em zs) h1v
          refine H.mono fun e' w' ⟨he, hw⟩ => ?_
          obtain ⟨C0, hC0⟩ : ∃ C0, C0 = ((zs.map (Value.int .i64)).take p).toArray ++ Builtin.zeroCells (Value.int .i64 0).cells (zs.length + 1 - p) ++ Builtin.zeroCells (Value.int .i64 0).cells (grownCap w (zs.length + 1) cap 3 - (zs.length + 1)) := ⟨_, rfl⟩
          have hs0 : C0.size = zs.length + 1 + (grownCap w (zs.length + 1) cap 3 - (zs.length + 1)) := by
            rw [hC0]; simp [Builtin.zeroCells, Value.cells]; omega
          have hlo : ∀ k, k < p -> C0[k]? = some (.int .i64 (zs.getD k 0)) := fun k hk => by
            rw [hC0, Array.append_assoc, Array.getElem?_append_left (by simp; omega), List.getElem?_toArray, List.getElem?_take, if_pos hk, tH (by omega)]
          rw [<- hC0] at hw
          obtain ⟨c1, g1, g2, g3⟩ := jg (e := 3) [.int .i64 x] p (w.drew.alloc (.cells C0 3)) C0 (heap_alloc_new w.drew _) (by simp; omega)
          obtain ⟨c2, k1, k2, k3⟩ := jg (e := 3) ((zs.map (Value.int .i64)).drop p) (p + 1) (w.drew.drew.alloc (.cells c1 3)) c1 (heap_alloc_new w.drew.drew _) (by rw [List.length_drop, hlz]; omega)
          have e1 : (w.alloc (.cells C0 3)).drew.setCells w.heap.size p [.int .i64 x] = w.drew.alloc (.cells c1 3) := g1.trans (lT w.drew C0 c1 3)
          have e2 : (w.drew.alloc (.cells c1 3)).drew.setCells w.heap.size (p + 1) ((zs.map (Value.int .i64)).drop p) = w.drew.drew.alloc (.cells c2 3) := k1.trans (lT w.drew.drew c1 c2 3)
          rw [e1, e2] at hw
          subst hw
          refine new e' w.drew.drew cap c2 he R.drew.drew rfl (fun k hk => ?_) (by omega)
          rw [jC hp] at hk
          rw [k3]
          rcases Nat.lt_trichotomy k p with hl | hl | hl
          · rw [if_neg (by omega), g3, if_neg (by omega), hlo k hl, vv hp hl]
          · subst hl; rw [if_neg (by omega), g3, if_pos (by simp), Nat.sub_self, uF hp]; rfl
          · rw [if_pos (by rw [List.length_drop, hlz]; omega), List.getElem?_drop, show p + (k - (p + 1)) = k - 1 by omega, tH (by omega), F7 hp hl]
        · -- anew, at the end
          obtain rfl : p = zs.length := by omega
          have H : Calls Tryz.prog 101 #[.slice (some ⟨b, 0, none⟩) zs.length cap, .int .i64 zs.length, .slice (some ⟨vb, 0, none⟩) 1 vc] w fun e w' => e = .returned (.slice (some ⟨w.heap.size, 0, none⟩) (zs.length + 1) (grownCap w (zs.length + 1) cap 3)) /\ w' = w.drew.alloc (.cells (((zs.map (Value.int .i64)) ++ [Value.int .i64 x]).toArray ++ Builtin.zeroCells (Value.int .i64 0).cells (grownCap w (zs.length + 1) cap 3 - (zs.length + 1))) 3) :=
            Any2.slices_Insert_int_end_grow Tryz.oo (some ⟨b, 0, none⟩) zs.length cap vb 0 1 vc (zs.map (Value.int .i64)) [.int .i64 x] w (by omega) hc1 (by omega) hz hlz rfl (fun h => by cases h) (fun a ha q v hq => by cases ha; rw [Addr.add_lit]; exact hrow q v hq) hV h1v
          refine H.mono fun e' w' ⟨he, hw⟩ => ?_
          subst hw
          refine new e' w.drew cap _ he R.drew rfl (fun k hk => ?_) ?_
          · rw [jC hp] at hk
            rw [Array.getElem?_append_left (by simp; omega), List.getElem?_toArray]
            by_cases hke : k = zs.length
            · subst hke; rw [List.getElem?_append_right (by simp), uF hp]; simp
            · rw [List.getElem?_append_left (by simp; omega), tH (by omega), vv hp (by omega)]
          · simp [Builtin.zeroCells, Value.cells]
end Go.Proofs.YtcfechepbamhkaaGreat
set_option maxRecDepth 100000
set_option maxHeartbeats 4000000
namespace Go.Proofs.YtcfechepbamhkaaGreat
open Go.RowKit Go.Sea
open Nat renaming reduceAdd -> xA, reduceLT -> xL, reduceLeDiff -> xD, reduceEqDiff -> xE, reduceMul -> xM, reduceSub -> xS, reduceBEq -> xB
theorem alO : Ho Tryz.prog 23 = none := by kernel_rfl
theorem Ni : aN Tryz.prog 47 = true := by kernel_rfl
theorem abo : aN Tryz.prog 68 = true := by kernel_rfl
theorem akG : xH Tryz.prog 23 = some true := by kernel_rfl
theorem al9 : qX Tryz.prog 23 = some (7, 72, 28) := by kernel_rfl
attribute [go_sem] alO Ni abo akG al9
def aeY : ah -> Nat -> IV
  | N, 0 => .g (.int .i64 N.oc)
  | N, 1 => .g (.int .i64 N.nu)
  | N, 2 => .g (.int .i64 N.kd)
  | N, 3 => .g (.int .i64 N.fr)
  | N, 4 => .g (.int .i64 N.un)
  | N, 5 => .g (.int .i64 N.ca)
  | N, _ + 6 => .lst 3 N.n (dK N.p)
def eP (N : Nat -> ah) (i c : Nat) : IV := aeY (N i) c
theorem anj (N : Nat -> ah) (i : Nat) : eP N i 0 = .g (.int .i64 (N i).oc) := rfl
theorem am4 (N : Nat -> ah) (i : Nat) : eP N i 1 = .g (.int .i64 (N i).nu) := rfl
theorem amt (N : Nat -> ah) (i : Nat) : eP N i 2 = .g (.int .i64 (N i).kd) := rfl
theorem alI (N : Nat -> ah) (i : Nat) : eP N i 3 = .g (.int .i64 (N i).fr) := rfl
theorem akg (N : Nat -> ah) (i : Nat) : eP N i 4 = .g (.int .i64 (N i).un) := rfl
theorem am7 (N : Nat -> ah) (i : Nat) : eP N i 5 = .g (.int .i64 (N i).ca) := rfl
theorem amb (N : Nat -> ah) (i : Nat) : eP N i 6 = .lst 3 (N i).n (dK (N i).p) := rfl
attribute [go_sem] anj am4 amt alI akg am7 amb
def AZ (N : Nat -> ah) (i : Nat) : Prop := gD (N i) = true /\ (N i).oc = (N 0).oc /\ (0 < i -> (N (i - 1)).nu < (N i).nu)
instance (N : Nat -> ah) (i : Nat) : Decidable (AZ N i) := by unfold AZ; infer_instance
def uw (n : Nat) (N : Nat -> ah) : Bool := decide (n <= 200 /\ ∀ i, i < n -> AZ N i)
def jO (N : ah) (ch : Int) : Nat := j3 (fun i => decide ((N.p i).ch = ch)) N.n
def iQ (N : ah) (ch : Int) : Bool := decide (jO N ch < N.n)
def xY (N : ah) (ch : Int) : Int := if jO N ch < N.n then (jO N ch : Int) else -1
def kD (N : ah) (ch : Int) : Bool := decide (N.kd = 1) && iQ N ch
theorem WE {N : ah} {ch : Int} {i : Nat} (hi : (i : Int) < N.n) (h : (N.p i).ch = ch) (g : ∀ j, j < i -> (N.p j).ch ≠ ch) : jO N ch = i := lC (b := fun i => decide ((N.p i).ch = ch)) (decide_eq_true h) (fun j hj => decide_eq_false (g j hj)) _ (by omega)
theorem akb {N : ah} {ch : Int} {i : Nat} (hi : (i : Int) < N.n) (h : (N.p i).ch = ch) (g : ∀ j, j < i -> (N.p j).ch ≠ ch) : (i : Int) = xY N ch := by unfold xY; rw [WE hi h g, if_pos (by omega)]
theorem U2 {N : ah} {ch : Int} {i : Nat} (hi : (N.n : Int) <= i) (g : ∀ j, j < i -> (N.p j).ch ≠ ch) : jO N ch = N.n := sF _ fun j hj => decide_eq_false (g j (by omega))
theorem alh {N : ah} {ch : Int} {i : Nat} (hi : (N.n : Int) <= i) (g : ∀ j, j < i -> (N.p j).ch ≠ ch) : -1 = xY N ch := by unfold xY; rw [U2 hi g, if_neg (by omega)]
theorem Uz {N : ah} {ch : Int} : decide (0 <= xY N ch) = iQ N ch := by unfold iQ xY; split <;> simp_all
theorem K5 {n : Nat} {N : Nat -> ah} {i : Nat} (hi : (i : Int) < n) (h : (gD (N i) = false \/ (N i).oc ≠ (N 0).oc) \/ (i : Int) > 0 /\ (N i).nu <= (N (i - 1)).nu) : false = uw n N := (decide_eq_false fun g => by
  have g1 := g.2 i (by omega)
  rcases h with (h | h) | h
  · rw [g1.1] at h; cases h
  · exact h g1.2.1
  · have := g1.2.2 (by omega); omega).symm
def lM (q : Nat) (a : Nat -> Int) : List Int := (List.range q).map a
theorem iZ (q : Nat) (a : Nat -> Int) : (lM q a).length = q := by simp [lM]
theorem oM {q : Nat} {a : Nat -> Int} {i : Nat} (h : i < q) : (lM q a).getD i 0 = a i := by simp [lM, List.getD, h]
def kr (zs : List Int) (x : Int) : Nat := j3 (fun i => decide (¬ zs.getD i 0 < x)) zs.length
theorem nA (zs : List Int) (x : Int) : kr zs x <= zs.length := qJ _ _
def SX (q : Nat) (a : Nat -> Int) (x : Int) (i : Nat) : Int := (lZ (lM q a) (kr (lM q a) x) x).getD i 0
theorem fH (zs : List Int) (x : Int) (i : Nat) : List.map (CV.cZ i) (dX zs ++ [.iv (.g (.int .i64 x))]) = dX (zs ++ [x]) := by
  have e : dX zs ++ [CV.iv (.g (.int .i64 x))] = dX (zs ++ [x]) := by simp [dX]
  rw [e]; exact bH _ _
theorem aaR {q : Nat} {a : Nat -> Int} {x : Int} : ∀ i o, i < q + 1 -> o < 1 -> (IE ((dX (lZ (lM q a) (kr (lM q a) x) x)).getD (i * 1 + o) .any)).eqv (bn (SX q a x) i o) := fun i o hi ho => by
  obtain rfl : o = 0 := by omega
  have hl : (lZ (lM q a) (kr (lM q a) x) x).length = q + 1 := by rw [jC (nA _ _), iZ]
  rw [Nat.add_zero, Nat.mul_one, CF _ _ (by omega)]
  exact IV.bf _
theorem Xp {q : Nat} {a : Nat -> Int} {x : Int} {i o : Nat} (hi : i < q + 1) (ho : o < 1) : (IE ((dX (lZ (lM q a) (kr (lM q a) x) x)).getD (i + o) .any)).eqv (.g (.int .i64 (SX q a x i))) := by
  have := aaR (q := q) (a := a) (x := x) i o hi ho
  rw [Nat.mul_one] at this; exact this
def w64 (x : Int) : Int := IntKind.i64.wrap x
def ah8 (p : eH) (acc : Int) : Nat -> Int
  | 0 => acc
  | j + 1 => w64 (w64 (ah8 p acc j + ((p.o j).f.n : Int)) + ((p.o j).f.m : Int))
def Ye (N : ah) : Nat -> Int
  | 0 => N.n
  | i + 1 => ah8 (N.p i) (w64 (w64 (Ye N i + ((N.p i).q : Int)) + ((N.p i).k : Int))) (N.p i).k
theorem agZ (N : ah) (ch : Int) (ho : N.Ok) : aA Tryz.prog 47 [(DV N), .one (.g (.int .i64 ch))] (.t (.one (.g (.int .i64 (xY N ch))))) := by
  have hnn := ho.n
  refine ak Tryz.func47 rfl (by rw [Tryz.ntmps47]; simp) ?_
  simp only [DV, Tryz.ntmps47, zM, PT.tv, au, Nat.zero_add, Nat.reduceAdd]
  repeat' (first
 | ((with_reducible show AW _ _ _ _); first
 | (with_reducible first | refine aS (fun K hK => ?_) | refine aI ?_ | refine aX ?_ | refine aT ?_ | refine aC ?_ | refine aB ?_)
 | (first
 | (with_reducible first | refine aP 0 [0,1] ?_ | refine aP 1 [1,2] ?_ | refine aP 2 [1,2,5] ?_ | refine aP 3 [1,2,5] ?_ | refine aP 4 [1,2,5] ?_ | refine aP 5 [5] ?_ | refine aP 6 [] ?_))
 | ((with_reducible show AW _ (Code.loop _) _ _); first
 | ((with_reducible refine aL (c := (Code.seq (Code.seq (Code.region 2 _ _) _) _)) (ι := Nat) [1,2] (fun i => [(5, iA .i64 (i : Int))]) (fun i => []) (fun i => i <= N.n /\ (∀ j, j < i -> (N.p j).ch ≠ ch)) (fun i => N.n - i) 0 ?lg2 ?l12 ?l22 ?li2 ?lr2); (case' lg2 => rintro i _); (case' li2 => try (exact ⟨Nat.zero_le _, fun i hi => absurd hi (Nat.not_lt_zero _)⟩)); (case' lr2 => rintro i ⟨hi, hai⟩ KR hR2; simp only [bI, dI, hset, lk, if_true, if_false, xE, reduceIte, zN]))))
 | (((with_reducible refine And.intro ?_ ?_)); focus (omega))
 | (with_reducible refine aJ ?_)
 | ((with_reducible show bL _ _ _ _ _ _); first
 | ((with_reducible refine aM ?_ ?_) <;> (intro hc; (try simp only [zB, zC, reduceCtorEq] at hc); (try (exfalso; contradiction)))))
 | ((with_reducible refine hR2 _ (i + 1) ?_); (try clear hR2 KR))
 | ((with_reducible refine Told.mk ?_); simp only [go_sem, reduceIte, reduceCtorEq, xA, xL, xD, xE, xM, xS, xB, bn] <;> ((((try simp (disch := omega) only [aV, Int.natCast_add, Int.cast_ofNat_Int, and_true, true_and, and_self]); (repeat' (first | omega | (with_reducible refine And.intro ?_ ?_) | (exact all_succ (by assumption) (by assumption)))); done))))
 | ((fail_if_success (with_reducible show AW _ _ _ _)); simp (maxSteps := 2000000) only [go_sem, reduceIte, reduceCtorEq, xA, xL, xD, xE, xM, xS, xB, Tryz.f47, bn])
 | ((with_reducible refine hK _ ?_); clear hK K)
 | (with_reducible apply_assumption -exfalso only [*]))
  all_goals (first | exact akb (by assumption) (by assumption) hai | exact alh (by assumption) hai)
theorem agn (N : ah) (ch : Int) (ho : N.Ok) : aA Tryz.prog 15 [(DV N), .one (.g (.int .i64 ch))] (.t (.one (.g (.bool (kD N ch))))) := by
  refine ak Tryz.func15 rfl (by rw [Tryz.ntmps15]; simp) ?_
  simp only [DV, Tryz.ntmps15, zM, PT.tv, au, Nat.zero_add, Nat.reduceAdd]
  repeat' (first
 | ((with_reducible show AW _ _ _ _); first
 | (with_reducible first | refine aS (fun K hK => ?_) | refine aT ?_)
 | (first
 | (with_reducible first | refine aP 0 [0,1] ?_ | refine aP 1 [1,2] ?_)))
 | (((with_reducible refine Need.mk ?_)); focus ((intro _; (with_reducible assumption))))
 | (with_reducible refine aJ ?_)
 | ((with_reducible show bG _ _ _ _ _ _ _ _ _ _); first
 | (refine aO (k := 47) Ni (fun hg => agZ N ch ho) ?_ ?_))
 | ((fail_if_success (with_reducible show AW _ _ _ _)); simp (maxSteps := 2000000) only [go_sem, reduceIte, reduceCtorEq, xA, xL, xD, xE, xM, xS, xB, Tryz.f15, Uz])
 | ((with_reducible refine hK _ ?_); clear hK K))
  all_goals ((unfold kD; rw [<- Uz]; (try refine Bool.eq_iff_iff.2 ?_); (simp only [Bool.and_eq_true, Bool.or_eq_true, Bool.not_eq_true', decide_eq_true_eq, decide_eq_false_iff_not, bne_iff_ne, beq_iff_eq, ne_eq, ge_iff_le, gt_iff_lt, cond_eq_ite, iff_self, eq_self]; done)))
end Go.Proofs.YtcfechepbamhkaaGreat
set_option maxRecDepth 100000
set_option maxHeartbeats 4000000
namespace Go.Proofs.YtcfechepbamhkaaGreat
open Go.RowKit Go.Sea
open Nat renaming reduceAdd -> xA, reduceLT -> xL, reduceLeDiff -> xD, reduceEqDiff -> xE, reduceMul -> xM, reduceSub -> xS, reduceBEq -> xB
theorem qP : aN Tryz.prog 14 = true := by kernel_rfl
theorem aeT : aN Tryz.prog 67 = true := by kernel_rfl
theorem adW : aN Tryz.prog 79 = true := by kernel_rfl
theorem U4 : aN Tryz.prog 186 = true := by kernel_rfl
theorem amY : fM Tryz.prog 39 = true := by kernel_rfl
theorem als : lQ Tryz.prog 39 = some (true, 13) := by kernel_rfl
theorem akj : fV Tryz.prog 39 = some [.iv (.g (.int .i64 0)), .iv (.g (.int .i64 0)), .iv (.g (.int .i64 0)), .iv (.g (.int .i64 0)), .iv (.g (.int .i64 0)), .iv (.g (.int .i64 0)), .iv (.g (.int .i64 0)), .iv (.g (.int .i64 0)), .iv (.g (.int .i64 0)), .iv (.g (.int .i64 0)), .iv (.g (.int .i64 0)), .iv (.g (.slice none 0 0)), .iv (.g (.slice none 0 0))] := by kernel_rfl
attribute [go_sem] qP aeT adW U4 amY als akj
def bq : aH := ⟨0, 0, 0, ⟨0, 0, 0, 0, 0, 0, 0⟩, 0, 0, fun _ => 0, 0, fun _ => eF⟩
def prt (N : ah) (ch : Int) : eH := N.p (jO N ch)
def Kh (s : aH) (P : eH) : Bool := decide (∃ j, j < P.q /\ gq s.q s.dn (P.a j) = false)
def uH (s : aH) (N : ah) : Int := if gq s.q s.dn N.nu = true then 5 else if Kh s (prt N s.ch) = true then 16 else if 200 <= s.q then 2 else if zJ s.n s.f (prt N s.ch).k (prt N s.ch).o ≠ 0 then 15 else 0
def edE (s : aH) (N : ah) : Int := if N.kd ≠ 1 then 12 else if iQ N s.ch = false then 4 else uH s N
def edS (s : aH) (N : ah) : aH := { s with q := s.q + 1, dn := SX s.q s.dn N.nu, n := Ef s.n s.f (prt N s.ch).k (prt N s.ch).o, f := apF s.n s.f (prt N s.ch).k (prt N s.ch).o }
def oW (s : aH) (N : ah) : Int := if (gU s && gD N) = true then edE s N else 1
def mU (s : aH) (N : ah) : aH := if oW s N = 0 then edS s N else bq
theorem yP {s : aH} {N : ah} {e : Int} (h : oW s N = e) (h0 : e ≠ 0) : mU s N = bq /\ oW s N = e := ⟨by unfold mU; rw [if_neg (by rw [h]; exact h0)], h⟩
theorem UZ {s : aH} {N : ah} (h : oW s N = 0) : mU s N = edS s N /\ oW s N = 0 := ⟨by unfold mU; rw [if_pos h], h⟩
theorem WQ {s : aH} {N : ah} (h : gU s = false \/ gD N = false) : oW s N = 1 := by unfold oW; rcases h with h | h <;> simp [h]
theorem tq {s : aH} {N : ah} (h1 : gU s = true) (h2 : gD N = true) : oW s N = edE s N := by unfold oW; simp [h1, h2]
theorem ak8 {s : aH} {N : ah} (h : N.kd ≠ 1) : edE s N = 12 := by unfold edE; rw [if_pos h]
theorem aoo {s : aH} {N : ah} (h : N.kd = 1) (h2 : iQ N s.ch = false) : edE s N = 4 := by unfold edE; rw [if_neg (by omega), if_pos h2]
theorem Ki {s : aH} {N : ah} (h : N.kd = 1) (h2 : iQ N s.ch = true) : edE s N = uH s N := by unfold edE; rw [if_neg (by omega), if_neg (by rw [h2]; simp)]
theorem aoj {s : aH} {N : ah} (h : gq s.q s.dn N.nu = true) : uH s N = 5 := by unfold uH; rw [if_pos h]
theorem alm {s : aH} {N : ah} (h : gq s.q s.dn N.nu = false) {j : Nat} (hj : (j : Int) < (prt N s.ch).q) (h2 : gq s.q s.dn ((prt N s.ch).a j) = false) : uH s N = 16 := by
  have hm : Kh s (prt N s.ch) = true := decide_eq_true ⟨j, by omega, h2⟩
  unfold uH; rw [if_neg (by rw [h]; simp), if_pos hm]
theorem Xb {s : aH} {P : eH} {j : Nat} (hj : (P.q : Int) <= j) (g : ∀ k, k < j -> gq s.q s.dn (P.a k) = true) : Kh s P = false := decide_eq_false fun ⟨k, h1, h2⟩ => by rw [g k (by omega)] at h2; cases h2
theorem anI {s : aH} {N : ah} (h : gq s.q s.dn N.nu = false) (hm : Kh s (prt N s.ch) = false) (hq : (s.q : Int) >= 200) : uH s N = 2 := by
  unfold uH; rw [if_neg (by rw [h]; simp), if_neg (by rw [hm]; simp), if_pos (by omega)]
theorem alx {s : aH} {N : ah} (h : gq s.q s.dn N.nu = false) (hm : Kh s (prt N s.ch) = false) (hq : (s.q : Int) < 200) (he : zJ s.n s.f (prt N s.ch).k (prt N s.ch).o ≠ 0) : uH s N = 15 := by
  unfold uH; rw [if_neg (by rw [h]; simp), if_neg (by rw [hm]; simp), if_neg (by omega), if_pos he]
theorem anA {s : aH} {N : ah} (h : gq s.q s.dn N.nu = false) (hm : Kh s (prt N s.ch) = false) (hq : (s.q : Int) < 200) (he : zJ s.n s.f (prt N s.ch).k (prt N s.ch).o = 0) : uH s N = 0 := by
  unfold uH; rw [if_neg (by rw [h]; simp), if_neg (by rw [hm]; simp), if_neg (by omega), if_neg (by simp [he])]
theorem Ou {s : aH} (h : gU s = true) : s.q <= 200 /\ s.n <= 300 /\ (∀ i, i < s.q -> nD s.dn 10001 i) := by
  unfold gU at h
  simp only [Bool.and_eq_true] at h
  have h1 := of_decide_eq_true h.1.1.1
  have h2 := of_decide_eq_true h.2
  exact ⟨h1.1, h2.1, h1.2⟩
end Go.Proofs.YtcfechepbamhkaaGreat
set_option maxRecDepth 100000
set_option maxHeartbeats 4000000
namespace Go.Proofs.YtcfechepbamhkaaGreat
open Go.RowKit Go.Sea
open Nat renaming reduceAdd -> xA, reduceLT -> xL, reduceLeDiff -> xD, reduceEqDiff -> xE, reduceMul -> xM, reduceSub -> xS, reduceBEq -> xB
theorem WY : aN Tryz.prog 135 = true := by kernel_rfl
theorem iP : aN Tryz.prog 18 = true := by kernel_rfl
theorem CX : aN Tryz.prog 100 = true := by kernel_rfl
theorem Jf : aN Tryz.prog 134 = true := by kernel_rfl
theorem alA : fM Tryz.prog 58 = true := by kernel_rfl
theorem abC : dF Tryz.prog 94 0 = some 0 := by kernel_rfl
theorem alV : fV Tryz.prog 28 = some [.iv (.g (.int .i64 0)), .iv (.g (.int .i64 0)), .iv (.g (.int .i64 0)), .iv (.g (.int .i64 0)), .iv (.g (.int .i64 0)), .iv (.g (.int .i64 0)), .iv (.g (.slice none 0 0))] := by kernel_rfl
attribute [go_sem] iP CX Jf alA abC alV
theorem tQ {q : Nat} {a : Nat -> Int} {nu : Int} (h : ∀ i, i < q -> nD a nu i) {i : Nat} : ∀ j, i < j -> j < q -> a i < a j
  | 0, hij, _ => absurd hij (Nat.not_lt_zero _)
  | j + 1, hij, hj => by
    have h1 := (h (j + 1) hj).2.2 (by omega)
    rw [Nat.add_sub_cancel] at h1
    by_cases e : i = j
    · subst e; exact h1
    · have := tQ (i := i) h j (by omega) (by omega)
      omega
theorem RJ {zs : List Int} {x : Int} {i : Nat} (hi : i <= zs.length) (h1 : ∀ j, j < i -> zs.getD j 0 < x) (h2 : ∀ j, i <= j -> j < zs.length -> ¬ zs.getD j 0 < x) : zs.countP (fun z => decide (z < x)) = i := by
  have e : zs = zs.take i ++ zs.drop i := (List.take_append_drop i zs).symm
  rw [e, List.countP_append]
  have e1 : (zs.take i).countP (fun z => decide (z < x)) = (zs.take i).length := List.countP_eq_length.2 fun z hz => by
    obtain ⟨j, hj, rfl⟩ := List.getElem_of_mem hz
    have hj' : j < i := by rw [List.length_take] at hj; omega
    have := h1 j hj'
    rw [List.getD, List.getElem?_eq_getElem (by omega)] at this
    simpa using this
  have e2 : (zs.drop i).countP (fun z => decide (z < x)) = 0 := List.countP_eq_zero.2 fun z hz => by
    obtain ⟨j, hj, rfl⟩ := List.getElem_of_mem hz
    have hj' : i + j < zs.length := by rw [List.length_drop] at hj; omega
    have := h2 (i + j) (by omega) hj'
    rw [List.getD, List.getElem?_eq_getElem hj'] at this
    simpa using this
  rw [e1, e2, List.length_take]; omega
theorem jD {b : Nat -> Bool} {k : Nat} : (∀ j, j < j3 b k -> b j = false) /\ (j3 b k < k -> b (j3 b k) = true) := by
  by_cases h : j3 b k < k
  · exact ⟨(GL k h).2, fun _ => (GL k h).1⟩
  · refine ⟨fun j hj => ?_, fun h' => absurd h' h⟩
    have hk : j3 b k = k := by have := qJ b k; omega
    rw [hk] at hj
    clear h
    induction j using Nat.strongRecOn with
    | _ j ih =>
      cases hb : b j with
      | false => rfl
      | true =>
        have := lC hb (fun q hq => ih q hq (by omega)) k hj
        omega
theorem Pj {zs : List Int} {x : Int} {j : Nat} (h : j < kr zs x) : zs.getD j 0 < x := by
  have := (jD (b := fun i => decide (¬ zs.getD i 0 < x)) (k := zs.length)).1 j h
  have := of_decide_eq_false this
  omega
theorem Ny {zs : List Int} {x : Int} (h : kr zs x < zs.length) : ¬ zs.getD (kr zs x) 0 < x := of_decide_eq_true ((jD (b := fun i => decide (¬ zs.getD i 0 < x)) (k := zs.length)).2 h)
theorem UF {q : Nat} {a : Nat -> Int} {x : Int} (hs : ∀ i j, i < j -> j < q -> a i < a j) : (lM q a).countP (fun z => decide (z < x)) = kr (lM q a) x := by
  refine RJ (nA _ _) (fun j hj => Pj hj) fun j h1 h2 => ?_
  have hp := Ny (zs := lM q a) (x := x) (by omega)
  rw [iZ] at h2
  rw [oM (by have := nA (lM q a) x; rw [iZ] at this; omega)] at hp
  rw [oM h2]
  by_cases e : kr (lM q a) x = j
  · rw [e] at hp; exact hp
  · have := hs (kr (lM q a) x) j (by omega) h2
    omega
theorem OB (q : Nat) (a : Nat -> Int) (x : Int) : (lM q a).contains x = gq q a x := by
  refine Bool.eq_iff_iff.2 ?_
  unfold gq
  simp [lM]
theorem amm (q : Nat) (a : Nat -> Int) (x : Int) (hq : q <= 1000000) (hs : ∀ i j, i < j -> j < q -> a i < a j) : aA Tryz.prog 100 [.one (.lst 1 q (bn a)), .one (.g (.int .i64 x))] (.tup [.one (.g (.int .i64 (kr (lM q a) x : Nat))), .one (.g (.bool (gq q a x)))]) := by
  intro w Z vs hZ hv
  obtain ⟨vs⟩ := vs
  match vs, hv with
  | [v, v2], ⟨hv, h2, _⟩ =>
    have e2 : v2 = .int .i64 x := by cases h2; rfl
    subst e2
    have hv : Rd w Z v (.lst 1 q (bn a)) := hv
    cases hv with
    | nil p cap =>
      refine (Tryz.slices_BinarySearch_int_empty p cap x w).mono fun e w' ⟨he, hw⟩ => ?_
      subst hw
      have e1 : kr (lM 0 a) x = 0 := rfl
      have e2 : gq 0 a x = false := decide_eq_false fun ⟨i, h, _⟩ => absurd h (Nat.not_lt_zero _)
      refine ⟨_, he, Below.refl _ _, _, rfl, ?_, ?_, trivial⟩
      · rw [e1]; exact Rd.g _ rfl
      · rw [e2]; exact Rd.g _ rfl
    | lst b off _ cap _ _ X hz hn hm h1 h2 =>
      have hc : ∀ j, j < (lM q a).length -> w.cell? ⟨b, off + j, none⟩ = some (.int .i64 ((lM q a).getD j 0)) := fun j hj => by
        rw [iZ] at hj
        have k1 := h1 j 0 hj (by omega)
        have k2 := h2 j 0 hj (by omega)
        rw [Nat.mul_one, Nat.add_zero] at k1
        rw [k1, oM hj]
        have : X j 0 = .int .i64 (a j) := by
          generalize X j 0 = y at k2
          have k2 : Rd w Z y (.g (.int .i64 (a j))) := k2
          cases k2; rfl
        rw [this]
      have hso : ((lM q a).take q).Pairwise (· <= ·) := by
        rw [List.take_of_length_le (by rw [iZ]; exact Nat.le_refl _)]
        unfold lM
        rw [List.pairwise_map]
        refine List.Pairwise.imp_of_mem (fun {i j} hi hj hij => ?_) (List.pairwise_lt_range (n := q))
        have := hs i j hij (List.mem_range.1 hj)
        omega
      refine (Tryz.slices_BinarySearch_int b off q cap (lM q a) x w (by rw [iZ]; exact Nat.le_refl _) (by omega) hc hso).mono fun e w' ⟨he, n, hw⟩ => ?_
      subst hw
      rw [List.take_of_length_le (by rw [iZ]; exact Nat.le_refl _), UF hs, OB] at he
      exact ⟨_, he, ⟨rfl, rfl, rfl, Nat.le_refl _, fun _ _ => rfl⟩, _, rfl, Rd.g _ rfl, Rd.g _ rfl, trivial⟩
def Ey : eH := ⟨0, 0, fun _ => 0, 0, fun _ => Ti 0 0⟩
def jr (N : ah) (ch : Int) : eH := if iQ N ch = true then prt N ch else Ey
theorem aje {N : ah} {ch : Int} {i : Nat} (hi : (i : Int) < N.n) (h : (N.p i).ch = ch) (g : ∀ j, j < i -> (N.p j).ch ≠ ch) : jr N ch = N.p i /\ iQ N ch = true := by
  have e := WE hi h g
  have e2 : iQ N ch = true := decide_eq_true (by rw [e]; omega)
  refine ⟨?_, e2⟩
  unfold jr prt; rw [if_pos e2, e]
theorem ahN {N : ah} {ch : Int} {i : Nat} (hi : (N.n : Int) <= i) (g : ∀ j, j < i -> (N.p j).ch ≠ ch) : jr N ch = Ey /\ iQ N ch = false := by
  have e2 : iQ N ch = false := decide_eq_false (by rw [U2 hi g]; omega)
  refine ⟨?_, e2⟩
  unfold jr; rw [if_neg (by rw [e2]; simp)]
theorem amf {n : Nat} {N : Nat -> ah} {i : Nat} (hi : (n : Int) <= i) (g : ∀ j, j < i -> AZ N j) : decide ((n : Int) <= 200) = uw n N := by
  unfold uw; exact decide_eq_decide.2 ⟨fun h => ⟨by omega, fun j hj => g j (by omega)⟩, fun h => by omega⟩
theorem aag (n : Nat) (N : Nat -> ah) (hn : n <= 9223372036854775807) (hN : ∀ i, i < n -> (N i).Ok) : aA Tryz.prog 82 [.one (.lst 7 n (eP N))] (.t (.one (.g (.bool (uw n N))))) := by
  refine ak Tryz.func82 rfl (by rw [Tryz.ntmps82]; simp) ?_
  simp only [Tryz.ntmps82, zM, PT.tv, au, Nat.zero_add, Nat.reduceAdd]
  repeat' (first
 | ((with_reducible show AW _ _ _ _); first
 | (with_reducible first | refine aS (fun K hK => ?_) | refine aI ?_ | refine aX ?_ | refine aT ?_ | refine aC ?_ | refine aB ?_)
 | (first
 | (with_reducible first | refine aP 0 [0] ?_ | refine aP 1 [0] ?_ | refine aP 2 [0,5,6,7] ?_ | refine aP 3 [0,5,6,7] ?_)
 | ((with_reducible refine aR (c := Code.region 4 _ true) [0,3,4,5,6,7] ?_); (with_reducible refine aD ?_ ?_ ?_ ?_); (focus kernel_rfl); (focus kernel_rfl); (focus kernel_rfl))
 | (with_reducible first | refine aP 5 [] ?_ | refine aP 6 [0,5,6,7] ?_ | refine aP 7 [0] ?_))
 | ((with_reducible show AW _ (Code.loop _) _ _); first
 | ((with_reducible refine aL (c := (Code.seq (Code.region 2 _ _) _)) (ι := Nat) [0,5,6] (fun i => [(7, iA .i64 (i : Int))]) (fun i => []) (fun i => i <= n /\ (∀ j, j < i -> AZ N j)) (fun i => n - i) 0 ?lg2 ?l12 ?l22 ?li2 ?lr2); (case' lg2 => rintro i _); (case' li2 => try (exact ⟨Nat.zero_le _, fun i hi => absurd hi (Nat.not_lt_zero _)⟩)); (case' lr2 => rintro i ⟨hi, hai⟩ KR hR2; simp only [bI, dI, hset, lk, if_true, if_false, xE, reduceIte, zN]))))
 | ((first | (with_reducible refine And.intro ?_ ?_) | (with_reducible refine Need.mk ?_)); focus (first | exact True.intro | omega | (intros; (repeat' (first | omega | (with_reducible refine And.intro ?_ ?_))); done) | (simp; done) | (simp +contextual; done) | (intro hq; have hq2 := hq; simp only [Bool.and_eq_true, Bool.or_eq_true, Bool.not_eq_true', Bool.not_not, Bool.not_eq_false', decide_eq_true_eq, decide_eq_false_iff_not] at hq2; (repeat' (first | exact hq | (with_reducible refine And.intro ?_ ?_) | omega)); done)))
 | (with_reducible refine aJ ?_)
 | ((with_reducible show bL _ _ _ _ _ _); first
 | ((with_reducible refine aM ?_ ?_) <;> (intro hc; (try simp only [zB, zC, reduceCtorEq] at hc); (try (exfalso; contradiction)))))
 | ((with_reducible refine And.intro ?_ ?_); focus ((with_reducible show gW _ _ _ = true); kernel_rfl))
 | ((with_reducible show eu _ _ _ _ _ _ _ _ _ _ _ _ _); first
 | (refine cB (k := 18) iP (nX (N i) (hN i (by omega))) ?_ ?_))
 | ((with_reducible refine hR2 _ (i + 1) ?_); (try clear hR2 KR))
 | ((with_reducible refine Told.mk ?_); simp only [go_sem, reduceIte, reduceCtorEq, xA, xL, xD, xE, xM, xS, xB] <;> ((((try simp (disch := omega) only [aV, Int.natCast_add, Int.cast_ofNat_Int, and_true, true_and, and_self]); (repeat' (first | omega | (with_reducible refine And.intro ?_ ?_) | ((exact all_succ (by assumption) ⟨by simp_all, by omega, fun h0 => by omega⟩)))); done))))
 | ((fail_if_success (with_reducible show AW _ _ _ _)); simp (maxSteps := 2000000) only [go_sem, reduceIte, reduceCtorEq, xA, xL, xD, xE, xM, xS, xB, Tryz.f82])
 | ((fail_if_success (with_reducible show AW _ _ _ _)); simp (disch := omega) only [aV, ig, iq])
 | ((with_reducible refine hK _ ?_); clear hK K)
 | (with_reducible apply_assumption -exfalso only [*]))
  all_goals (first | exact K5 (by assumption) hc | exact amf (by assumption) hai)
theorem UY (s : aH) (x : Int) (hs : s.Ok) (hv : gU s = true) : aA Tryz.prog 98 [(qy s), .one (.g (.int .i64 x))] (.t (.one (.g (.bool (gq s.q s.dn x))))) := by
  have hsq := Ou hv
  refine ak Tryz.func98 rfl (by rw [Tryz.ntmps98]; simp) ?_
  simp only [qy, Tryz.ntmps98, zM, PT.tv, au, Nat.zero_add, Nat.reduceAdd]
  repeat' (first
 | ((with_reducible show AW _ _ _ _); first
 | (with_reducible first | refine aS (fun K hK => ?_) | refine aT ?_)
 | (first
 | (with_reducible first | refine aP 0 [0,1] ?_ | refine aP 1 [1,2] ?_ | refine aP 2 [6] ?_)))
 | (((with_reducible refine Need.mk ?_)); focus (exact True.intro))
 | (with_reducible refine aJ ?_)
 | ((with_reducible show aQ _ _ _ _ _ _ _ _ _ _); first
 | (refine aF (k := 100) CX (amm s.q s.dn x (by omega) (fun i j h1 h2 => tQ hsq.2.2 j h1 h2)) ?_ ?_))
 | ((fail_if_success (with_reducible show AW _ _ _ _)); simp (maxSteps := 2000000) only [go_sem, reduceIte, reduceCtorEq, xA, xL, xD, xE, xM, xS, xB, Tryz.f98])
 | ((with_reducible refine hK _ ?_); clear hK K))
theorem Gs (N : ah) (ch : Int) (ho : N.Ok) : aA Tryz.prog 96 [(DV N), .one (.g (.int .i64 ch))] (.tup [.agg [.g (.int .i64 (jr N ch).ch), .lst 1 (jr N ch).q (bn (jr N ch).a), .lst 16 (jr N ch).k (iR (jr N ch).o)], .one (.g (.bool (iQ N ch)))]) := by
  have hnn := ho.n
  refine ak Tryz.func96 rfl (by rw [Tryz.ntmps96]; simp) ?_
  simp only [DV, Tryz.ntmps96, zM, PT.tv, au, Nat.zero_add, Nat.reduceAdd]
  repeat' (first
 | ((with_reducible show AW _ _ _ _); first
 | (with_reducible first | refine aS (fun K hK => ?_) | refine aI ?_ | refine aX ?_ | refine aT ?_ | refine aC ?_ | refine aB ?_)
 | (first
 | (with_reducible first | refine aP (ops := #[⟨some 2, _, _, _, _, _⟩, _, _, _]) 0 [0,1] ?_ | refine aP (ops := #[⟨some 4, _, _, _, _, _⟩]) 0 [0,1] ?_ | refine aP (ops := #[⟨some 2, _, _, _, _, _⟩, _]) 0 [0,1] ?_ | refine aP (ops := #[⟨some 7, _, _, _, _, _⟩, _, _, _, _]) 1 [2,3,4] ?_ | refine aP (ops := #[⟨some 6, _, _, _, _, _⟩, _, _]) 1 [0,1] ?_ | refine aP (ops := #[⟨some 4, _, _, _, _, _⟩, _, _, _, _]) 1 [1,2] ?_ | refine aP (ops := #[⟨some 11, _, _, _, _, _⟩, _]) 2 [2,4,6] ?_ | refine aP (ops := #[⟨some 9, _, _, _, _, _⟩]) 2 [0,1,7,8] ?_ | refine aP (ops := #[⟨some 13, _, _, _, _, _⟩, _, _]) 3 [4] ?_ | refine aP (ops := #[⟨some 10, _, _, _, _, _⟩, _]) 3 [0,1,7,8] ?_ | refine aP (ops := #[⟨some 14, _, _, _, _, _⟩, _, _, _, _, _, _]) 4 [2,4,6] ?_ | refine aP (ops := #[⟨some 11, _, _, _, _, _⟩, _, _, _, _, _]) 4 [0,1,5,7,8] ?_ | refine aP 5 [5] ?_ | refine aP 6 [0,1,7,8] ?_ | refine aP 7 [] ?_))
 | ((with_reducible show AW _ (Code.loop _) _ _); first
 | ((with_reducible refine aL (c := (Code.seq (Code.region 2 _ _) _)) (ι := Nat) [0,1,7] (fun i => [(8, iA .i64 (i : Int))]) (fun i => []) (fun i => i <= N.n /\ (∀ j, j < i -> (N.p j).ch ≠ ch)) (fun i => N.n - i) 0 ?lg2 ?l12 ?l22 ?li2 ?lr2); (case' lg2 => rintro i _); (case' li2 => try (exact ⟨Nat.zero_le _, fun i hi => absurd hi (Nat.not_lt_zero _)⟩)); (case' lr2 => rintro i ⟨hi, hai⟩ KR hR2; simp only [bI, dI, hset, lk, if_true, if_false, xE, reduceIte, zN]))))
 | (((with_reducible refine And.intro ?_ ?_)); focus (omega))
 | (with_reducible refine aJ ?_)
 | ((with_reducible show bL _ _ _ _ _ _); first
 | ((with_reducible refine aM ?_ ?_) <;> (intro hc; (try simp only [zB, zC, reduceCtorEq] at hc); (try (exfalso; contradiction)))))
 | ((with_reducible refine hR2 _ (i + 1) ?_); (try clear hR2 KR))
 | ((with_reducible refine Told.mk ?_); simp only [go_sem, reduceIte, reduceCtorEq, xA, xL, xD, xE, xM, xS, xB, bn] <;> ((((try simp (disch := omega) only [aV, Int.natCast_add, Int.cast_ofNat_Int, and_true, true_and, and_self]); (repeat' (first | omega | (with_reducible refine And.intro ?_ ?_) | (exact all_succ (by assumption) (by assumption)))); done))))
 | ((fail_if_success (with_reducible show AW _ _ _ _)); simp (maxSteps := 2000000) only [go_sem, reduceIte, reduceCtorEq, xA, xL, xD, xE, xM, xS, xB, Tryz.f96, Tryz.f134, Tryz.f135, bn])
 | ((with_reducible show aQ _ _ _ _ _ _ _ _ _ _); first
 | ((refine dA (k := 134) Tryz.func134 rfl Jf (by rw [Tryz.ntmps134]; simp) ?_ ?_ (fun K hK => ?_)); (focus (exact True.intro)); (focus ((simp [jF]; done))); simp only [Tryz.ntmps134, List.map_cons, List.map_nil, List.nil_append, List.cons_append, List.append_nil, LV.tv, au, Nat.zero_add, Nat.reduceAdd])
 | ((refine nM (k := 135) Tryz.func135 rfl WY (by rw [Tryz.ntmps135]; simp) ?_ ?_ (fun K hK => ?_)); (focus (exact True.intro)); (focus ((simp [jF]; done))); simp only [Tryz.ntmps135, List.map_cons, List.map_nil, List.nil_append, List.cons_append, List.append_nil, LV.tv, au, Nat.zero_add, Nat.reduceAdd]))
 | ((with_reducible refine hK _ ?_); clear hK K)
 | (with_reducible apply_assumption -exfalso only [*]))
  all_goals (first | (have e := aje (by assumption) (by assumption) hai; rw [e.1, e.2]; (repeat' (first | exact rfl | (with_reducible refine And.intro ?_ ?_) | (intro i q hi hq; exact IV.bf _) | (intro i q hi hq; exact rfl))); done) | (have e := ahN (by assumption) hai; rw [e.1, e.2]; (repeat' (first | exact rfl | (with_reducible refine And.intro ?_ ?_))); done))
end Go.Proofs.YtcfechepbamhkaaGreat
namespace Go.Proofs.YtcfechepbamhkaaGreat
open Go.RowKit Go.Sea Go.Lib
theorem agc : Tryz.prog.underlying 36 = some (.slice 3) := by kernel_rfl
theorem anl : (Tryz.prog.info? 3).map (fun i => (i.size, i.bytes, i.zero.map (·.cells.size))) = some (1, 8, some 1) := by kernel_rfl
set_option maxHeartbeats 4000000 in
set_option maxRecDepth 100000 in
set_option maxHeartbeats 2000000 in
theorem SV (cap : Nat) (w : World) : Calls Tryz.prog 102 #[.slice none 0 cap] w fun e w' => e = .returned (.slice none 0 0) /\ w' = w := by
  have q : (binOp .eql 36 (.slice none 0 cap) (.slice none 0 0)).run Tryz.prog w = .ok (.bool true) w := run_eql_slice_nil w 36 3 none 0 cap agc
  go_enter Tryz.func102, Tryz.ntmps102
  go_wp2
  go_ret
  exact ⟨rfl, rfl⟩
set_option maxHeartbeats 4000000 in
set_option maxRecDepth 100000 in
theorem AB (p : Addr) (n cap : Nat) (w w' : World) (u : Value) (h : ∀ ty, (Builtin.append_ #[36,36] ty #[.slice (some ⟨w.heap.size, 0, none⟩) 0 0, .slice (some p) n cap]).run Tryz.prog (w.alloc (.cells #[] 3)) = .ok u w') : Calls Tryz.prog 102 #[.slice (some p) n cap] w fun e w'' => e = .returned u /\ w'' = w' := by
  have q : (binOp .eql 36 (.slice (some p) n cap) (.slice none 0 0)).run Tryz.prog w = .ok (.bool false) w := run_eql_slice_nil w 36 3 (some p) n cap agc
  go_enter Tryz.func102, Tryz.ntmps102
  go_wp2_with (at_builtin; refine Lib.wpList_append_run _ rfl _ _ _ _ rfl _ _ rfl rfl _ _ (h _) ?_)
  all_goals (go_ret; exact ⟨rfl, rfl⟩)
theorem mX (w : World) (o : Obj) : Below w.heap.size w (w.alloc o) := by
  refine ⟨rfl, rfl, rfl, by simp, fun k hk => ?_⟩
  exact Below.heap_alloc _ _ _ hk
set_option maxHeartbeats 2000000 in
theorem ac2 (n : Nat) (f : Nat -> Nat -> IV) (hn : n <= 1000) : l8 Tryz.prog 102 [.one (.iv (.lst 1 n f))] (eG f 1 n 0) (fun i => .t (.one (.slc i 0 n 1))) := by
  intro H i hH w0 Z0 J Z s a w vs R hs hv
  subst hs
  obtain ⟨vs⟩ := vs
  match vs, hv with
  | [v], ⟨hv, _⟩ =>
    have hv : Rd w Z v (.lst 1 n f) := hv
    have hlen : (eG f 1 n 0).length = n * 1 := gI f 1 n 0
    have empty : ∀ (p : Addr) (cap : Nat), n = 0 -> v = .slice (some p) 0 cap -> Calls Tryz.prog 102 #[v] w fun e w' => ∃ v J' Z', e = .returned v /\ Rel w0 Z0 J' Z' { s with heap := hset s.heap i (eG f 1 n 0) } a w' /\ bD w' J' Z' v (.t (.one (.slc i 0 n 1))) := fun p cap h0 ev => by
      subst h0; subst ev
      obtain ⟨ii, h33⟩ : ∃ ii, Tryz.prog.info? 3 = some ii := by
        have := anl
        cases h : Tryz.prog.info? 3 with
        | none => rw [h] at this; cases this
        | some i => exact ⟨i, rfl⟩
      refine (AB p 0 cap w _ _ fun ty => gX agc h33 _ _ 0 0 cap (Nat.le_refl _)).mono fun e w' ⟨he, hw⟩ => ?_
      subst hw
      have R1 := R.new (nid := i) (cs := []) (c := #[]) (e := 3) (H := hset s.heap i []) hH (aG _ _ _) (fun q hq => aK _ _ _ _ hq) (by simp [aU])
      exact ⟨_, _, _, he, R1, Or.inr ⟨w.heap.size, 0, #[], 3, rfl, by simp [gy], Nat.zero_le _, Nat.zero_le _, heap_alloc_new w _, by simp⟩⟩
    have hv0 := hv
    cases hv with
    | nil p cap =>
      cases p with
      | none =>
        refine (SV cap w).mono fun e w' ⟨he, hw⟩ => ?_
        subst hw
        exact ⟨_, J, Z, he, R.pV (nid := i) hH (by rw [aG]; rfl) (fun q hq => aK _ _ _ _ hq), Or.inl ⟨rfl, rfl⟩⟩
      | some p => exact empty p cap rfl rfl
    | lst b off _ cap _ _ X hz hc hm h1 h2 =>
      by_cases h0 : n = 0
      · exact empty ⟨b, off, none⟩ cap h0 (by rw [h0])
      · obtain ⟨hR1, G⟩ := R.call (mX w (.cells #[] 3))
        have hv1 : cu (w.alloc (.cells #[] 3)) J (fun b => Z b \/ (w.heap.size <= b /\ b < (w.alloc (.cells #[] 3)).heap.size)) (.slice (some ⟨b, off, none⟩) n cap) (.one (.iv (.lst 1 n f))) := bM.grow G (CV.bZ (.iv (.lst 1 n f))) hv0
        obtain ⟨ii, z, t1, t2, t3, t4, t5, t6, t7⟩ := gY (P := Tryz.prog) (t := 36) (e := 3) (n := 1) (b := 8) (by kernel_rfl)
        rcases ko hR1 (size := 1) (m := n) (nd := True) (x := .one (.iv (.lst 1 n f))) (ns := eG f 1 n 0) (by simp [x9]) trivial hv1 with ⟨h, _⟩ | ⟨hpos, b2, off2, cap2, news, e2, n1, n2, n3, n4⟩
        · exact absurd h h0
        · cases e2
          have hrun := fun ty => run_append_grow (P := Tryz.prog) (w.alloc (.cells #[] 3)) 36 ty 3 ii z t1 t2 t3 ⟨w.heap.size, 0, none⟩ 0 0 [] (by simp) (fun j v h => by simp at h) ⟨b, off, none⟩ n cap news (by rw [n1, t5]) n2 (by omega) (by omega) (by
            rw [t6]; exact growslice_fits (by omega) (by omega))
          simp only [Nat.zero_add] at hrun
          have hsz := grownCap_ge (w.alloc (.cells #[] 3)) n 0 3
          have hmx := grownCap_le_maxLen (w.alloc (.cells #[] 3)) n 0 3 (by unfold maxLen; omega)
          generalize grownCap (w.alloc (.cells #[] 3)) n 0 3 = G at hrun hsz hmx
          have hC : G * 1 <= (([] : List Value).toArray ++ news.toArray ++ Builtin.zeroCells z.cells (G - n)).size := by
            simp only [Array.size_append, size_zeroCells, t4, List.size_toArray, n1, List.length_nil]
            omega
          have hD : aU (bM (w.alloc (.cells #[] 3)) J (fun b => Z b \/ (w.heap.size <= b /\ b < (w.alloc (.cells #[] 3)).heap.size))) ((([] : List Value).toArray ++ news.toArray ++ Builtin.zeroCells z.cells (G - n)).toList.take (eG f 1 n 0).length) (eG f 1 n 0) := by
            rw [Array.toList_append, Array.toList_append, List.nil_append, List.take_append_of_le_length (by simp; omega), List.take_of_length_le (by simp; omega)]
            exact n4
          generalize ([] : List Value).toArray ++ news.toArray ++ Builtin.zeroCells z.cells (G - n) = C at hrun hC hD
          have cl := AB ⟨b, off, none⟩ n cap w _ _ hrun
          have R2 := (hR1.drew).new (nid := i) (cs := eG f 1 n 0) (c := C) (e := 3) (H := hset s.heap i (eG f 1 n 0)) hH (aG _ _ _) (fun q hq => aK _ _ _ _ hq) (lX hD)
          have hA := heap_alloc_new (w.alloc (.cells #[] 3)).drew (.cells C 3)
          generalize hw1 : w.alloc (.cells #[] 3) = w1 at cl R2 hA
          refine cl.mono fun e w' ⟨he, hw⟩ => ?_
          subst hw
          exact ⟨_, _, _, he, R2, Or.inr ⟨_, _, _, 3, rfl, by simp [gy], hsz, hmx, hA, by rw [Nat.zero_add]; exact hC⟩⟩
end Go.Proofs.YtcfechepbamhkaaGreat
