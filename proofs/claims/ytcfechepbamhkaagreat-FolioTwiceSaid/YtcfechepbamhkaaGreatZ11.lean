/- Part 11 of 17: contracts of functions and plain laws for the root text. No condition. -/
import Derived.Test.YtcfechepbamhkaaGreatZ01
import Derived.Test.YtcfechepbamhkaaGreatZ02
import Derived.Test.YtcfechepbamhkaaGreatZ03
import Derived.Test.YtcfechepbamhkaaGreatZ04
import Derived.Test.YtcfechepbamhkaaGreatZ05
import Derived.Test.YtcfechepbamhkaaGreatZ06
import Derived.Test.YtcfechepbamhkaaGreatZ07
import Derived.Test.YtcfechepbamhkaaGreatZ08
import Derived.Test.YtcfechepbamhkaaGreatZ09
import Derived.Test.YtcfechepbamhkaaGreatZ10
set_option linter.unusedVariables false
set_option linter.unusedSimpArgs false
namespace Go.Proofs.YtcfechepbamhkaaGreat
open Go.RowKit Go.Sea
def Er (s s' : AS) : Prop := ∀ (w0 : World) (Z0 : Fr) (a : Act) (w : World), mJ w0 Z0 s a w -> mJ w0 Z0 s' a w
def XI (P : Program) (o : Oper) (s s' : AS) : Prop := o.guard = none /\ ∀ (w0 : World) (Z0 : Fr) (a : Act) (w : World) (K : Act -> World -> Prop) (Q : Exit -> Act -> World -> Prop) (n : Nat), mJ w0 Z0 s a w -> (∀ a' w', mJ w0 Z0 s' a' w' -> K a' w') -> o.wpIn (fo Z0.ro) n P a w K Q
theorem MU {P : Program} {s : AS} {Q : Exit -> AS -> Prop} {id : Nat} {ops : Array Oper} (S : (Nat -> Bool) -> AS) (hm : P.follows .mixedOrders = true) (hback : pY .any ops = true) (hd : iX ops = true) (h0 : Er s (S fun _ => false))
    (hs : ∀ i o, ops[i]? = some o -> ∀ D, Closed .any ops D -> D i = false -> (o.after.toList.all fun e => !Region.binds .any e || D e.on) = true -> XI P o (S D) (S (upd D i)))
    (hq : ∀ D, (∀ i, i < ops.size -> D i = true) -> ∃ s', Er (S D) s' /\ Q .normal s') : AW P (.region id ops true) s Q := fun w0 Z0 a w n R => by
  refine oJ (dW _) (fun _ D a w => mJ w0 Z0 (S D) a w) hm hd hback ?_ ?_ fun D a w hD R' => ?_
  · obtain ⟨J, Z, R⟩ := h0 _ _ _ _ R
    exact ⟨J, Z, R.drew⟩
  · refine kE.of ops.toList 0 fun i o ho D a w R' hDi hpre hcl K hK => ?_
    rw [Nat.zero_add] at hDi
    simp only [Nat.zero_add] at hK
    have hoi : ops[i]? = some o := by rw [<- Array.getElem?_toList]; exact ho
    obtain ⟨hg, hst⟩ := hs i o hoi D hcl hDi hpre
    have hw : Region.wanted o (yielded ops a.tmps) = true := by simp [Region.wanted, hg]
    rw [if_pos hw]
    exact hst w0 Z0 a w _ _ _ R' hK
  · obtain ⟨s', h1, h2⟩ := hq D hD
    exact ⟨s', h1 _ _ _ _ R', h2⟩
theorem kL {s s' : AS} (hN : s'.N = s.N) (hg : s'.gh = s.gh) (hl : s'.lp = s.lp) (he : ∀ t, s'.get t = s.get t \/ s'.get t = .any) (hh : ∀ q, hget s'.heap q = hget s.heap q) : Er s s' := fun w0 Z0 a w ⟨J, Z, R⟩ =>
  ⟨J, Z, R.nodef, by rw [hN]; exact R.size, R.below, R.zfrom, R.zlt, R.jlt, R.inj, fun i hi => R.hole i ((hh i).symm.trans hi), fun i cs hi => R.blk i cs ((hh i).symm.trans hi), fun t => by
    rcases he t with e | e
    · show bD _ _ _ _ (s'.get t); rw [e]; exact R.slots t
    · show bD _ _ _ _ (s'.get t); rw [e]; trivial, fun f t => by rw [hg]; exact R.ghost f t, by rw [hl]; exact R.loops, by rw [hl]; exact R.lnd, by rw [hl]; exact R.ro⟩
theorem Gn {P : Program} {o : Oper} {s s' : AS} {nid : Nat} {nd : Prop} {v : AV} {ef : Eff} (hg : o.guard = none) (hd : ∀ c, o.op ≠ .defer c) (hh : hget s.heap nid = none) (hdst : gM s o.dst) (hop : kV P nid s.ev (hget s.heap) o = some (nd, v, ef)) (hn : nd) (ht : Er (s.ent o.dst nid v ef) s') : XI P o s s' :=
  ⟨hg, fun w0 Z0 a w K Q n ⟨J, Z, R⟩ hK => d9 (dW _) hd (qD (lW R hh hop hn) fun J' w' u R' hr => hK _ _ (ht _ _ _ _ ⟨J', Z, R'.put (fun k e => by rw [Ep]; exact dO hdst k e) hr⟩))⟩
structure En where
  t : Nat
  c : (Nat -> Bool) -> Bool
  x : TV
def j5 (tb : List En) (D : Nat -> Bool) : List (Nat × AV) := tb.map fun e => (e.t, bif e.c D then .t e.x else .any)
theorem zU {D D' : Nat -> Bool} {t0 : Nat} {x0 : TV} {E0 : List (Nat × AV)} : ∀ (tb : List En), (∀ e, e ∈ tb -> if e.t = t0 then e.x = x0 else (e.c D' = true -> e.c D = true)) -> t0 ∈ tb.map (·.t) ->
    ∀ t, lk (j5 tb D' ++ E0) t = lk ((t0, .t x0) :: (j5 tb D ++ E0)) t \/ lk (j5 tb D' ++ E0) t = .any := by
  have key : ∀ (tb : List En), (∀ e, e ∈ tb -> if e.t = t0 then e.x = x0 else (e.c D' = true -> e.c D = true)) -> ∀ t, (t = t0 -> t0 ∈ tb.map (·.t)) -> lk (j5 tb D' ++ E0) t = (if t = t0 then .t x0 else lk (j5 tb D ++ E0) t) \/ lk (j5 tb D' ++ E0) t = .any := by
    intro tb
    induction tb with
    | nil => intro _ t ht; by_cases h : t = t0
             · simp at ht; exact absurd h ht
             · rw [if_neg h]; exact Or.inl rfl
    | cons e l ih =>
      intro h t ht
      show lk ((e.t, _) :: (j5 l D' ++ E0)) t = (if t = t0 then _ else lk ((e.t, _) :: (j5 l D ++ E0)) t) \/ lk ((e.t, _) :: (j5 l D' ++ E0)) t = .any
      simp only [lk]
      have he := h e (List.mem_cons_self ..)
      by_cases hte : t = e.t
      · rw [if_pos hte, if_pos hte]
        cases hc : e.c D' with
        | false => exact Or.inr rfl
        | true =>
          left
          by_cases h0 : t = t0
          · rw [if_pos h0]; rw [if_pos (by omega)] at he; exact congrArg AV.t he
          · rw [if_neg h0]; rw [if_neg (by omega)] at he; rw [he hc]
      · rw [if_neg hte, if_neg hte]
        exact ih (fun e' h' => h e' (List.mem_cons_of_mem _ h')) t fun e0 => by
          rcases List.mem_cons.1 (ht e0) with h1 | h1
          · exact absurd (e0.trans h1) hte
          · exact h1
  intro tb h ht t
  exact key tb h t fun _ => ht
theorem Ag {D D' : Nat -> Bool} {E0 : List (Nat × AV)} : ∀ (tb : List En), (∀ e, e ∈ tb -> e.c D' = true -> e.c D = true) -> ∀ t, lk (j5 tb D' ++ E0) t = lk (j5 tb D ++ E0) t \/ lk (j5 tb D' ++ E0) t = .any
  | [], _, t => Or.inl rfl
  | e :: l, h, t => by
    show lk ((e.t, _) :: (j5 l D' ++ E0)) t = lk ((e.t, _) :: (j5 l D ++ E0)) t \/ lk ((e.t, _) :: (j5 l D' ++ E0)) t = .any
    simp only [lk]
    by_cases hte : t = e.t
    · rw [if_pos hte, if_pos hte]
      cases hc : e.c D' with
      | false => exact Or.inr rfl
      | true => rw [h e (List.mem_cons_self ..) hc]; exact Or.inl rfl
    · rw [if_neg hte, if_neg hte]
      exact Ag l (fun e' h' => h e' (List.mem_cons_of_mem _ h')) t
theorem af2 {D : Nat -> Bool} {E0 : List (Nat × AV)} : ∀ (tb : List En), (∀ e, e ∈ tb -> e.c D = false) -> ∀ t, lk (j5 tb D ++ E0) t = lk E0 t \/ lk (j5 tb D ++ E0) t = .any
  | [], _, t => Or.inl rfl
  | e :: l, h, t => by
    show lk ((e.t, _) :: (j5 l D ++ E0)) t = _ \/ lk ((e.t, _) :: (j5 l D ++ E0)) t = .any
    simp only [lk]
    by_cases hte : t = e.t
    · rw [if_pos hte, h e (List.mem_cons_self ..)]; exact Or.inr rfl
    · rw [if_neg hte]
      exact af2 l (fun e' h' => h e' (List.mem_cons_of_mem _ h')) t
theorem Yp {D : Nat -> Bool} {E0 : List (Nat × AV)} {t : Nat} : ∀ (tb : List En), t ∉ tb.map (·.t) -> lk (j5 tb D ++ E0) t = lk E0 t
  | [], _ => rfl
  | e :: l, h => by
    show lk ((e.t, _) :: (j5 l D ++ E0)) t = _
    simp only [lk]
    rw [if_neg (by rintro rfl; exact h (by simp))]
    exact Yp l fun h' => h (by simp only [List.map_cons, List.mem_cons]; exact Or.inr h')
def adE (ops : Array Oper) (p : Nat × Nat) : Bool := ((masks [] ops.toList).getD p.1 0).testBit p.2
theorem akC {ops : Array Oper} {D : Nat -> Bool} (hcl : Closed .any ops D) {i k : Nat} {o : Oper} (ho : ops[i]? = some o) (hpre : (o.after.toList.all fun e => !Region.binds .any e || D e.on) = true) (h : adE ops (i, k) = true) : D k = true := (nS (ops := ops) h).done hcl o ho hpre
theorem akp {ops : Array Oper} {D : Nat -> Bool} (hcl : Closed .any ops D) {i k : Nat} (hi : D i = false) (hk : k < ops.size) (h : adE ops (k, i) = true) : D k = false := by
  cases hD : D k with
  | false => rfl
  | true =>
    have ho : ops[k]? = some ops[k] := Array.getElem?_eq_getElem hk
    have := (nS (ops := ops) h).done hcl _ ho (hcl k _ ho hD)
    rw [hi] at this; cases this
def fC (c r i8 i12 m p : Nat) (x : Int) (f8 : CV) (A : Nat -> Nat -> IV) : List En := [⟨76, fun D => D 0, .one (.ptr c 0)⟩, ⟨77, fun D => D 1, .one (.ptr c 0)⟩, ⟨78, fun D => D 2, .one f8⟩, ⟨79, fun D => D 3, .one (.ptr c 0)⟩, ⟨80, fun D => D 4, .one (.ptr c 0)⟩, ⟨81, fun D => D 5, .one (.ptr c 0)⟩, ⟨82, fun D => D 6, .one (.ptr c 11)⟩, ⟨83, fun D => D 7, .one (.iv (.lst 1 m A))⟩, ⟨84, fun D => (D 8 && !D 13), .one (.slc i8 0 m 1)⟩, ⟨85, fun D => D 9, .one (.iv (.g (.int .i64 (p : Int))))⟩, ⟨86, fun D => D 10, .one (.ptr r 1)⟩, ⟨87, fun D => D 11, .one (.iv (.g (.int .i64 x)))⟩, ⟨88, fun D => D 12, .one (.slc i12 0 1 1)⟩, ⟨89, fun D => D 13, .one (.slc i8 0 (m + 1) 1)⟩, ⟨90, fun D => D 14, .one (.ptr c 0)⟩, ⟨91, fun D => D 15, .one (.ptr c 0)⟩, ⟨92, fun D => D 16, .one (.ptr c 12)⟩, ⟨93, fun D => D 18, .one (.ptr c 0)⟩, ⟨94, fun D => D 19, .one (.ptr c 0)⟩, ⟨95, fun D => D 20, .one (.ptr c 11)⟩]
def pq (c i8 m : Nat) (f8 : CV) (cs : List CV) (D : Nat -> Bool) : List CV := bif D 21 then (cs.take 12 ++ [f8] ++ cs.drop 13).take 11 ++ [.slc i8 0 (m + 1) 1] ++ (cs.take 12 ++ [f8] ++ cs.drop 13).drop 12 else bif D 17 then cs.take 12 ++ [f8] ++ cs.drop 13 else cs
def iD (H0 : List (Option (List CV))) (c i8 i12 m p : Nat) (x : Int) (f8 : CV) (cs : List CV) (zs : List Int) (D : Nat -> Bool) : List (Option (List CV)) :=
  (fun H => bif D 12 then hset H i12 [.iv (.g (.int .i64 x))] else H) ((fun H => bif D 8 then hset H i8 (bif D 13 then dX (lZ zs p x) else dX zs) else H) (hset H0 c (pq c i8 m f8 cs D)))
theorem dP (H0 : List (Option (List CV))) (c i8 i12 m p : Nat) (x : Int) (f8 : CV) (cs : List CV) (zs : List Int) (D : Nat -> Bool) (q : Nat) : hget (iD H0 c i8 i12 m p x f8 cs zs D) q = if D 12 = true /\ q = i12 then some [.iv (.g (.int .i64 x))] else if D 8 = true /\ q = i8 then some (bif D 13 then dX (lZ zs p x) else dX zs) else if q = c then some (pq c i8 m f8 cs D) else hget H0 q := by
  have g : ∀ (H : List (Option (List CV))) (n k : Nat) (y : List CV), hget (hset H n y) k = if k = n then some y else hget H k := fun H n k y => by
    by_cases h : k = n
    · subst h; rw [if_pos rfl, aG]
    · rw [if_neg h, aK _ _ _ _ h]
  unfold iD
  cases D 12 <;> cases D 8 <;> simp [g]
theorem Dp (h : List (Option (List CV))) : hget h h.length = none := by simp [hget]
theorem Po {P : Program} {s : AS} {nid t ty : Nat} {d : Option Nat} {pos : String} {a : Array Edge} {y : TV} (h : s.get t = .t y) : kV P nid s.ev (hget s.heap) ⟨d, .move (.tmp t), ty, pos, a, none⟩ = some (True, .t y, .nop) := by
  unfold kV; simp only [AS.ev, h]
theorem uD {P : Program} {s : AS} {nid t k ty n i o : Nat} {d : Option Nat} {pos : String} {a : Array Edge} {cs : List CV} (hty : lQ P k = some (false, n)) (h : s.get t = .t (.one (.ptr i o))) (hh : hget s.heap i = some cs) : kV P nid s.ev (hget s.heap) ⟨d, .load k (.tmp t), ty, pos, a, none⟩ = some (True /\ o < cs.length, .t (.one (cs.getD o .any)), .nop) := by
  unfold kV; simp only [AS.ev, h, hty, AV.tv, TV.dp, p8, hh, cond_false, AV.nd]
theorem KX {P : Program} {s : AS} {nid t ty i o : Nat} {d : Option Nat} {pos : String} {a : Array Edge} (h : s.get t = .t (.one (.ptr i o))) : kV P nid s.ev (hget s.heap) ⟨d, .nilCheck (.tmp t), ty, pos, a, none⟩ = some (True, .t (.one (.ptr i o)), .nop) := by
  unfold kV uh; simp only [AS.ev, h, AV.tv, ncF, AV.nd]
theorem sV {P : Program} {s : AS} {nid t k f ty i o off : Nat} {d : Option Nat} {pos : String} {a : Array Edge} (hty : dF P k f = some off) (h : s.get t = .t (.one (.ptr i o))) : kV P nid s.ev (hget s.heap) ⟨d, .fieldAddr k (.tmp t) f, ty, pos, a, none⟩ = some (True /\ True, .t (.one (.ptr i (o + off))), .nop) := by
  unfold kV; simp only [AS.ev, h, hty, AV.tv, TV.dp, C9, AV.nd]
theorem II {P : Program} {s : AS} {nid t u k ty i o : Nat} {ag : Bool} {pos : String} {a : Array Edge} {y : CV} {cs : List CV} (hty : lQ P k = some (ag, 1)) (h : s.get t = .t (.one (.ptr i o))) (hu : s.get u = .t (.one y)) (hh : hget s.heap i = some cs) : kV P nid s.ev (hget s.heap) ⟨none, .store k (.tmp t) (.tmp u), ty, pos, a, none⟩ = some (True /\ True /\ ([y].length = 1 /\ o + 1 <= cs.length /\ 0 < 1), .any, .set i (cs.take o ++ [y] ++ cs.drop (o + 1))) := by
  unfold kV; simp only [AS.ev, h, hu, hty, AV.tv, TV.dp, oN, hh, AV.nd, TV.cells]
theorem ani {s : AS} {nid t ty : Nat} {d : Option Nat} {pos : String} {a : Array Edge} {y : CV} (h : s.get t = .t (.one y)) : kV Tryz.prog nid s.ev (hget s.heap) ⟨d, .buildSlice 36 1 #[(0, .tmp t)], ty, pos, a, none⟩ = some (True /\ True, .t (.one (.slc nid 0 1 1)), .new [y]) := by
  have e1 : qX Tryz.prog 36 = some (1, 8, 3) := by kernel_rfl
  have e2 : fV Tryz.prog 3 = some [.iv (.g (.int .i64 0))] := by kernel_rfl
  unfold kV; simp [AS.ev, h, e1, e2, AV.tv, AV.nd, jG, og, sU, TV.cells]
theorem NW {D : Nat -> Bool} {i t0 : Nat} {E0 : List (Nat × AV)} (h0 : mG i E0 = E0) : ∀ (tb : List En), (∀ e, e ∈ tb -> e.t ≠ t0 -> e.c D = true -> (AV.t e.x).cZ i = .t e.x) -> ∀ t, t ≠ t0 -> (lk (j5 tb D ++ E0) t).cZ i = lk (j5 tb D ++ E0) t
  | [], _, t, _ => by
    show (lk E0 t).cZ i = lk E0 t
    rw [<- kM, h0]
  | e :: l, h, t, ht => by
    show (lk ((e.t, _) :: (j5 l D ++ E0)) t).cZ i = lk ((e.t, _) :: (j5 l D ++ E0)) t
    simp only [lk]
    by_cases hte : t = e.t
    · rw [if_pos hte]
      cases hc : e.c D with
      | false => rfl
      | true => rw [cond_true, h e (List.mem_cons_self ..) (by omega) hc]
    · rw [if_neg hte]
      exact NW h0 l (fun e' h' => h e' (List.mem_cons_of_mem _ h')) t ht
theorem aao {P : Program} {s : AS} {t k ty : Nat} {d : Option Nat} {pos : String} {a : Array Edge} {tys : Array TypeId} {y : TV} {K : AS -> Prop} {r : AV} {H' : List (Option (List CV))} (h : s.get t = .t y) (hf : aN P k = true) (hc : iH P k [y] s.heap r H') (hk : K ({ s with heap := H' }.put d r)) : yN P ⟨d, .call ⟨.value (.func k), #[.tmp t], tys⟩, ty, pos, a, none⟩ s K := by
  refine Or.inl ?_
  unfold sw
  simp only [AS.ev, dY, kI, List.size_toArray, List.length_nil, and_self, if_true, kK, h, AV.tv]
  exact Or.inr ⟨hf, ⟨trivial, trivial⟩, Or.inr ⟨r, H', hc, hk⟩⟩
def aj5 : AV -> Bool
  | .any => true
  | _ => false
theorem aib {x : AV} (h : aj5 x = true) : x = .any := by cases x <;> first | rfl | cases h
abbrev jc (E0 : List (Nat × AV)) (H0 : List (Option (List CV))) (N : Nat) (g : List (Nat × List (Nat × AV))) (lp : LP) (c r i8 i12 m p : Nat) (x : Int) (f8 : CV) (A : Nat -> Nat -> IV) (cs : List CV) (zs : List Int) (D : Nat -> Bool) : AS := ⟨j5 (fC c r i8 i12 m p x f8 A) D ++ E0, iD H0 c i8 i12 m p x f8 cs zs D, N, g, lp⟩
theorem AA {H0 : List (Option (List CV))} {c i8 i12 m p : Nat} {x : Int} {f8 : CV} {cs : List CV} {zs : List Int} {D D' : Nat -> Bool} (h : D' 8 = D 8 /\ D' 12 = D 12 /\ D' 13 = D 13 /\ D' 17 = D 17 /\ D' 21 = D 21) : iD H0 c i8 i12 m p x f8 cs zs D' = iD H0 c i8 i12 m p x f8 cs zs D := by
  unfold iD pq; rw [h.1, h.2.1, h.2.2.1, h.2.2.2.1, h.2.2.2.2]
set_option maxRecDepth 10000 in
set_option maxHeartbeats 4000000 in
theorem af6 {E0 : List (Nat × AV)} {H0 : List (Option (List CV))} {N : Nat} {g : List (Nat × List (Nat × AV))} {lp : LP} {Q : Exit -> AS -> Prop} {id : Nat} {s0 s1 s2 s3 s4 s5 s6 s7 s8 s9 s10 s11 s12 s13 s14 s15 s16 s17 s18 s19 s20 s21 : String} {a0 a1 a2 a3 a4 a5 a6 a7 a8 a9 a10 a11 a12 a13 a14 a15 a16 a17 a18 a19 a20 a21 : Array Edge} {b p m c r : Nat} {x : Int} {f8 : CV} {cs rs : List CV} {A : Nat -> Nat -> IV} {zs : List Int} {ops : Array Oper} (i8 i12 : Nat) (ho : ops = #[⟨some 76, .load 131 (Operand.tmp 2), 131, s0, a0, none⟩, ⟨some 77, .load 131 (Operand.tmp 2), 131, s1, a1, none⟩, ⟨some 78, .move (Operand.tmp 8), 37, s2, a2, none⟩, ⟨some 79, .load 131 (Operand.tmp 2), 131, s3, a3, none⟩, ⟨some 80, .nilCheck (Operand.tmp 79), 0, s4, a4, none⟩, ⟨some 81, .fieldAddr 94 (Operand.tmp 80) 0, 0, s5, a5, none⟩, ⟨some 82, .fieldAddr 39 (Operand.tmp 81) 5, 0, s6, a6, none⟩, ⟨some 83, .load 36 (Operand.tmp 82), 36, s7, a7, none⟩, ⟨some 84, .call ⟨.value (.func 102), #[(Operand.tmp 83)], #[36]⟩, 36, s8, a8, none⟩, ⟨some 85, .move (Operand.tmp 11), 3, s9, a9, none⟩, ⟨some 86, .fieldAddr 28 (Operand.tmp 3) 1, 0, s10, a10, none⟩, ⟨some 87, .load 3 (Operand.tmp 86), 3, s11, a11, none⟩, ⟨some 88, .buildSlice 36 1 #[(0, (Operand.tmp 87))], 36, s12, a12, none⟩, ⟨some 89, .call ⟨.value (.func 101), #[(Operand.tmp 84), (Operand.tmp 85), (Operand.tmp 88)], #[36,3,36]⟩, 36, s13, a13, none⟩, ⟨some 90, .nilCheck (Operand.tmp 76), 0, s14, a14, none⟩, ⟨some 91, .fieldAddr 94 (Operand.tmp 90) 0, 0, s15, a15, none⟩, ⟨some 92, .fieldAddr 39 (Operand.tmp 91) 6, 0, s16, a16, none⟩, ⟨none, .store 37 (Operand.tmp 92) (Operand.tmp 78), 0, s17, a17, none⟩, ⟨some 93, .nilCheck (Operand.tmp 77), 0, s18, a18, none⟩, ⟨some 94, .fieldAddr 94 (Operand.tmp 93) 0, 0, s19, a19, none⟩, ⟨some 95, .fieldAddr 39 (Operand.tmp 94) 5, 0, s20, a20, none⟩, ⟨none, .store 36 (Operand.tmp 95) (Operand.tmp 89), 0, s21, a21, none⟩])
    (h2 : lk E0 2 = .t (.one (.ptr b 0))) (hb : hget H0 b = some [.ptr c 0]) (hc : hget H0 c = some cs) (hcl : cs.length = 13) (hcd : cs.getD 11 .any = .iv (.lst 1 m A)) (h8 : lk E0 8 = .t (.one f8)) (hf8 : (AV.t (.one f8)).cZ i8 = .t (.one f8))
    (h11 : lk E0 11 = .t (.one (.iv (.g (.int .i64 (p : Int)))))) (h3 : lk E0 3 = .t (.one (.ptr r 0))) (hr : hget H0 r = some rs) (hrs : rs.getD 1 .any = .iv (.g (.int .i64 x)) /\ 1 < rs.length /\ r ≠ c) (n8 : hget H0 i8 = none) (n12 : hget H0 i12 = none) (n812 : i8 ≠ i12)
    (hm : m <= 1000) (hz : eG A 1 m 0 = dX zs) (hzl : zs.length = m) (hp : p <= m) (pE : mG i8 E0 = E0) (pG : qj i8 g = g) (pH : kX i8 H0 = H0) (pC : iw i8 cs = cs) (hN : 96 <= N) (hE : [76,77,78,79,80,81,82,83,84,85,86,87,88,89,90,91,92,93,94,95].all (fun t => aj5 (lk E0 t)) = true)
    (hm' : Tryz.prog.follows .mixedOrders = true) (hback : pY .any ops = true) (hd : iX ops = true) (hchk : ([(4, 3), (5, 4), (6, 5), (7, 6), (8, 7), (11, 10), (12, 11), (13, 8), (13, 9), (13, 12), (14, 0), (14, 13), (15, 14), (16, 15), (17, 16), (17, 2), (17, 13), (17, 8), (18, 1), (18, 17), (19, 18), (20, 19), (21, 20), (21, 13), (21, 17), (21, 8), (17, 7), (21, 7), (13, 8), (21, 17), (17, 13), (21, 13)].all (adE ops)) = true)
    (hQ : Q .normal ⟨E0, iD H0 c i8 i12 m p x f8 cs zs (fun _ => true), N, g, lp⟩) : AW Tryz.prog (.region id ops true) ⟨E0, H0, N, g, lp⟩ Q := by
  have t122 : lQ Tryz.prog 131 = some (false, 1) := by kernel_rfl
  have t24 : lQ Tryz.prog 36 = some (false, 1) := by kernel_rfl
  have t25 : lQ Tryz.prog 37 = some (false, 1) := by kernel_rfl
  have t3 : lQ Tryz.prog 3 = some (false, 1) := by kernel_rfl
  have o79 : dF Tryz.prog 94 0 = some 0 := by kernel_rfl
  have o275 : dF Tryz.prog 39 5 = some 11 := by kernel_rfl
  have o276 : dF Tryz.prog 39 6 = some 12 := by kernel_rfl
  have o30 : dF Tryz.prog 28 1 = some 1 := by kernel_rfl
  have bc : b ≠ c := by rintro rfl; rw [hb] at hc; cases hc; simp at hcl
  have b8 : b ≠ i8 := by rintro rfl; rw [hb] at n8; cases n8
  have b12 : b ≠ i12 := by rintro rfl; rw [hb] at n12; cases n12
  have c8 : c ≠ i8 := by rintro rfl; rw [hc] at n8; cases n8
  have c12 : c ≠ i12 := by rintro rfl; rw [hc] at n12; cases n12
  have r8 : r ≠ i8 := by rintro rfl; rw [hr] at n8; cases n8
  have r12 : r ≠ i12 := by rintro rfl; rw [hr] at n12; cases n12
  have gb : ∀ D, hget (iD H0 c i8 i12 m p x f8 cs zs D) b = some [.ptr c 0] := fun D => by rw [dP, if_neg (fun h => b12 h.2), if_neg (fun h => b8 h.2), if_neg bc, hb]
  have gr : ∀ D, hget (iD H0 c i8 i12 m p x f8 cs zs D) r = some rs := fun D => by rw [dP, if_neg (fun h => r12 h.2), if_neg (fun h => r8 h.2), if_neg hrs.2.2, hr]
  have gc : ∀ D, hget (iD H0 c i8 i12 m p x f8 cs zs D) c = some (pq c i8 m f8 cs D) := fun D => by rw [dP, if_neg (fun h => c12 h.2), if_neg (fun h => c8 h.2), if_pos rfl]
  have hlen : ops.size = 22 := by rw [ho]; rfl
  have anc : ∀ i k, (i, k) ∈ [(4, 3), (5, 4), (6, 5), (7, 6), (8, 7), (11, 10), (12, 11), (13, 8), (13, 9), (13, 12), (14, 0), (14, 13), (15, 14), (16, 15), (17, 16), (17, 2), (17, 13), (17, 8), (18, 1), (18, 17), (19, 18), (20, 19), (21, 20), (21, 13), (21, 17), (21, 8), (17, 7), (21, 7), (13, 8), (21, 17), (17, 13), (21, 13)] -> adE ops (i, k) = true := fun i k h => List.all_eq_true.1 hchk _ h
  have put : ∀ (i t0 : Nat) (x0 : TV) (D : Nat -> Bool) (o : Oper) (nd : Prop), o.guard = none -> (∀ c, o.op ≠ .defer c) -> o.dst = some t0 -> t0 < 96 -> kV Tryz.prog (iD H0 c i8 i12 m p x f8 cs zs D).length (jc E0 H0 N g lp c r i8 i12 m p x f8 A cs zs D).ev (hget (iD H0 c i8 i12 m p x f8 cs zs D)) o = some (nd, .t x0, .nop) -> nd ->
      (∀ e, e ∈ fC c r i8 i12 m p x f8 A -> if e.t = t0 then e.x = x0 else (e.c (upd D i) = true -> e.c D = true)) -> t0 ∈ (fC c r i8 i12 m p x f8 A).map (·.t) -> ((upd D i) 8 = D 8 /\ (upd D i) 12 = D 12 /\ (upd D i) 13 = D 13 /\ (upd D i) 17 = D 17 /\ (upd D i) 21 = D 21) ->
      XI Tryz.prog o (jc E0 H0 N g lp c r i8 i12 m p x f8 A cs zs D) (jc E0 H0 N g lp c r i8 i12 m p x f8 A cs zs (upd D i)) := fun i t0 x0 D o nd hg hdf hdst hlt hop hn ht hin hh =>
    Gn hg hdf (Dp _) (by rw [hdst]; show t0 < N; omega) hop hn (by
      rw [hdst]
      exact kL rfl rfl rfl (fun t => zU (E0 := E0) (fC c r i8 i12 m p x f8 A) ht hin t) fun q => by
        show hget (iD H0 c i8 i12 m p x f8 cs zs (upd D i)) q = hget (iD H0 c i8 i12 m p x f8 cs zs D) q
        rw [AA hh])
  have c8b : (c == i8) = false := by simp [c8]
  have r8b : (r == i8) = false := by simp [r8]
  have i12b : (i12 == i8) = false := by simp [Ne.symm n812]
  have g2 : ∀ D, (jc E0 H0 N g lp c r i8 i12 m p x f8 A cs zs D).get 2 = .t (.one (.ptr b 0)) := fun D => h2
  refine MU (fun D => jc E0 H0 N g lp c r i8 i12 m p x f8 A cs zs D) hm' hback hd ?_ ?_ ?_
  · refine kL rfl rfl rfl (af2 _ (by simp [fC])) fun q => ?_
    show hget (iD H0 c i8 i12 m p x f8 cs zs (fun _ => false)) q = hget H0 q
    rw [dP, if_neg (by simp), if_neg (by simp)]
    by_cases h : q = c
    · subst h; rw [if_pos rfl, hc]; rfl
    · rw [if_neg h]
  · intro i o hio D hcl hDi hpre
    have hi : i < 22 := by rw [<- hlen]; exact (Array.getElem?_eq_some_iff.1 hio).1
    have hio' := hio
    rw [ho] at hio'
    have at_ : ∀ k, (i, k) ∈ [(4, 3), (5, 4), (6, 5), (7, 6), (8, 7), (11, 10), (12, 11), (13, 8), (13, 9), (13, 12), (14, 0), (14, 13), (15, 14), (16, 15), (17, 16), (17, 2), (17, 13), (17, 8), (18, 1), (18, 17), (19, 18), (20, 19), (21, 20), (21, 13), (21, 17), (21, 8), (17, 7), (21, 7), (13, 8), (21, 17), (17, 13), (21, 13)] -> D k = true := fun k h => akC hcl hio hpre (anc i k h)
    have af_ : ∀ k, k < 22 -> (k, i) ∈ [(4, 3), (5, 4), (6, 5), (7, 6), (8, 7), (11, 10), (12, 11), (13, 8), (13, 9), (13, 12), (14, 0), (14, 13), (15, 14), (16, 15), (17, 16), (17, 2), (17, 13), (17, 8), (18, 1), (18, 17), (19, 18), (20, 19), (21, 20), (21, 13), (21, 17), (21, 8), (17, 7), (21, 7), (13, 8), (21, 17), (17, 13), (21, 13)] -> D k = false := fun k hk h => akp hcl hDi (by omega) (anc k i h)
    clear hio hpre hcl
    rcases (by omega : i = 0 \/ i = 1 \/ i = 2 \/ i = 3 \/ i = 4 \/ i = 5 \/ i = 6 \/ i = 7 \/ i = 8 \/ i = 9 \/ i = 10 \/ i = 11 \/ i = 12 \/ i = 13 \/ i = 14 \/ i = 15 \/ i = 16 \/ i = 17 \/ i = 18 \/ i = 19 \/ i = 20 \/ i = 21) with rfl | rfl | rfl | rfl | rfl | rfl | rfl | rfl | rfl | rfl | rfl | rfl | rfl | rfl | rfl | rfl | rfl | rfl | rfl | rfl | rfl | rfl
    · obtain rfl := Option.some.inj hio'
      exact put 0 76 (.one (.ptr c 0)) D _ _ rfl (fun c e => by cases e) rfl (by omega) (uD (s := jc E0 H0 N g lp c r i8 i12 m p x f8 A cs zs D) t122 (g2 D) (gb D)) (And.intro trivial (by simp)) (by intro e he; simp only [fC, List.mem_cons, List.not_mem_nil, or_false] at he; rcases he with rfl | rfl | rfl | rfl | rfl | rfl | rfl | rfl | rfl | rfl | rfl | rfl | rfl | rfl | rfl | rfl | rfl | rfl | rfl | rfl <;> simp [upd]) (by simp [fC]) (by simp [upd])
    · obtain rfl := Option.some.inj hio'
      exact put 1 77 (.one (.ptr c 0)) D _ _ rfl (fun c e => by cases e) rfl (by omega) (uD (s := jc E0 H0 N g lp c r i8 i12 m p x f8 A cs zs D) t122 (g2 D) (gb D)) (And.intro trivial (by simp)) (by intro e he; simp only [fC, List.mem_cons, List.not_mem_nil, or_false] at he; rcases he with rfl | rfl | rfl | rfl | rfl | rfl | rfl | rfl | rfl | rfl | rfl | rfl | rfl | rfl | rfl | rfl | rfl | rfl | rfl | rfl <;> simp [upd]) (by simp [fC]) (by simp [upd])
    · obtain rfl := Option.some.inj hio'
      exact put 2 78 (.one f8) D _ _ rfl (fun c e => by cases e) rfl (by omega) (Po h8) trivial (by intro e he; simp only [fC, List.mem_cons, List.not_mem_nil, or_false] at he; rcases he with rfl | rfl | rfl | rfl | rfl | rfl | rfl | rfl | rfl | rfl | rfl | rfl | rfl | rfl | rfl | rfl | rfl | rfl | rfl | rfl <;> simp [upd]) (by simp [fC]) (by simp [upd])
    · obtain rfl := Option.some.inj hio'
      exact put 3 79 (.one (.ptr c 0)) D _ _ rfl (fun c e => by cases e) rfl (by omega) (uD (s := jc E0 H0 N g lp c r i8 i12 m p x f8 A cs zs D) t122 (g2 D) (gb D)) (And.intro trivial (by simp)) (by intro e he; simp only [fC, List.mem_cons, List.not_mem_nil, or_false] at he; rcases he with rfl | rfl | rfl | rfl | rfl | rfl | rfl | rfl | rfl | rfl | rfl | rfl | rfl | rfl | rfl | rfl | rfl | rfl | rfl | rfl <;> simp [upd]) (by simp [fC]) (by simp [upd])
    · obtain rfl := Option.some.inj hio'
      have k3 := at_ 3 (by decide)
      have g79 : (jc E0 H0 N g lp c r i8 i12 m p x f8 A cs zs D).get 79 = .t (.one (.ptr c 0)) := by show (bif D 3 then AV.t _ else .any) = _; rw [k3]; rfl
      exact put 4 80 (.one (.ptr c 0)) D _ _ rfl (fun c e => by cases e) rfl (by omega) (KX g79) trivial (by intro e he; simp only [fC, List.mem_cons, List.not_mem_nil, or_false] at he; rcases he with rfl | rfl | rfl | rfl | rfl | rfl | rfl | rfl | rfl | rfl | rfl | rfl | rfl | rfl | rfl | rfl | rfl | rfl | rfl | rfl <;> simp [upd]) (by simp [fC]) (by simp [upd])
    · obtain rfl := Option.some.inj hio'
      have k4 := at_ 4 (by decide)
      have g80 : (jc E0 H0 N g lp c r i8 i12 m p x f8 A cs zs D).get 80 = .t (.one (.ptr c 0)) := by show (bif D 4 then AV.t _ else .any) = _; rw [k4]; rfl
      exact put 5 81 (.one (.ptr c 0)) D _ _ rfl (fun c e => by cases e) rfl (by omega) (sV o79 g80) ⟨trivial, trivial⟩ (by intro e he; simp only [fC, List.mem_cons, List.not_mem_nil, or_false] at he; rcases he with rfl | rfl | rfl | rfl | rfl | rfl | rfl | rfl | rfl | rfl | rfl | rfl | rfl | rfl | rfl | rfl | rfl | rfl | rfl | rfl <;> simp [upd]) (by simp [fC]) (by simp [upd])
    · obtain rfl := Option.some.inj hio'
      have k5 := at_ 5 (by decide)
      have g81 : (jc E0 H0 N g lp c r i8 i12 m p x f8 A cs zs D).get 81 = .t (.one (.ptr c 0)) := by show (bif D 5 then AV.t _ else .any) = _; rw [k5]; rfl
      exact put 6 82 (.one (.ptr c 11)) D _ _ rfl (fun c e => by cases e) rfl (by omega) (sV o275 g81) ⟨trivial, trivial⟩ (by intro e he; simp only [fC, List.mem_cons, List.not_mem_nil, or_false] at he; rcases he with rfl | rfl | rfl | rfl | rfl | rfl | rfl | rfl | rfl | rfl | rfl | rfl | rfl | rfl | rfl | rfl | rfl | rfl | rfl | rfl <;> simp [upd]) (by simp [fC]) (by simp [upd])
    · obtain rfl := Option.some.inj hio'
      have k6 := at_ 6 (by decide)
      have f17 := af_ 17 (by omega) (by decide)
      have f21 := af_ 21 (by omega) (by decide)
      have g82 : (jc E0 H0 N g lp c r i8 i12 m p x f8 A cs zs D).get 82 = .t (.one (.ptr c 11)) := by show (bif D 6 then AV.t _ else .any) = _; rw [k6]; rfl
      have gc' : hget (iD H0 c i8 i12 m p x f8 cs zs D) c = some cs := (gc D).trans (by unfold pq; rw [f21, f17]; rfl)
      have ev := fun n => uD (s := jc E0 H0 N g lp c r i8 i12 m p x f8 A cs zs D) (nid := n) (d := some 83) (ty := 36) (pos := s7) (a := a7) t24 g82 gc'
      rw [hcd] at ev
      exact put 7 83 (.one (.iv (.lst 1 m A))) D _ _ rfl (fun c e => by cases e) rfl (by omega) (ev _) (And.intro trivial (by rw [hcl]; omega)) (by intro e he; simp only [fC, List.mem_cons, List.not_mem_nil, or_false] at he; rcases he with rfl | rfl | rfl | rfl | rfl | rfl | rfl | rfl | rfl | rfl | rfl | rfl | rfl | rfl | rfl | rfl | rfl | rfl | rfl | rfl <;> simp [upd]) (by simp [fC]) (by simp [upd])
    · obtain rfl := Option.some.inj hio'
      have k7 := at_ 7 (by decide)
      have f13 := af_ 13 (by omega) (by decide)
      have g83 : (jc E0 H0 N g lp c r i8 i12 m p x f8 A cs zs D).get 83 = .t (.one (.iv (.lst 1 m A))) := by show (bif D 7 then AV.t _ else .any) = _; rw [k7]; rfl
      have hA : ∀ q, hget (iD H0 c i8 i12 m p x f8 cs zs (upd D 8)) q = hget (hset (iD H0 c i8 i12 m p x f8 cs zs D) i8 (eG A 1 m 0)) q := fun q => by
        by_cases hq : q = i8
        · subst hq; rw [aG, dP]; rw [if_neg (fun h => n812 h.2), if_pos (by simp [upd]), hz, show (upd D 8) 13 = D 13 from rfl, f13]; rfl
        · rw [aK _ _ _ _ hq, dP, dP]; simp [upd, hq, pq]
      refine ⟨rfl, fun w0 Z0 a w K Q n ⟨J, Z, R⟩ hK => iU R (by show 84 < N; omega) (K := fun s' => Er s' (jc E0 H0 N g lp c r i8 i12 m p x f8 A cs zs (upd D 8))) (aao g83 (by kernel_rfl) (ac2 m A hm _ i8 ?_) ?_) fun s' a' w' R' hk => hK _ _ (hk _ _ _ _ R')⟩
      · show hget (iD H0 c i8 i12 m p x f8 cs zs D) i8 = none
        rw [dP, if_neg (fun h => n812 h.2), if_neg (by rw [hDi]; simp), if_neg (Ne.symm c8), n8]
      · refine kL rfl rfl rfl (fun t => zU (t0 := 84) (x0 := .one (.slc i8 0 m 1)) (E0 := E0) (D := D) (D' := upd D 8) (fC c r i8 i12 m p x f8 A) (by intro e he; simp only [fC, List.mem_cons, List.not_mem_nil, or_false] at he; rcases he with rfl | rfl | rfl | rfl | rfl | rfl | rfl | rfl | rfl | rfl | rfl | rfl | rfl | rfl | rfl | rfl | rfl | rfl | rfl | rfl <;> simp [upd]) (by simp [fC]) t) hA
    · obtain rfl := Option.some.inj hio'
      exact put 9 85 (.one (.iv (.g (.int .i64 (p : Int))))) D _ _ rfl (fun c e => by cases e) rfl (by omega) (Po h11) trivial (by intro e he; simp only [fC, List.mem_cons, List.not_mem_nil, or_false] at he; rcases he with rfl | rfl | rfl | rfl | rfl | rfl | rfl | rfl | rfl | rfl | rfl | rfl | rfl | rfl | rfl | rfl | rfl | rfl | rfl | rfl <;> simp [upd]) (by simp [fC]) (by simp [upd])
    · obtain rfl := Option.some.inj hio'
      exact put 10 86 (.one (.ptr r 1)) D _ _ rfl (fun c e => by cases e) rfl (by omega) (sV o30 h3) ⟨trivial, trivial⟩ (by intro e he; simp only [fC, List.mem_cons, List.not_mem_nil, or_false] at he; rcases he with rfl | rfl | rfl | rfl | rfl | rfl | rfl | rfl | rfl | rfl | rfl | rfl | rfl | rfl | rfl | rfl | rfl | rfl | rfl | rfl <;> simp [upd]) (by simp [fC]) (by simp [upd])
    · obtain rfl := Option.some.inj hio'
      have k10 := at_ 10 (by decide)
      have g86 : (jc E0 H0 N g lp c r i8 i12 m p x f8 A cs zs D).get 86 = .t (.one (.ptr r 1)) := by show (bif D 10 then AV.t _ else .any) = _; rw [k10]; rfl
      have ev := fun n => uD (s := jc E0 H0 N g lp c r i8 i12 m p x f8 A cs zs D) (nid := n) (d := some 87) (ty := 3) (pos := s11) (a := a11) t3 g86 (gr D)
      rw [hrs.1] at ev
      exact put 11 87 (.one (.iv (.g (.int .i64 x)))) D _ _ rfl (fun c e => by cases e) rfl (by omega) (ev _) (And.intro trivial hrs.2.1) (by intro e he; simp only [fC, List.mem_cons, List.not_mem_nil, or_false] at he; rcases he with rfl | rfl | rfl | rfl | rfl | rfl | rfl | rfl | rfl | rfl | rfl | rfl | rfl | rfl | rfl | rfl | rfl | rfl | rfl | rfl <;> simp [upd]) (by simp [fC]) (by simp [upd])
    · obtain rfl := Option.some.inj hio'
      have k11 := at_ 11 (by decide)
      have g87 : (jc E0 H0 N g lp c r i8 i12 m p x f8 A cs zs D).get 87 = .t (.one (.iv (.g (.int .i64 x)))) := by show (bif D 11 then AV.t _ else .any) = _; rw [k11]; rfl
      have hA : ∀ q, hget (iD H0 c i8 i12 m p x f8 cs zs (upd D 12)) q = hget (hset (iD H0 c i8 i12 m p x f8 cs zs D) i12 [.iv (.g (.int .i64 x))]) q := fun q => by
        by_cases hq : q = i12
        · subst hq; rw [aG, dP]; rw [if_pos (by simp [upd])]
        · rw [aK _ _ _ _ hq, dP, dP]; simp [upd, hq, pq]
      refine Gn (nid := i12) rfl (fun c e => by cases e) ?_ (by show 88 < N; omega) (ani g87) ⟨trivial, trivial⟩ (kL rfl rfl rfl (fun t => zU (t0 := 88) (x0 := .one (.slc i12 0 1 1)) (E0 := E0) (D := D) (D' := upd D 12) (fC c r i8 i12 m p x f8 A) (by intro e he; simp only [fC, List.mem_cons, List.not_mem_nil, or_false] at he; rcases he with rfl | rfl | rfl | rfl | rfl | rfl | rfl | rfl | rfl | rfl | rfl | rfl | rfl | rfl | rfl | rfl | rfl | rfl | rfl | rfl <;> simp [upd]) (by simp [fC]) t) hA)
      show hget (iD H0 c i8 i12 m p x f8 cs zs D) i12 = none
      rw [dP, if_neg (by rw [hDi]; simp), if_neg (fun h => n812 h.2.symm), if_neg (Ne.symm c12), n12]
    · obtain rfl := Option.some.inj hio'
      have k8 := at_ 8 (by decide)
      have k9 := at_ 9 (by decide)
      have k12 := at_ 12 (by decide)
      have f17 := af_ 17 (by omega) (by decide)
      have f21 := af_ 21 (by omega) (by decide)
      have hi8 : hget (iD H0 c i8 i12 m p x f8 cs zs D) i8 = some (dX zs) := by rw [dP, if_neg (fun h => n812 h.2), if_pos ⟨k8, rfl⟩, hDi]; rfl
      have hi12 : hget (iD H0 c i8 i12 m p x f8 cs zs D) i12 = some [.iv (.g (.int .i64 x))] := by rw [dP, if_pos ⟨k12, rfl⟩]
      have g84 : (jc E0 H0 N g lp c r i8 i12 m p x f8 A cs zs D).get 84 = .t (.one (.slc i8 0 zs.length 1)) := by show (bif (D 8 && !D 13) then AV.t _ else .any) = _; rw [k8, hDi, hzl]; rfl
      have g85 : (jc E0 H0 N g lp c r i8 i12 m p x f8 A cs zs D).get 85 = .t (.one (.iv (.g (.int .i64 (p : Int))))) := by show (bif D 9 then AV.t _ else .any) = _; rw [k9]; rfl
      have g88 : (jc E0 H0 N g lp c r i8 i12 m p x f8 A cs zs D).get 88 = .t (.one (.slc i12 0 1 1)) := by show (bif D 12 then AV.t _ else .any) = _; rw [k12]; rfl
      refine ⟨rfl, fun w0 Z0 a w K Q n ⟨J, Z, R⟩ hK => d9 (dW _) (fun c e => by cases e) (jf (jh rfl (iF R (show dY ((jc E0 H0 N g lp c r i8 i12 m p x f8 A cs zs D).ev (.func 101)) = .pure 101 from rfl)) (by kernel_rfl)) ?_)⟩
      simp only [Array.empty_append, Array.append_empty]
      have hargs : aU (cu w J Z) ((#[Operand.tmp 84, Operand.tmp 85, Operand.tmp 88] : Array Operand).map a.eval).toList [.one (.slc i8 0 zs.length 1), .one (.iv (.g (.int .i64 (p : Int)))), .one (.slc i12 0 1 1)] := by
        simp only [Array.toList_map]; exact mZ R (l := [.tmp 84, .tmp 85, .tmp 88]) (nd := True /\ True /\ True /\ True) (by simp only [kK, AS.ev, g84, g85, g88, AV.tv, AV.nd]) ⟨trivial, trivial, trivial, trivial⟩
      refine (ak5 R hi8 hi12 n812 (by omega) (by omega) hargs).mono fun e w' ⟨v, J', he, R', hr⟩ => ⟨v, he, hK _ _ ?_⟩
      rw [hzl] at hr
      have R2 := R'.put (d := some 89) (fun k e => by cases e; show 89 < N; omega) hr
      have tt : Er (((jc E0 H0 N g lp c r i8 i12 m p x f8 A cs zs D).qV 0 (.app i8 (dX (lZ zs p x)))).put (some 89) (.t (.one (.slc i8 0 (m + 1) 1)))) (jc E0 H0 N g lp c r i8 i12 m p x f8 A cs zs (upd D 13)) := by
        refine kL rfl pG.symm rfl (fun t => ?_) (fun q => ?_)
        · rcases zU (t0 := 89) (x0 := .one (.slc i8 0 (m + 1) 1)) (E0 := E0) (D := D) (D' := upd D 13) (fC c r i8 i12 m p x f8 A) (by intro e he; simp only [fC, List.mem_cons, List.not_mem_nil, or_false] at he; rcases he with rfl | rfl | rfl | rfl | rfl | rfl | rfl | rfl | rfl | rfl | rfl | rfl | rfl | rfl | rfl | rfl | rfl | rfl | rfl | rfl <;> simp [upd]) (by simp [fC]) t with h | h
          · left
            show lk (j5 (fC c r i8 i12 m p x f8 A) (upd D 13) ++ E0) t = lk ((89, _) :: mG i8 (j5 (fC c r i8 i12 m p x f8 A) D ++ E0)) t
            by_cases ht : t = 89
            · subst ht; rw [h]; rfl
            · have hp := NW (D := upd D 13) (t0 := 89) pE (fC c r i8 i12 m p x f8 A) (by intro e he; simp only [fC, List.mem_cons, List.not_mem_nil, or_false] at he; rcases he with rfl | rfl | rfl | rfl | rfl | rfl | rfl | rfl | rfl | rfl | rfl | rfl | rfl | rfl | rfl | rfl | rfl | rfl | rfl | rfl <;> first | (intro _ _; exact hf8) | (intro h; exact absurd rfl h) | (simp [upd]; done) | (intro _ _; simp [AV.cZ, AV.has, TV.has, CV.has, c8b, r8b, i12b])) t ht
              simp only [lk, if_neg ht] at h ⊢
              rw [kM, <- h, hp]
          · exact Or.inr h
        · show hget (iD H0 c i8 i12 m p x f8 cs zs (upd D 13)) q = hget (hset (kX i8 (iD H0 c i8 i12 m p x f8 cs zs D)) i8 (dX (lZ zs p x))) q
          by_cases hq : q = i8
          · subst hq; rw [aG, dP, if_neg (fun h => n812 h.2), if_pos ⟨k8, rfl⟩]; rfl
          · rw [aK _ _ _ _ hq, gG, dP, dP]
            by_cases h12 : q = i12
            · rw [if_pos ⟨k12, h12⟩, if_pos ⟨k12, h12⟩]; rfl
            · simp only [h12, hq, and_false, if_false]
              by_cases hqc : q = c
              · rw [if_pos hqc, if_pos hqc]
                have e1 : pq c i8 m f8 cs (upd D 13) = cs := by unfold pq; rw [show (upd D 13) 21 = D 21 from rfl, show (upd D 13) 17 = D 17 from rfl, f21, f17]; rfl
                have e2 : pq c i8 m f8 cs D = cs := by unfold pq; rw [f21, f17]; rfl
                rw [e1, e2, Option.map_some, pC]
              · rw [if_neg hqc, if_neg hqc, <- gG, pH]
      exact tt _ _ _ _ ⟨J', Z, R2⟩
    · obtain rfl := Option.some.inj hio'
      have k0 := at_ 0 (by decide)
      have k13 := at_ 13 (by decide)
      have g76 : (jc E0 H0 N g lp c r i8 i12 m p x f8 A cs zs D).get 76 = .t (.one (.ptr c 0)) := by show (bif D 0 then AV.t _ else .any) = _; rw [k0]; rfl
      exact put 14 90 (.one (.ptr c 0)) D _ _ rfl (fun c e => by cases e) rfl (by omega) (KX g76) trivial (by intro e he; simp only [fC, List.mem_cons, List.not_mem_nil, or_false] at he; rcases he with rfl | rfl | rfl | rfl | rfl | rfl | rfl | rfl | rfl | rfl | rfl | rfl | rfl | rfl | rfl | rfl | rfl | rfl | rfl | rfl <;> simp [upd]) (by simp [fC]) (by simp [upd])
    · obtain rfl := Option.some.inj hio'
      have k14 := at_ 14 (by decide)
      have g90 : (jc E0 H0 N g lp c r i8 i12 m p x f8 A cs zs D).get 90 = .t (.one (.ptr c 0)) := by show (bif D 14 then AV.t _ else .any) = _; rw [k14]; rfl
      exact put 15 91 (.one (.ptr c 0)) D _ _ rfl (fun c e => by cases e) rfl (by omega) (sV o79 g90) ⟨trivial, trivial⟩ (by intro e he; simp only [fC, List.mem_cons, List.not_mem_nil, or_false] at he; rcases he with rfl | rfl | rfl | rfl | rfl | rfl | rfl | rfl | rfl | rfl | rfl | rfl | rfl | rfl | rfl | rfl | rfl | rfl | rfl | rfl <;> simp [upd]) (by simp [fC]) (by simp [upd])
    · obtain rfl := Option.some.inj hio'
      have k15 := at_ 15 (by decide)
      have g91 : (jc E0 H0 N g lp c r i8 i12 m p x f8 A cs zs D).get 91 = .t (.one (.ptr c 0)) := by show (bif D 15 then AV.t _ else .any) = _; rw [k15]; rfl
      exact put 16 92 (.one (.ptr c 12)) D _ _ rfl (fun c e => by cases e) rfl (by omega) (sV o276 g91) ⟨trivial, trivial⟩ (by intro e he; simp only [fC, List.mem_cons, List.not_mem_nil, or_false] at he; rcases he with rfl | rfl | rfl | rfl | rfl | rfl | rfl | rfl | rfl | rfl | rfl | rfl | rfl | rfl | rfl | rfl | rfl | rfl | rfl | rfl <;> simp [upd]) (by simp [fC]) (by simp [upd])
    · obtain rfl := Option.some.inj hio'
      have k16 := at_ 16 (by decide)
      have k2 := at_ 2 (by decide)
      have k13 := at_ 13 (by decide)
      have k8 := at_ 8 (by decide)
      have f21 := af_ 21 (by omega) (by decide)
      have g92 : (jc E0 H0 N g lp c r i8 i12 m p x f8 A cs zs D).get 92 = .t (.one (.ptr c 12)) := by show (bif D 16 then AV.t _ else .any) = _; rw [k16]; rfl
      have g78 : (jc E0 H0 N g lp c r i8 i12 m p x f8 A cs zs D).get 78 = .t (.one f8) := by show (bif D 2 then AV.t _ else .any) = _; rw [k2]; rfl
      have gc' : hget (iD H0 c i8 i12 m p x f8 cs zs D) c = some cs := (gc D).trans (by unfold pq; rw [f21, hDi]; rfl)
      have hA : ∀ q, hget (iD H0 c i8 i12 m p x f8 cs zs (upd D 17)) q = hget (hset (iD H0 c i8 i12 m p x f8 cs zs D) c (cs.take 12 ++ [f8] ++ cs.drop 13)) q := fun q => by
        by_cases hq : q = c
        · subst hq; rw [aG, dP]; rw [if_neg (fun h => c12 h.2), if_neg (fun h => c8 h.2), if_pos rfl]; unfold pq; rw [show (upd D 17) 21 = D 21 from rfl, f21]; rfl
        · rw [aK _ _ _ _ hq, dP, dP]; rw [if_neg hq, if_neg hq]; simp [upd]
      exact Gn (nid := (iD H0 c i8 i12 m p x f8 cs zs D).length) rfl (fun c e => by cases e) (Dp _) trivial (II t25 g92 g78 gc') ⟨trivial, trivial, rfl, by omega, by omega⟩ (kL rfl rfl rfl (Ag (fC c r i8 i12 m p x f8 A) (by intro e he; simp only [fC, List.mem_cons, List.not_mem_nil, or_false] at he; rcases he with rfl | rfl | rfl | rfl | rfl | rfl | rfl | rfl | rfl | rfl | rfl | rfl | rfl | rfl | rfl | rfl | rfl | rfl | rfl | rfl <;> simp [upd])) hA)
    · obtain rfl := Option.some.inj hio'
      have k1 := at_ 1 (by decide)
      have k17 := at_ 17 (by decide)
      have g77 : (jc E0 H0 N g lp c r i8 i12 m p x f8 A cs zs D).get 77 = .t (.one (.ptr c 0)) := by show (bif D 1 then AV.t _ else .any) = _; rw [k1]; rfl
      exact put 18 93 (.one (.ptr c 0)) D _ _ rfl (fun c e => by cases e) rfl (by omega) (KX g77) trivial (by intro e he; simp only [fC, List.mem_cons, List.not_mem_nil, or_false] at he; rcases he with rfl | rfl | rfl | rfl | rfl | rfl | rfl | rfl | rfl | rfl | rfl | rfl | rfl | rfl | rfl | rfl | rfl | rfl | rfl | rfl <;> simp [upd]) (by simp [fC]) (by simp [upd])
    · obtain rfl := Option.some.inj hio'
      have k18 := at_ 18 (by decide)
      have g93 : (jc E0 H0 N g lp c r i8 i12 m p x f8 A cs zs D).get 93 = .t (.one (.ptr c 0)) := by show (bif D 18 then AV.t _ else .any) = _; rw [k18]; rfl
      exact put 19 94 (.one (.ptr c 0)) D _ _ rfl (fun c e => by cases e) rfl (by omega) (sV o79 g93) ⟨trivial, trivial⟩ (by intro e he; simp only [fC, List.mem_cons, List.not_mem_nil, or_false] at he; rcases he with rfl | rfl | rfl | rfl | rfl | rfl | rfl | rfl | rfl | rfl | rfl | rfl | rfl | rfl | rfl | rfl | rfl | rfl | rfl | rfl <;> simp [upd]) (by simp [fC]) (by simp [upd])
    · obtain rfl := Option.some.inj hio'
      have k19 := at_ 19 (by decide)
      have g94 : (jc E0 H0 N g lp c r i8 i12 m p x f8 A cs zs D).get 94 = .t (.one (.ptr c 0)) := by show (bif D 19 then AV.t _ else .any) = _; rw [k19]; rfl
      exact put 20 95 (.one (.ptr c 11)) D _ _ rfl (fun c e => by cases e) rfl (by omega) (sV o275 g94) ⟨trivial, trivial⟩ (by intro e he; simp only [fC, List.mem_cons, List.not_mem_nil, or_false] at he; rcases he with rfl | rfl | rfl | rfl | rfl | rfl | rfl | rfl | rfl | rfl | rfl | rfl | rfl | rfl | rfl | rfl | rfl | rfl | rfl | rfl <;> simp [upd]) (by simp [fC]) (by simp [upd])
    · obtain rfl := Option.some.inj hio'
      have k20 := at_ 20 (by decide)
      have k13 := at_ 13 (by decide)
      have k17 := at_ 17 (by decide)
      have k8 := at_ 8 (by decide)
      have g95 : (jc E0 H0 N g lp c r i8 i12 m p x f8 A cs zs D).get 95 = .t (.one (.ptr c 11)) := by show (bif D 20 then AV.t _ else .any) = _; rw [k20]; rfl
      have g89 : (jc E0 H0 N g lp c r i8 i12 m p x f8 A cs zs D).get 89 = .t (.one (.slc i8 0 (m + 1) 1)) := by show (bif D 13 then AV.t _ else .any) = _; rw [k13]; rfl
      have gc' : hget (iD H0 c i8 i12 m p x f8 cs zs D) c = some (cs.take 12 ++ [f8] ++ cs.drop 13) := (gc D).trans (by unfold pq; rw [hDi, k17]; rfl)
      have hA : ∀ q, hget (iD H0 c i8 i12 m p x f8 cs zs (upd D 21)) q = hget (hset (iD H0 c i8 i12 m p x f8 cs zs D) c ((cs.take 12 ++ [f8] ++ cs.drop 13).take 11 ++ [.slc i8 0 (m + 1) 1] ++ (cs.take 12 ++ [f8] ++ cs.drop 13).drop 12)) q := fun q => by
        by_cases hq : q = c
        · subst hq; rw [aG, dP]; rw [if_neg (fun h => c12 h.2), if_neg (fun h => c8 h.2), if_pos rfl]; unfold pq; rfl
        · rw [aK _ _ _ _ hq, dP, dP]; rw [if_neg hq, if_neg hq]; simp [upd]
      exact Gn (nid := (iD H0 c i8 i12 m p x f8 cs zs D).length) rfl (fun c e => by cases e) (Dp _) trivial (II t24 g95 g89 gc') ⟨trivial, trivial, rfl, by simp [hcl], by omega⟩ (kL rfl rfl rfl (Ag (fC c r i8 i12 m p x f8 A) (by intro e he; simp only [fC, List.mem_cons, List.not_mem_nil, or_false] at he; rcases he with rfl | rfl | rfl | rfl | rfl | rfl | rfl | rfl | rfl | rfl | rfl | rfl | rfl | rfl | rfl | rfl | rfl | rfl | rfl | rfl <;> simp [upd])) hA)
  · intro D hD
    have hD' : ∀ k, k < 22 -> D k = true := fun k hk => hD k (by omega)
    refine ⟨⟨E0, iD H0 c i8 i12 m p x f8 cs zs (fun _ => true), N, g, lp⟩, kL rfl rfl rfl (fun t => ?_) (fun q => ?_), hQ⟩
    · by_cases ht : t ∈ (fC c r i8 i12 m p x f8 A).map (·.t)
      · exact Or.inr (aib (List.all_eq_true.1 hE t ht))
      · exact Or.inl (Yp _ ht).symm
    · show hget (iD H0 c i8 i12 m p x f8 cs zs (fun _ => true)) q = hget (iD H0 c i8 i12 m p x f8 cs zs D) q
      rw [AA ⟨(hD' 8 (by omega)).symm, (hD' 12 (by omega)).symm, (hD' 13 (by omega)).symm, (hD' 17 (by omega)).symm, (hD' 21 (by omega)).symm⟩]
end Go.Proofs.YtcfechepbamhkaaGreat
set_option maxRecDepth 100000
set_option maxHeartbeats 4000000
namespace Go.Proofs.YtcfechepbamhkaaGreat
open Go.RowKit Go.Sea
open Nat renaming reduceAdd -> xA, reduceLT -> xL, reduceLeDiff -> xD, reduceEqDiff -> xE, reduceMul -> xM, reduceSub -> xS, reduceBEq -> xB
theorem FU : aN Tryz.prog 61 = true := by kernel_rfl
theorem kH : aN Tryz.prog 48 = true := by kernel_rfl
theorem zW : aN Tryz.prog 49 = true := by kernel_rfl
theorem Yu : aN Tryz.prog 102 = true := by kernel_rfl
theorem NU : aN Tryz.prog 99 = true := by kernel_rfl
theorem zI : aN Tryz.prog 98 = true := by kernel_rfl
theorem uS : aN Tryz.prog 96 = true := by kernel_rfl
theorem aeE : aN Tryz.prog 97 = true := by kernel_rfl
theorem XY : aN Tryz.prog 101 = true := by kernel_rfl
theorem I7 : aN Tryz.prog 136 = true := by kernel_rfl
theorem aj9 : fM Tryz.prog 94 = true := by kernel_rfl
theorem adO : dz Tryz.prog 94 0 = some (0, 13) := by kernel_rfl
theorem ahO : lQ Tryz.prog 131 = some (false, 1) := by kernel_rfl
theorem alR : lQ Tryz.prog 94 = some (true, 13) := by kernel_rfl
theorem akk : fV Tryz.prog 94 = some [.iv (.g (.int .i64 0)), .iv (.g (.int .i64 0)), .iv (.g (.int .i64 0)), .iv (.g (.int .i64 0)), .iv (.g (.int .i64 0)), .iv (.g (.int .i64 0)), .iv (.g (.int .i64 0)), .iv (.g (.int .i64 0)), .iv (.g (.int .i64 0)), .iv (.g (.int .i64 0)), .iv (.g (.int .i64 0)), .iv (.g (.slice none 0 0)), .iv (.g (.slice none 0 0))] := by kernel_rfl
attribute [go_sem] FU kH zW Yu NU zI uS XY I7 aj9 adO ahO alR akk
theorem aa0 (q : Nat) (a : Nat -> Int) : Go.Sea.eG (bn a) 1 q 0 = dX (lM q a) := by
  have hl : (Go.Sea.eG (bn a) 1 q 0).length = (dX (lM q a)).length := by rw [gI, bg, iZ, Nat.mul_one]
  refine List.ext_getElem? fun i => ?_
  by_cases h : i < q
  · have h1 := pz (bn a) 1 q 0 i 0 h (by omega)
    rw [Nat.mul_one, Nat.add_zero, Nat.zero_add] at h1
    rw [h1]
    simp [dX, lM, h]; rfl
  · rw [List.getElem?_eq_none (by rw [gI]; omega), List.getElem?_eq_none (by rw [bg, iZ]; omega)]
theorem Cz (q : Nat) (a : Nat -> Int) (x : Int) : kr (lM q a) x <= q := by have := nA (lM q a) x; rwa [iZ] at this
theorem ai5 (s : aH) (N : ah) (hs : s.Ok) (ho : N.Ok) (hv : gU s = true) (hw : gD N = true) (hk : N.kd = 1) (hb : iQ N s.ch = true) : aA Tryz.prog 16 [(qy s), (DV N)] (.tup [(qy (mU s N)), .one (.g (.int .i64 (oW s N)))]) := by
  have hil : (dX (lZ (lM s.q s.dn) (kr (lM s.q s.dn) N.nu) N.nu)).length = s.q + 1 := by rw [bg, jC (nA _ _), iZ]
  have hk1 : (N.kd = 1) = True := by simp [hk]
  have hpS : jr N s.ch = prt N s.ch := by unfold jr; rw [if_pos hb]
  have hP : (jr N s.ch).Ok := by rw [hpS]; exact ho.p _ (of_decide_eq_true hb)
  have hPk := hP.k
  have hPq := hP.q
  have hPo := hP.o
  have hsq := Ou hv
  have hnn := ho.n
  refine ak Tryz.func16 rfl (by rw [Tryz.ntmps16]; simp) ?_
  simp only [DV, qy, Tryz.ntmps16, zM, PT.tv, au, Nat.zero_add, Nat.reduceAdd]
  repeat' (first
 | ((with_reducible show AW _ _ _ _); first
 | (with_reducible first | refine aS (fun K hK => ?_) | refine aI ?_ | refine aX ?_ | refine aT ?_ | refine aC ?_ | refine aB ?_)
 | (first
 | ((with_reducible show AW _ (Code.region 17 _ true) _ _); refine af6 (c := 3) (b := 4) (r := 5) (m := s.q) (p := kr (lM s.q s.dn) N.nu) (zs := lM s.q s.dn) (x := N.nu) 6 7 rfl rfl rfl rfl rfl rfl rfl rfl rfl rfl rfl ⟨rfl, by simp, by decide⟩ rfl rfl (by decide) (by omega) (aa0 _ _) (iZ _ _) (Cz _ _ _) rfl rfl rfl rfl (by decide) (by kernel_rfl) (by kernel_rfl) (by kernel_rfl) (by kernel_rfl) (by kernel_rfl) ?_)
 | (with_reducible first | refine aP 0 [0,1] ?_ | refine aP (ops := #[⟨some 8, _, _, _, _, _⟩, _, _, _, _, _, _, _]) 1 [2,3,4] ?_ | refine aP (ops := #[⟨some 5, _, _, _, _, _⟩, _, _, _, _]) 1 [0,1] ?_ | refine aP (ops := #[⟨some 6, _, _, _, _, _⟩, _, _]) 1 [0,1] ?_ | refine aP (ops := #[⟨some 4, _, _, _, _, _⟩, _, _, _, _, _, _]) 1 [0,1] ?_)
 | ((with_reducible refine aR (c := Code.region 1 _ true) [2,3] ?_); (with_reducible refine aD ?_ ?_ ?_ ?_); (focus kernel_rfl); (focus kernel_rfl); (focus kernel_rfl))
 | (with_reducible first | refine aP (ops := #[⟨some 23, _, _, _, _, _⟩, _]) 2 [2,3,5,6] ?_ | refine aP (ops := #[⟨some 9, _, _, _, _, _⟩]) 2 [0,1,7,8] ?_ | refine aP (ops := #[⟨some 17, _, _, _, _, _⟩, _, _, _]) 3 [2,3,4] ?_ | refine aP (ops := #[⟨some 25, _, _, _, _, _⟩, _, _, _]) 3 [2,3,5,6,7] ?_ | refine aP (ops := #[⟨some 10, _, _, _, _, _⟩, _]) 3 [0,1,7,8] ?_ | refine aP (ops := #[⟨some 19, _, _, _, _, _⟩, _, _]) 4 [3,4,6] ?_ | refine aP (ops := #[⟨some 11, _, _, _, _, _⟩, _, _, _, _, _]) 4 [0,1,5,7,8] ?_ | refine aP (ops := #[⟨some 21, _, _, _, _, _⟩, _]) 5 [4,6,7] ?_ | refine aP (ops := #[⟨some 29, _, _, _, _, _⟩, _, _]) 5 [2,3,5,6,7] ?_ | refine aP (ops := #[⟨some 17, _, _, _, _, _⟩, _]) 5 [5] ?_ | refine aP (ops := #[⟨some 23, _, _, _, _, _⟩, _, _, _]) 6 [4,7] ?_ | refine aP (ops := #[⟨some 18, _, _, _, _, _⟩, _]) 6 [0,1,7,8] ?_ | refine aP (ops := #[⟨some 25, _, _, _, _, _⟩, _, _, _]) 7 [4,6] ?_ | refine aP (ops := #[⟨some 4, _, _, _, _, _⟩]) 7 [] ?_)
 | ((with_reducible refine aR (c := Code.region 7 _ true) [2,3,5,7] ?_); (with_reducible refine aD ?_ ?_ ?_ ?_); (focus kernel_rfl); (focus kernel_rfl); (focus kernel_rfl))
 | (with_reducible first | refine aP 8 [] ?_ | refine aP 9 [2,3,5,7] ?_ | refine aP 10 [] ?_ | refine aP 11 [2,3,5] ?_ | refine aP 12 [] ?_)
 | ((with_reducible refine aR (c := Code.region 13 _ true) [2,3,5] ?_); (with_reducible refine aD ?_ ?_ ?_ ?_); (focus kernel_rfl); (focus kernel_rfl); (focus kernel_rfl))
 | (with_reducible first | refine aP 14 [2,3,8,10] ?_ | refine aP 15 [] ?_)
 | ((with_reducible refine aR (c := Code.region 16 _ true) [2,3,8] ?_); (with_reducible refine aD ?_ ?_ ?_ ?_); (focus kernel_rfl); (focus kernel_rfl); (focus kernel_rfl))
 | (with_reducible refine vH (c := Code.region 18 _ false) [6] ?_ (aP 18 [] ?_)))
 | ((with_reducible show AW _ (Code.loop _) _ _); first
 | ((with_reducible refine aL (c := (Code.seq (Code.region 2 _ _) _)) (ι := Nat) [0,1,7] (fun j => [(8, iA .i64 (j : Int))]) (fun j => []) (fun j => j <= (jr N s.ch).q /\ (∀ k, k < j -> gq s.q s.dn ((jr N s.ch).a k) = true)) (fun j => (jr N s.ch).q - j) 0 ?lg2 ?l12 ?l22 ?li2 ?lr2); (case' lg2 => rintro j _); (case' li2 => try (exact ⟨Nat.zero_le _, fun i hi => absurd hi (Nat.not_lt_zero _)⟩)); (case' lr2 => rintro j ⟨hj, haj⟩ KR hR2; simp only [bI, dI, hset, lk, if_true, if_false, xE, reduceIte, zN, hv, hw, hb, hk1, iD, pq, hil, Nat.le_refl]))))
 | ((first | (with_reducible refine And.intro ?_ ?_) | (with_reducible refine Need.mk ?_)); focus (first | exact iO _ | first | exact True.intro | omega | (intro _; exact True.intro)))
 | (with_reducible refine aJ ?_)
 | ((with_reducible show bL _ _ _ _ _ _); first
 | ((with_reducible refine aM ?_ ?_) <;> (intro hc; (try simp only [zB, zC, reduceCtorEq] at hc); (try (exfalso; contradiction)))))
 | ((with_reducible refine And.intro ?_ ?_); focus ((with_reducible show gW _ _ _ = true); kernel_rfl))
 | ((with_reducible show aQ _ _ _ _ _ _ _ _ _ _); first
 | (refine aF (k := 48) kH (lN s hs) ?_ ?_)
 | (refine aF (k := 98) zI (UY s _ hs hv) ?_ ?_)
 | ((refine dA (k := 49) Tryz.func49 rfl zW (by rw [Tryz.ntmps49]; simp) ?_ ?_ (fun K hK => ?_)); (focus (exact True.intro)); (focus ((simp [jF]; done))); simp only [Tryz.ntmps49, List.map_cons, List.map_nil, List.nil_append, List.cons_append, List.append_nil, LV.tv, au, Nat.zero_add, Nat.reduceAdd])
 | ((refine dA (k := 99) Tryz.func99 rfl NU (by rw [Tryz.ntmps99]; simp) ?_ ?_ (fun K hK => ?_)); (focus (exact True.intro)); (focus ((simp [jF]; done))); simp only [Tryz.ntmps99, List.map_cons, List.map_nil, List.nil_append, List.cons_append, List.append_nil, LV.tv, au, Nat.zero_add, Nat.reduceAdd])
 | ((refine dA (k := 136) Tryz.func136 rfl I7 (by rw [Tryz.ntmps136]; simp) ?_ ?_ (fun K hK => ?_)); (focus (exact True.intro)); (focus ((simp [jF]; done))); simp only [Tryz.ntmps136, List.map_cons, List.map_nil, List.nil_append, List.cons_append, List.append_nil, LV.tv, au, Nat.zero_add, Nat.reduceAdd])
 | ((refine nM (k := 97) Tryz.func97 rfl aeE (by rw [Tryz.ntmps97]; simp) ?_ ?_ (fun K hK => ?_)); (focus (exact True.intro)); (focus ((simp [jF]; done))); simp only [Tryz.ntmps97, List.map_cons, List.map_nil, List.nil_append, List.cons_append, List.append_nil, LV.tv, au, Nat.zero_add, Nat.reduceAdd]))
 | ((with_reducible show bG _ _ _ _ _ _ _ _ _ _); first
 | (refine aO (k := 18) iP (fun hg => nX N ho) ?_ ?_))
 | ((with_reducible show eu _ _ _ _ _ _ _ _ _ _ _ _ _); first
 | (refine cB (k := 96) uS (Gs N s.ch ho) ?_ ?_)
 | (refine cB (k := 98) zI (UY s _ hs hv) ?_ ?_)
 | (refine cB (k := 61) FU (OH s.n s.f (jr N s.ch).k (jr N s.ch).o hs.n hs.f hPk hPo) ?_ ?_)
 | (refine cB (k := 100) CX (amm s.q s.dn _ (by omega) (fun i j h1 h2 => tQ hsq.2.2 j h1 h2)) ?_ ?_))
 | ((with_reducible refine hR2 _ (j + 1) ?_); (try clear hR2 KR))
 | ((with_reducible refine Told.mk ?_); simp only [go_sem, reduceIte, reduceCtorEq, xA, xL, xD, xE, xM, xS, xB, hv, hw, hb, hk1, bn, iD, pq, hil, Nat.le_refl] <;> ((((try simp (disch := omega) only [aV, Int.natCast_add, Int.cast_ofNat_Int, and_true, true_and, and_self]); (repeat' (first | omega | (with_reducible refine And.intro ?_ ?_) | (exact all_succ (by assumption) (by assumption)))); done))))
 | ((fail_if_success (with_reducible show AW _ _ _ _)); simp (maxSteps := 2000000) only [go_sem, reduceIte, reduceCtorEq, xA, xL, xD, xE, xM, xS, xB, Tryz.f16, Tryz.f49, Tryz.f99, Tryz.f136, Tryz.f97, hv, hw, hb, hk1, bn, iD, pq, hil, Nat.le_refl])
 | ((with_reducible refine hK _ ?_); clear hK K)
 | (with_reducible apply_assumption -exfalso only [*]))
  all_goals (try rw [hpS] at *)
  all_goals (first | (have e := yP (N := N) (s := s) ((tq hv hw).trans ((Ki hk hb).trans (aoj (by assumption)))) (by decide); rw [e.1, e.2]; (repeat' (first | exact rfl | (with_reducible refine And.intro ?_ ?_))); done) | (have e := yP (N := N) (s := s) ((tq hv hw).trans ((Ki hk hb).trans (alm (by assumption) (by assumption) (by assumption)))) (by decide); rw [e.1, e.2]; (repeat' (first | exact rfl | (with_reducible refine And.intro ?_ ?_))); done) | (have e := yP (N := N) (s := s) ((tq hv hw).trans ((Ki hk hb).trans (anI (by assumption) (Xb (by assumption) haj) (by assumption)))) (by decide); rw [e.1, e.2]; (repeat' (first | exact rfl | (with_reducible refine And.intro ?_ ?_))); done) | (have e := yP (N := N) (s := s) ((tq hv hw).trans ((Ki hk hb).trans (alx (by assumption) (Xb (by assumption) haj) (by assumption) (by assumption)))) (by decide); rw [e.1, e.2]; (repeat' (first | exact rfl | (with_reducible refine And.intro ?_ ?_))); done) | (have e := UZ (N := N) (s := s) ((tq hv hw).trans ((Ki hk hb).trans (anA (by assumption) (Xb (by assumption) haj) (by assumption) (by assumption)))); rw [e.1, e.2]; (repeat' (first | exact rfl | (with_reducible refine And.intro ?_ ?_) | (intro i q hi hq; exact IV.bf _) | (intro i q hi hq; exact Xp (by omega) hq))); done))
theorem aii (s : aH) (N : ah) (hs : s.Ok) (ho : N.Ok) (hv : gU s = false) : aA Tryz.prog 16 [(qy s), (DV N)] (.tup [(qy (mU s N)), .one (.g (.int .i64 (oW s N)))]) := by
  refine ak Tryz.func16 rfl (by rw [Tryz.ntmps16]; simp) ?_
  simp only [DV, qy, Tryz.ntmps16, zM, PT.tv, au, Nat.zero_add, Nat.reduceAdd]
  repeat' (first
 | ((with_reducible show AW _ _ _ _); first
 | (with_reducible first | refine aS (fun K hK => ?_) | refine aT ?_ | refine aC ?_)
 | (first
 | (with_reducible first | refine aP 0 [0,1] ?_ | refine aP 1 [2,3,4] ?_ | refine aP 2 [4] ?_)))
 | ((first | (with_reducible refine And.intro ?_ ?_) | (with_reducible refine Need.mk ?_)); focus (first | exact True.intro | (simp; done)))
 | (with_reducible refine aJ ?_)
 | ((with_reducible show bL _ _ _ _ _ _); first
 | ((with_reducible refine aM ?_ ?_) <;> (intro hc; (try simp only [zB, zC, reduceCtorEq] at hc); (try (exfalso; contradiction)))))
 | ((with_reducible show aQ _ _ _ _ _ _ _ _ _ _); (refine aF (k := 48) kH (lN s hs) ?_ ?_))
 | ((with_reducible show bG _ _ _ _ _ _ _ _ _ _); (refine aO (k := 18) iP (fun hg => nX N ho) ?_ ?_))
 | ((fail_if_success (with_reducible show AW _ _ _ _)); simp (maxSteps := 2000000) only [go_sem, reduceIte, reduceCtorEq, xA, xL, xD, xE, xM, xS, xB, Tryz.f16, hv, bn])
 | ((with_reducible refine hK _ ?_); clear hK K))
  all_goals ((have e := yP (N := N) (s := s) (WQ (Or.inl hv)) (by decide); rw [e.1, e.2]; (repeat' (first | exact rfl | (with_reducible refine And.intro ?_ ?_))); done))
theorem aiE (s : aH) (N : ah) (hs : s.Ok) (ho : N.Ok) (hv : gU s = true) (hw : gD N = false) : aA Tryz.prog 16 [(qy s), (DV N)] (.tup [(qy (mU s N)), .one (.g (.int .i64 (oW s N)))]) := by
  refine ak Tryz.func16 rfl (by rw [Tryz.ntmps16]; simp) ?_
  simp only [DV, qy, Tryz.ntmps16, zM, PT.tv, au, Nat.zero_add, Nat.reduceAdd]
  repeat' (first
 | ((with_reducible show AW _ _ _ _); first
 | (with_reducible first | refine aS (fun K hK => ?_) | refine aT ?_ | refine aC ?_)
 | (first
 | (with_reducible first | refine aP 0 [0,1] ?_ | refine aP 1 [2,3,4] ?_ | refine aP 2 [4] ?_)))
 | ((first | (with_reducible refine And.intro ?_ ?_) | (with_reducible refine Need.mk ?_)); focus (first | exact True.intro | (intro _; exact True.intro)))
 | (with_reducible refine aJ ?_)
 | ((with_reducible show bL _ _ _ _ _ _); first
 | ((with_reducible refine aM ?_ ?_) <;> (intro hc; (try simp only [zB, zC, reduceCtorEq] at hc); (try (exfalso; contradiction)))))
 | ((with_reducible show aQ _ _ _ _ _ _ _ _ _ _); (refine aF (k := 48) kH (lN s hs) ?_ ?_))
 | ((with_reducible show bG _ _ _ _ _ _ _ _ _ _); (refine aO (k := 18) iP (fun hg => nX N ho) ?_ ?_))
 | ((fail_if_success (with_reducible show AW _ _ _ _)); simp (maxSteps := 2000000) only [go_sem, reduceIte, reduceCtorEq, xA, xL, xD, xE, xM, xS, xB, Tryz.f16, hv, hw, bn])
 | ((with_reducible refine hK _ ?_); clear hK K))
  all_goals ((have e := yP (N := N) (s := s) (WQ (Or.inr hw)) (by decide); rw [e.1, e.2]; (repeat' (first | exact rfl | (with_reducible refine And.intro ?_ ?_))); done))
theorem ajn (s : aH) (N : ah) (hs : s.Ok) (ho : N.Ok) (hv : gU s = true) (hw : gD N = true) (hk : N.kd ≠ 1) : aA Tryz.prog 16 [(qy s), (DV N)] (.tup [(qy (mU s N)), .one (.g (.int .i64 (oW s N)))]) := by
  refine ak Tryz.func16 rfl (by rw [Tryz.ntmps16]; simp) ?_
  simp only [DV, qy, Tryz.ntmps16, zM, PT.tv, au, Nat.zero_add, Nat.reduceAdd]
  repeat' (first
 | ((with_reducible show AW _ _ _ _); first
 | (with_reducible first | refine aS (fun K hK => ?_) | refine aI ?_ | refine aT ?_ | refine aC ?_ | refine aB ?_)
 | (first
 | (with_reducible first | refine aP (ops := #[⟨some 2, _, _, _, _, _⟩, _, _, _]) 0 [0,1] ?_ | refine aP (ops := #[⟨some 2, _, _, _, _, _⟩, _, _]) 0 [0,1] ?_ | refine aP 1 [2,3,4] ?_)
 | ((with_reducible refine aR (c := Code.region 1 _ true) [2,3] ?_); (with_reducible refine aD ?_ ?_ ?_ ?_); (focus kernel_rfl); (focus kernel_rfl); (focus kernel_rfl))
 | (with_reducible first | refine aP (ops := #[⟨some 23, _, _, _, _, _⟩, _]) 2 [2,3,5,6] ?_ | refine aP (ops := #[⟨some 17, _, _, _, _, _⟩, _, _, _]) 3 [2,3,4] ?_ | refine aP (ops := #[⟨some 25, _, _, _, _, _⟩, _, _, _]) 3 [2,3,5,6,7] ?_ | refine aP (ops := #[⟨some 19, _, _, _, _, _⟩, _, _]) 4 [3,4,6] ?_ | refine aP (ops := #[⟨some 4, _, _, _, _, _⟩]) 4 [] ?_ | refine aP (ops := #[⟨some 21, _, _, _, _, _⟩, _]) 5 [4,6,7] ?_ | refine aP (ops := #[⟨some 23, _, _, _, _, _⟩, _, _, _]) 6 [4,7] ?_)))
 | ((first | (with_reducible refine And.intro ?_ ?_) | (with_reducible refine Need.mk ?_)); focus (first | exact True.intro | (intro _; exact True.intro)))
 | (with_reducible refine aJ ?_)
 | ((with_reducible show bL _ _ _ _ _ _); first
 | ((with_reducible refine aM ?_ ?_) <;> (intro hc; (try simp only [zB, zC, reduceCtorEq] at hc); (try (exfalso; contradiction)))))
 | ((with_reducible refine And.intro ?_ ?_); focus ((with_reducible show gW _ _ _ = true); kernel_rfl))
 | ((with_reducible show aQ _ _ _ _ _ _ _ _ _ _); first
 | (refine aF (k := 48) kH (lN s hs) ?_ ?_)
 | ((refine dA (k := 49) Tryz.func49 rfl zW (by rw [Tryz.ntmps49]; simp) ?_ ?_ (fun K hK => ?_)); (focus (exact True.intro)); (focus ((simp [jF]; done))); simp only [Tryz.ntmps49, List.map_cons, List.map_nil, List.nil_append, List.cons_append, List.append_nil, LV.tv, au, Nat.zero_add, Nat.reduceAdd]))
 | ((with_reducible show bG _ _ _ _ _ _ _ _ _ _); first
 | (refine aO (k := 18) iP (fun hg => nX N ho) ?_ ?_))
 | ((with_reducible show eu _ _ _ _ _ _ _ _ _ _ _ _ _); first
 | (refine cB (k := 96) uS (Gs N s.ch ho) ?_ ?_))
 | ((fail_if_success (with_reducible show AW _ _ _ _)); simp (maxSteps := 2000000) only [go_sem, reduceIte, reduceCtorEq, xA, xL, xD, xE, xM, xS, xB, Tryz.f16, Tryz.f49, hv, hw, hk, bn])
 | ((with_reducible refine hK _ ?_); clear hK K)
 | (with_reducible apply_assumption -exfalso only [*]))
  all_goals ((have e := yP (N := N) (s := s) ((tq hv hw).trans (ak8 hk)) (by decide); rw [e.1, e.2]; (repeat' (first | exact rfl | (with_reducible refine And.intro ?_ ?_))); done))
theorem aiU (s : aH) (N : ah) (hs : s.Ok) (ho : N.Ok) (hv : gU s = true) (hw : gD N = true) (hk : N.kd = 1) (hb : iQ N s.ch = false) : aA Tryz.prog 16 [(qy s), (DV N)] (.tup [(qy (mU s N)), .one (.g (.int .i64 (oW s N)))]) := by
  have hk1 : (N.kd = 1) = True := by simp [hk]
  refine ak Tryz.func16 rfl (by rw [Tryz.ntmps16]; simp) ?_
  simp only [DV, qy, Tryz.ntmps16, zM, PT.tv, au, Nat.zero_add, Nat.reduceAdd]
  repeat' (first
 | ((with_reducible show AW _ _ _ _); first
 | (with_reducible first | refine aS (fun K hK => ?_) | refine aI ?_ | refine aT ?_ | refine aC ?_ | refine aB ?_)
 | (first
 | (with_reducible first | refine aP (ops := #[⟨some 2, _, _, _, _, _⟩, _, _, _]) 0 [0,1] ?_ | refine aP (ops := #[⟨some 2, _, _, _, _, _⟩, _, _]) 0 [0,1] ?_ | refine aP 1 [2,3,4] ?_)
 | ((with_reducible refine aR (c := Code.region 1 _ true) [2,3] ?_); (with_reducible refine aD ?_ ?_ ?_ ?_); (focus kernel_rfl); (focus kernel_rfl); (focus kernel_rfl))
 | (with_reducible first | refine aP (ops := #[⟨some 23, _, _, _, _, _⟩, _]) 2 [2,3,5,6] ?_ | refine aP (ops := #[⟨some 17, _, _, _, _, _⟩, _, _, _]) 3 [2,3,4] ?_ | refine aP (ops := #[⟨some 25, _, _, _, _, _⟩, _, _, _]) 3 [2,3,5,6,7] ?_ | refine aP (ops := #[⟨some 19, _, _, _, _, _⟩, _, _]) 4 [3,4,6] ?_ | refine aP (ops := #[⟨some 21, _, _, _, _, _⟩, _]) 5 [4,6,7] ?_ | refine aP (ops := #[⟨some 29, _, _, _, _, _⟩, _, _]) 5 [2,3,5,6,7] ?_ | refine aP (ops := #[⟨some 23, _, _, _, _, _⟩, _, _, _]) 6 [4,7] ?_ | refine aP (ops := #[⟨some 4, _, _, _, _, _⟩]) 6 [] ?_)))
 | ((first | (with_reducible refine And.intro ?_ ?_) | (with_reducible refine Need.mk ?_)); focus (first | exact True.intro | (intro _; exact True.intro)))
 | (with_reducible refine aJ ?_)
 | ((with_reducible show bL _ _ _ _ _ _); first
 | ((with_reducible refine aM ?_ ?_) <;> (intro hc; (try simp only [zB, zC, reduceCtorEq] at hc); (try (exfalso; contradiction)))))
 | ((with_reducible refine And.intro ?_ ?_); focus ((with_reducible show gW _ _ _ = true); kernel_rfl))
 | ((with_reducible show aQ _ _ _ _ _ _ _ _ _ _); first
 | (refine aF (k := 48) kH (lN s hs) ?_ ?_)
 | ((refine dA (k := 49) Tryz.func49 rfl zW (by rw [Tryz.ntmps49]; simp) ?_ ?_ (fun K hK => ?_)); (focus (exact True.intro)); (focus ((simp [jF]; done))); simp only [Tryz.ntmps49, List.map_cons, List.map_nil, List.nil_append, List.cons_append, List.append_nil, LV.tv, au, Nat.zero_add, Nat.reduceAdd]))
 | ((with_reducible show bG _ _ _ _ _ _ _ _ _ _); first
 | (refine aO (k := 18) iP (fun hg => nX N ho) ?_ ?_))
 | ((with_reducible show eu _ _ _ _ _ _ _ _ _ _ _ _ _); first
 | (refine cB (k := 96) uS (Gs N s.ch ho) ?_ ?_))
 | ((fail_if_success (with_reducible show AW _ _ _ _)); simp (maxSteps := 2000000) only [go_sem, reduceIte, reduceCtorEq, xA, xL, xD, xE, xM, xS, xB, Tryz.f16, Tryz.f49, hv, hw, hk1, hb, bn])
 | ((with_reducible refine hK _ ?_); clear hK K)
 | (with_reducible apply_assumption -exfalso only [*]))
  all_goals ((have e := yP (N := N) (s := s) ((tq hv hw).trans (aoo hk hb)) (by decide); rw [e.1, e.2]; (repeat' (first | exact rfl | (with_reducible refine And.intro ?_ ?_))); done))
theorem LA (s : aH) (N : ah) (hs : s.Ok) (ho : N.Ok) : aA Tryz.prog 16 [(qy s), (DV N)] (.tup [(qy (mU s N)), .one (.g (.int .i64 (oW s N)))]) := by
  cases hv : gU s with
  | false => exact aii s N hs ho hv
  | true => cases hw : gD N with
    | false => exact aiE s N hs ho hv hw
    | true =>
      by_cases hk : N.kd = 1
      · cases hb : iQ N s.ch with
        | false => exact aiU s N hs ho hv hw hk hb
        | true => exact ai5 s N hs ho hv hw hk hb
      · exact ajn s N hs ho hv hw hk
end Go.Proofs.YtcfechepbamhkaaGreat
set_option maxRecDepth 100000
set_option maxHeartbeats 4000000
namespace Go.Proofs.YtcfechepbamhkaaGreat
open Go.RowKit Go.Sea
open Nat renaming reduceAdd -> xA, reduceLT -> xL, reduceLeDiff -> xD, reduceEqDiff -> xE, reduceMul -> xM, reduceSub -> xS, reduceBEq -> xB
theorem WH : aN Tryz.prog 156 = true := by kernel_rfl
theorem acJ : aN Tryz.prog 66 = true := by kernel_rfl
attribute [go_sem] WH acJ
theorem Mr {q : Nat} {a : Nat -> Int} {x : Int} {i : Nat} (h : i < kr (lM q a) x) : SX q a x i = a i /\ a i < x := by
  have hq := Cz q a x
  have h1 := Pj h
  unfold SX
  rw [vv (nA _ _) h, oM (by omega)]
  rw [oM (by omega)] at h1
  exact ⟨rfl, h1⟩
theorem ahB {q : Nat} {a : Nat -> Int} {x : Int} : SX q a x (kr (lM q a) x) = x := uF (nA _ _)
theorem UD {q : Nat} {a : Nat -> Int} {x : Int} {i : Nat} (h : kr (lM q a) x < i) (hi : i < q + 1) : SX q a x i = a (i - 1) := by
  unfold SX
  rw [F7 (nA _ _) h, oM (by omega)]
theorem afm {q : Nat} {a : Nat -> Int} {x : Int} (hs : ∀ i j, i < j -> j < q -> a i < a j) {i : Nat} (h : kr (lM q a) x <= i) (hi : i < q) : x <= a i := by
  have h1 := Ny (zs := lM q a) (x := x) (by rw [iZ]; omega)
  rw [oM (by omega)] at h1
  by_cases e : kr (lM q a) x = i
  · rw [e] at h1; omega
  · have := hs (kr (lM q a) x) i (by omega) hi
    omega
theorem ais {q : Nat} {a : Nat -> Int} {x : Int} (h : gq q a x = false) {i : Nat} (hi : i < q) : a i ≠ x := fun e => of_decide_eq_false h ⟨i, hi, e⟩
theorem ajq {q : Nat} {a : Nat -> Int} {x : Int} (h : ∀ i, i < q -> nD a 10001 i) (hn : gq q a x = false) (h1 : 1 <= x) (h2 : x < 10001) : ∀ i, i < q + 1 -> nD (SX q a x) 10001 i := by
  have hs : ∀ i j, i < j -> j < q -> a i < a j := fun i j => tQ h j
  have val : ∀ i, i < q + 1 -> (i < kr (lM q a) x /\ SX q a x i = a i /\ a i < x) \/ (i = kr (lM q a) x /\ SX q a x i = x) \/ (kr (lM q a) x < i /\ SX q a x i = a (i - 1) /\ x < a (i - 1)) := fun i hi => by
    rcases Nat.lt_trichotomy i (kr (lM q a) x) with hl | hl | hl
    · exact Or.inl ⟨hl, (Mr hl).1, (Mr hl).2⟩
    · exact Or.inr (Or.inl ⟨hl, by rw [hl]; exact ahB⟩)
    · refine Or.inr (Or.inr ⟨hl, UD hl hi, ?_⟩)
      have g1 := afm (x := x) hs (i := i - 1) (by omega) (by omega)
      have g2 := ais hn (i := i - 1) (by omega)
      omega
  intro i hi
  refine ⟨?_, ?_, fun h0 => ?_⟩
  · rcases val i hi with ⟨g, e, _⟩ | ⟨g, e⟩ | ⟨g, e, _⟩
    · rw [e]; exact (h i (by have := Cz q a x; omega)).1
    · rw [e]; exact h1
    · rw [e]; exact (h (i - 1) (by omega)).1
  · rcases val i hi with ⟨g, e, _⟩ | ⟨g, e⟩ | ⟨g, e, _⟩
    · rw [e]; exact (h i (by have := Cz q a x; omega)).2.1
    · rw [e]; exact h2
    · rw [e]; exact (h (i - 1) (by omega)).2.1
  · have hq := Cz q a x
    rcases val i hi with ⟨g, e, e2⟩ | ⟨g, e⟩ | ⟨g, e, e2⟩ <;> rcases val (i - 1) (by omega) with ⟨g', e', e2'⟩ | ⟨g', e'⟩ | ⟨g', e', e2'⟩
    · rw [e, e']; exact hs _ _ (by omega) (by omega)
    · omega
    · omega
    · rw [e, e']; exact e2'
    · omega
    · omega
    · omega
    · rw [e, e']; exact e2
    · rw [e, e']; exact hs _ _ (by omega) (by omega)
theorem XF {l : List aZ} (h : Good l) : oP l.length (fun i => l.getD i eF) = true := by
  refine decide_eq_true ⟨h.n, fun i hi => ⟨h.f _ (Di hi), fun h0 => ?_⟩⟩
  have hp := List.pairwise_iff_getElem.1 h.a (i - 1) i (by omega) hi (by omega)
  simp only [List.getD, List.getElem?_eq_getElem hi, List.getElem?_eq_getElem (show i - 1 < l.length by omega), Option.getD_some]
  exact hp
theorem agi {n : Nat} {f : Nat -> aZ} {k : Nat} {o : Nat -> fE} (he : zJ n f k o = 0) : oP (Ef n f k o) (apF n f k o) = true := by
  unfold zJ at he
  by_cases hV : OP n f k o = true
  · rw [if_pos hV] at he
    have hv : oP n f = true := by unfold OP at hV; simp at hV; exact hV.1
    have hw : D7 k o = true := by unfold OP at hV; simp at hV; exact hV.2
    have hops := (of_decide_eq_true hw).2
    by_cases hj : apJ n f k o < k
    · rw [if_pos hj] at he
      exfalso
      have := (jD (b := fun j => decide ((ow (jN (LF f n) o j) (o j)).1 ≠ 0)) (k := k)).2 hj
      exact of_decide_eq_true this he
    · have e1 : Ef n f k o = (jN (LF f n) o k).length := by unfold Ef; rw [if_pos hV, if_neg hj]
      rw [e1]
      exact XF (kU (Gg hv) hops k (Nat.le_refl k))
  · rw [if_neg hV] at he; exact absurd he (by decide)
theorem YD {N : ah} (h : gD N = true) : 1 <= N.nu /\ N.nu <= 10000 := (of_decide_eq_true h).1.1.2.1
theorem afI {s : aH} {N : ah} (h : oW s N = 0) : gU (edS s N) = true /\ gU s = true /\ gD N = true /\ N.kd = 1 /\ iQ N s.ch = true /\ gq s.q s.dn N.nu = false /\ Kh s (prt N s.ch) = false /\ s.q < 200 /\ zJ s.n s.f (prt N s.ch).k (prt N s.ch).o = 0 := by
  unfold oW at h
  by_cases h0 : (gU s && gD N) = true
  · rw [if_pos h0] at h
    simp only [Bool.and_eq_true] at h0
    unfold edE at h
    by_cases h1 : N.kd ≠ 1
    · rw [if_pos h1] at h; cases h
    rw [if_neg h1] at h
    by_cases h2 : iQ N s.ch = false
    · rw [if_pos h2] at h; cases h
    rw [if_neg h2] at h
    unfold uH at h
    by_cases h3 : gq s.q s.dn N.nu = true
    · rw [if_pos h3] at h; cases h
    rw [if_neg h3] at h
    by_cases h4 : Kh s (prt N s.ch) = true
    · rw [if_pos h4] at h; cases h
    rw [if_neg h4] at h
    by_cases h5 : 200 <= s.q
    · rw [if_pos h5] at h; cases h
    rw [if_neg h5] at h
    by_cases h6 : zJ s.n s.f (prt N s.ch).k (prt N s.ch).o ≠ 0
    · rw [if_pos h6] at h; cases h
    have h6 : zJ s.n s.f (prt N s.ch).k (prt N s.ch).o = 0 := by omega
    have hn : gq s.q s.dn N.nu = false := by simpa using h3
    refine ⟨?_, h0.1, h0.2, by omega, by simpa using h2, hn, by simpa using h4, by omega, h6⟩
    have hv := h0.1
    have hnu := YD h0.2
    have hq := Ou hv
    unfold gU at hv ⊢
    simp only [Bool.and_eq_true] at hv ⊢
    refine ⟨⟨⟨?_, hv.1.1.2⟩, hv.1.2⟩, agi h6⟩
    exact decide_eq_true ⟨by show s.q + 1 <= 200; omega, ajq hq.2.2 hn hnu.1 (by omega)⟩
  · rw [if_neg h0] at h; cases h
theorem aiJ {n : Nat} {f : Nat -> aZ} (h : oP n f = true) : ∀ i, i < n -> (f i).Ok := fun i hi => GA ((of_decide_eq_true h).2 i hi).1
theorem Zv {s : aH} (h : gU s = true) : s.Ok := by
  have hq := Ou h
  unfold gU at h
  simp only [Bool.and_eq_true] at h
  exact ⟨by omega, by omega, aiJ h.2⟩
theorem mM {n : Nat} {N : Nat -> ah} (h : uw n N = true) : n <= 200 /\ ∀ i, i < n -> AZ N i := of_decide_eq_true h
end Go.Proofs.YtcfechepbamhkaaGreat
set_option maxRecDepth 100000
set_option maxHeartbeats 4000000
namespace Go.Proofs.YtcfechepbamhkaaGreat
open Go.RowKit Go.Sea
open Nat renaming reduceAdd -> xA, reduceLT -> xL, reduceLeDiff -> xD, reduceEqDiff -> xE, reduceMul -> xM, reduceSub -> xS, reduceBEq -> xB
theorem WA : aN Tryz.prog 164 = true := by kernel_rfl
theorem alo : fM Tryz.prog 28 = true := by kernel_rfl
theorem ahP : inD Tryz.prog 167 = some .u64 := by kernel_rfl
theorem anB : inD Tryz.prog 3 = some .i64 := by kernel_rfl
theorem ai6 : lQ Tryz.prog 167 = some (false, 1) := by kernel_rfl
attribute [go_sem] WA alo ahP anB ai6
theorem iV {P : Program} {gs : List (Option Nat)} {b : Bool} {o : Oper} {os : List Oper} {s : AS} {K : AS -> Prop} (h1 : b = true -> kJ P gs o os s K) (h2 : b = false -> fP P gs os (s.put o.dst .any) K) : mg P gs b o os s K := Or.inr ⟨h1, h2⟩
def Ta : ah := ⟨0, 0, 0, 0, 0, 0, 0, fun _ => Ey⟩
theorem qo {n : Nat} {N : Nat -> ah} (h : ∀ i, i < n -> AZ N i) {i : Nat} : ∀ j, i < j -> j < n -> (N i).nu < (N j).nu
  | 0, hij, _ => absurd hij (Nat.not_lt_zero _)
  | j + 1, hij, hj => by
    have h1 := (h (j + 1) hj).2.2 (by omega)
    rw [Nat.add_sub_cancel] at h1
    by_cases e : i = j
    · subst e; exact h1
    · have := qo (i := i) h j (by omega) (by omega)
      omega
theorem ahX {n : Nat} {N : Nat -> ah} {x : Int} (h : ∀ i, i < n -> AZ N i) {m : Nat} (hc : x <= (N m).nu) : ∀ k, m <= k -> k < n -> x <= (N k).nu := fun k hk hn => by
  by_cases e : k = m
  · subst e; exact hc
  · have := qo (i := m) h k (by omega) hn
    omega
end Go.Proofs.YtcfechepbamhkaaGreat
set_option maxRecDepth 100000
set_option maxHeartbeats 4000000
namespace Go.Proofs.YtcfechepbamhkaaGreat
open Go.RowKit Go.Sea
open Nat renaming reduceAdd -> xA, reduceLT -> xL, reduceLeDiff -> xD, reduceEqDiff -> xE, reduceMul -> xM, reduceSub -> xS, reduceBEq -> xB
theorem zo : aN Tryz.prog 82 = true := by kernel_rfl
theorem acW : aN Tryz.prog 83 = true := by kernel_rfl
theorem Vi : aN Tryz.prog 128 = true := by kernel_rfl
attribute [go_sem] zo acW Vi
theorem Fv {N : ah} {ch : Int} (h : iQ N ch = true) : jr N ch = prt N ch := by unfold jr; rw [if_pos h]
end Go.Proofs.YtcfechepbamhkaaGreat
