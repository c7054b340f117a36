/- Part 15 of 17: contracts of functions and plain laws for the root text. No condition. -/
import Derived.Test.YtcfechepbamhkaaGreatX01
import Derived.Test.YtcfechepbamhkaaGreatX02
import Derived.Test.YtcfechepbamhkaaGreatX03
import Derived.Test.YtcfechepbamhkaaGreatX04
import Derived.Test.YtcfechepbamhkaaGreatX05
import Derived.Test.YtcfechepbamhkaaGreatX06
import Derived.Test.YtcfechepbamhkaaGreatX07
import Derived.Test.YtcfechepbamhkaaGreatX08
import Derived.Test.YtcfechepbamhkaaGreatX09
import Derived.Test.YtcfechepbamhkaaGreatX10
import Derived.Test.YtcfechepbamhkaaGreatX11
import Derived.Test.YtcfechepbamhkaaGreatX12
import Derived.Test.YtcfechepbamhkaaGreatX13
import Derived.Test.YtcfechepbamhkaaGreatX14
import Derived.Lib.AppendZerosOnto
import Derived.Laws.CopyRow
import Derived.Lib.Overlaps
set_option linter.unusedVariables false
set_option linter.unusedSimpArgs false
set_option maxRecDepth 100000
namespace Go.Sea
open Go.RowKit Go.Sea
def amB (P : Program) (o : Oper) (s s' : AS) : Prop := o.guard = none /\ ((∀ c, o.op ≠ .defer c) -> ∀ (w0 : World) (Z0 : Fr) (a : Act) (w : World) (K : Act -> World -> Prop) (Q : Exit -> Act -> World -> Prop) (n : Nat), mE w0 Z0 s a w -> (∀ a' w', mE w0 Z0 s' a' w' -> K a' w') -> o.wpIn (fo Z0.ro) n P a w K Q)
def TT (P : Program) : Option Oper -> AS -> AS -> Prop
  | some o, s, s' => amB P o s s'
  | none, _, _ => False
def Nk (P : Program) (os : List Oper) (G : Nat -> AS) : List (Nat × Nat × Nat) -> Prop
  | [] => True
  | (m, i, m') :: r => TT P (ko os i) (G m) (G m') /\ Nk P os G r
theorem Tc {P : Program} {os : List Oper} {G : Nat -> AS} : Nk P os G [] := trivial
theorem LZ {P : Program} {os : List Oper} {G : Nat -> AS} {m i m' : Nat} {r : List (Nat × Nat × Nat)} (h : TT P (ko os i) (G m) (G m')) (h2 : Nk P os G r) : Nk P os G ((m, i, m') :: r) := ⟨h, h2⟩
theorem Ou {P : Program} {os : List Oper} {G : Nat -> AS} {m i m' : Nat} : ∀ {Es : List (Nat × Nat × Nat)}, (m, i, m') ∈ Es -> Nk P os G Es -> TT P (ko os i) (G m) (G m')
  | (_, _, _) :: r, h, hr => by
    rcases List.mem_cons.1 h with e | h
    · cases e; exact hr.1
    · exact Ou h hr.2
theorem ajm {P : Program} {os : List Oper} {n0 i : Nat} {L : List Nat} {s s' : AS} (h : ∀ K : AS -> Prop, (∀ s2 : AS, Leaf ⟨bG s2.env L, s2.heap, s2.N, s2.gh, s2.lp⟩ s' -> K s2) -> Ny P n0 i s K (ko os i)) : TT P (ko os i) s s' := by
  have hop := h _ fun _ h => h
  cases ho : ko os i with
  | none => rw [ho] at hop; exact hop.elim
  | some o =>
    rw [ho] at hop
    obtain ⟨hg, hop⟩ := hop
    refine ⟨hg, fun hdo w0 Z0 a w K Q n R' hK => ?_⟩
    split at hop
    · rename_i nd v ef hof
      obtain ⟨hh, hdst, hnd, hrun⟩ := hop
      obtain ⟨J, Z, R'⟩ := R'
      exact eD (d9 _) hdo (qY (lU R' hh hof hnd) fun J' w' u R'' hr' => hK _ _ (um hrun ⟨J', Z, R''.put (fun k e => by rw [EJ]; exact dR hdst k e) hr'⟩))
    · exact hop.elim
def O7 (P : Program) (s : AS) (K : AS -> Prop) : Option Oper -> Prop
  | some o => o.guard = none /\ gP s o.dst /\ kM P [] o [] s K
  | none => False
theorem Nh (P : Program) (s : AS) (K : AS -> Prop) (o : Oper) : O7 P s K (some o) = (o.guard = none /\ gP s o.dst /\ kM P [] o [] s K) := rfl
theorem UQ {P : Program} {os : List Oper} {i : Nat} {L : List Nat} {s s' : AS} (h : ∀ K : AS -> Prop, (∀ s2 : AS, Leaf ⟨bG s2.env L, s2.heap, s2.N, s2.gh, s2.lp⟩ s' -> K s2) -> O7 P s K (ko os i)) : TT P (ko os i) s s' := by
  have hop := h _ fun _ h => h
  cases ho : ko os i with
  | none => rw [ho] at hop; exact hop.elim
  | some o =>
    rw [ho] at hop
    obtain ⟨hg, hd, hop⟩ := hop
    refine ⟨hg, fun hdo w0 Z0 a w K Q n R' hK => ?_⟩
    obtain ⟨J, Z, R'⟩ := R'
    refine iV (K := fun s2 => Leaf ⟨bG s2.env L, s2.heap, s2.N, s2.gh, s2.lp⟩ s') R' hd ?_ fun s2 a' w' R2 hk => hK _ _ (um hk R2)
    exact hop
theorem aa0 {P : Program} {os : List Oper} {n0 : Nat} {L : Nat -> List Nat} {G : Nat -> AS} {m i m' : Nat} (h : ∀ K : AS -> Prop, (∀ s2 : AS, Leaf ⟨bG s2.env (L m'), s2.heap, s2.N, s2.gh, s2.lp⟩ (G m') -> K s2) -> Ny P n0 i (G m) K (ko os i)) : TT P (ko os i) (G m) (G m') := ajm h
theorem Rs {P : Program} {os : List Oper} {L : Nat -> List Nat} {G : Nat -> AS} {m i m' : Nat} (h : ∀ K : AS -> Prop, (∀ s2 : AS, Leaf ⟨bG s2.env (L m'), s2.heap, s2.N, s2.gh, s2.lp⟩ (G m') -> K s2) -> O7 P (G m) K (ko os i)) : TT P (ko os i) (G m) (G m') := UQ h
attribute [go_sem] Nh
theorem LA {P : Program} {s : AS} {Q : Exit -> AS -> Prop} {id : Nat} {ops : Array Oper} (mf : Nat) (Ms : List Nat) (Es : List (Nat × Nat × Nat)) (L : List Nat) (G : Nat -> AS) (hm : P.follows .mixedOrders = true) (hback : qK .any ops = true) (hd : jh ops = true) (hc : (akP ops Ms Es && aoC ops Ms mf) = true)
    (h0 : Leaf ⟨bG s.env L, s.heap, s.N, s.gh, s.lp⟩ (G 0)) (h : Nk P ops.toList G Es) (hq : Q .normal (G mf)) : AW P (.region id ops true) s Q := fun w0 Z0 a w n R => by
  simp only [akP, Bool.and_eq_true] at hc
  refine oG (d9 _) (fun _ D a w => ∃ m, m ∈ Ms /\ (∀ k, D k = true ↔ m.testBit k = true) /\ mE w0 Z0 (G m) a w) hm hd hback ?_ ?_ fun D a w hD ⟨m, hmm, hDm, R'⟩ => ?_
  · obtain ⟨J, Z, R⟩ := um h0 R
    exact ⟨0, by simpa using hc.1.1, fun k => by simp, J, Z, R.drew⟩
  · refine kC.of ops.toList 0 fun i o ho D a w ⟨m, hmm, hDm, R'⟩ hDi hpre hcl K hK => ?_
    rw [Nat.zero_add] at hDi
    simp only [Nat.zero_add] at hK
    have hoi : ops[i]? = some o := by rw [<- Array.getElem?_toList]; exact ho
    have hi : i < ops.size := (Array.getElem?_eq_some_iff.1 hoi).1
    have hid : m.testBit i = false := by
      cases hh : m.testBit i with
      | false => rfl
      | true => have := (hDm i).2 hh; rw [hDi] at this; cases this
    have hrdy : aiz ops m i = true := by
      unfold aiz
      rw [hid, hoi]
      simp only [Bool.not_false, Bool.true_and]
      refine List.all_eq_true.2 fun e he => ?_
      have := List.all_eq_true.1 hpre e he
      cases hb : Region.binds .any e with
      | false => rfl
      | true =>
        rw [hb] at this
        simp only [Bool.not_true, Bool.false_or] at this ⊢
        exact (hDm e.on).1 this
    have hE := List.all_eq_true.1 (List.all_eq_true.1 hc.1.2 m hmm) i (List.mem_range.2 hi)
    rw [hrdy] at hE
    simp only [Bool.not_true, Bool.false_or, Bool.and_eq_true, List.contains_iff_mem] at hE
    have hop := Ou hE.1 h
    rw [I8, Array.getElem?_toList, hoi] at hop
    obtain ⟨hg, hop⟩ := hop
    have hw : Region.wanted o (yielded ops a.tmps) = true := by simp [Region.wanted, hg]
    rw [if_pos hw]
    refine hop (tL hd hoi) w0 Z0 a w _ _ _ R' fun a' w' R2 => hK _ _ ⟨m ||| 2 ^ i, hE.2, fun k => ?_, R2⟩
    rw [Nat.testBit_or, Nat.testBit_two_pow]
    by_cases hk : k = i
    · subst hk; simp [upd]
    · rw [upd_ne D hk, decide_eq_false (fun e => hk e.symm), Bool.or_false]; exact hDm k
  · have hf := List.all_eq_true.1 hc.2 m hmm
    simp only [Bool.or_eq_true, beq_iff_eq] at hf
    rcases hf with hf | rfl
    · obtain ⟨i, h1, h2⟩ := List.any_eq_true.1 hf
      have := (hDm i).1 (hD i (List.mem_range.1 h1))
      rw [this] at h2; cases h2
    · exact ⟨G m, R', hq⟩
end Go.Sea
namespace Go.Proofs.YtcfechepbamhkaaGreat
open Go.RowKit Go.Sea Go.Lib
theorem qX {P : Program} (E : Nat) (w : World) (dT sT ty elem : TypeId) (g o dLen dCap : Nat) (a : Addr) (sLen sCap : Nat) (cur : Array Value) (t : TypeId) (cs : List Value)
    (hu : P.underlying dT = some (.slice elem)) (hs : (P.info? elem).map (·.size) = some E) (hg : w.heap[g]? = some (.cells cur t (0, 0))) (hn : cs.length = Nat.min sLen dLen * E)
    (hsrc : ∀ j v, cs[j]? = some v -> w.cell? (a.add j) = some v) (hfit : o + cs.length <= cur.size) (h1 : ∀ v ∈ cs, v.oneCell' = true) :
    (Builtin.copy_ #[dT, sT] ty #[.slice (some ⟨g, o, none⟩) dLen dCap, .slice (some a) sLen sCap]).run P w = .ok (goInt (Nat.min sLen dLen)) (w.setRow g (cur.toList.take o ++ cs ++ cur.toList.drop (o + cs.length)).toArray) := by
  have hl := run_loadCells_list (P := P) w a cs hsrc
  have hst := run_storeCells_at P g o t cs 0 cur w hg (by simpa using hfit) h1
  cases hq : P.info? elem with
  | none => simp [hq] at hs
  | some i =>
    have hi : i.size = E := by simpa [hq] using hs
    simp [Builtin.copy_, run_underlying hu, Builtin.lenOf, Builtin.firstCells, sizeOf, typeInfo, hq, hi, <- hn, hl, hst]
theorem OQ : ∃ i z, Tryz.prog.info? 28 = some i /\ i.zero = some z /\ i.size = 7 /\ i.bytes = 72 /\ z.cells.size = 7 := by
  have h := afZ
  cases hi : Tryz.prog.info? 28 with
  | none => rw [hi] at h; cases h
  | some i =>
    rw [hi] at h
    simp only [Option.map_some, Option.some.injEq, Prod.mk.injEq] at h
    cases hz : i.zero with
    | none => rw [hz] at h; simp at h
    | some z => rw [hz] at h; exact ⟨i, z, rfl, hz, h.1, h.2.1, by simpa using h.2.2⟩
theorem Qf : (Tryz.prog.info? 28).map (·.size) = some 7 := by
  obtain ⟨i, z, h, _, hs, _⟩ := OQ
  rw [h]; simp [hs]
theorem q9 {l : List Value} {cs : List Value} {o k : Nat} (h : o + cs.length <= l.length) : (l.take o ++ cs ++ l.drop (o + cs.length))[k]? = if o <= k /\ k < o + cs.length then cs[k - o]? else l[k]? := by
  by_cases h1 : k < o
  · rw [if_neg (by omega), List.append_assoc, List.getElem?_append_left (by simp; omega), List.getElem?_take, if_pos h1]
  · by_cases h2 : k < o + cs.length
    · rw [if_pos (by omega), List.append_assoc, List.getElem?_append_right (by simp; omega), List.getElem?_append_left (by simp; omega)]
      congr 1; simp; omega
    · rw [if_neg (by omega), List.getElem?_append_right (by simp; omega), List.getElem?_drop]
      congr 1; simp; omega
theorem Qa {cs vs c c1 c2 : List Value} {m n p : Nat} (hc : cs.length = n) (hv : vs.length = m) (hp : p <= n) (h1 : c.length = c1.length) (h2 : c1.length = c2.length) (hn : n + m <= c2.length) (h : ∀ k, k < p -> c[k]? = cs[k]?)
    (e1 : ∀ k, c1[k]? = if p + m <= k /\ k < p + m + (n - p) then (cs.drop p)[k - (p + m)]? else c[k]?) (e2 : ∀ k, c2[k]? = if p <= k /\ k < p + m then vs[k - p]? else c1[k]?) : c2.take (n + m) = cs.take p ++ vs ++ cs.drop p := by
  refine List.ext_getElem? fun k => ?_
  rw [List.getElem?_take]
  by_cases hk : k < n + m
  · rw [if_pos hk, e2, List.append_assoc]
    by_cases k1 : k < p
    · rw [if_neg (by omega), e1, if_neg (by omega), h k k1, List.getElem?_append_left (by simp; omega), List.getElem?_take, if_pos k1]
    · by_cases k2 : k < p + m
      · rw [if_pos (by omega), List.getElem?_append_right (by simp; omega), List.getElem?_append_left (by simp; omega)]
        congr 1; simp; omega
      · rw [if_neg (by omega), e1, if_pos (by omega), List.getElem?_append_right (by simp; omega), List.getElem?_append_right (by simp; omega)]
        congr 1; simp; omega
  · rw [if_neg hk, List.getElem?_eq_none (by simp; omega)]
theorem Ue {cs vs c c1 c2 : List Value} {m n p : Nat} (hc : cs.length = n) (hv : vs.length = m) (hp : p <= n) (h1 : c.length = c1.length) (h2 : c1.length = c2.length) (hn : n + m <= c2.length) (h : ∀ k, k < p -> c[k]? = cs[k]?)
    (e1 : ∀ k, c1[k]? = if p <= k /\ k < p + m then vs[k - p]? else c[k]?) (e2 : ∀ k, c2[k]? = if p + m <= k /\ k < p + m + (n - p) then (cs.drop p)[k - (p + m)]? else c1[k]?) : c2.take (n + m) = cs.take p ++ vs ++ cs.drop p := by
  refine Qa (c1 := (c.take (p + m) ++ cs.drop p ++ c.drop (p + m + (n - p)))) hc hv hp (by simp; omega) (by simp; omega) hn h (fun k => ?_) (fun k => ?_)
  · have := q9 (l := c) (cs := cs.drop p) (o := p + m) (k := k) (by simp; omega)
    simp only [List.length_drop, hc] at this
    exact this
  · have := q9 (l := c) (cs := cs.drop p) (o := p + m) (k := k) (by simp; omega)
    simp only [List.length_drop, hc] at this
    rw [e2, e1, this]
    by_cases k1 : p <= k /\ k < p + m
    · rw [if_neg (by omega), if_pos k1, if_pos k1]
    · rw [if_neg k1, if_neg k1]
theorem JB {w : World} {b : Nat} {c : Array Value} {e : TypeId} {k : Nat} (hb : w.heap[b]? = some (.cells c e (0, 0))) : w.cell? ⟨b, k, none⟩ = c[k]? := cell_of_row w b k c e _ hb
set_option maxHeartbeats 4000000 in
set_option maxRecDepth 100000 in
theorem Mr (b n cap i vb vc : Nat) (c V : Array Value) (e eV : TypeId) (w : World) (hi : i < n) (hroom : n + 1 <= cap) (hc63 : cap <= 9223372036854775807) (hvb : vb ≠ b)
    (hb : w.heap[b]? = some (.cells c e (0, 0))) (hv : w.heap[vb]? = some (.cells V eV (0, 0))) (hcs : cap * 7 <= c.size) (hVs : 7 <= V.size) (h1 : ∀ v ∈ c.toList.take (n * 7), v.oneCell' = true) (h1v : ∀ v ∈ V.toList.take 7, v.oneCell' = true) :
    Calls Tryz.prog 42 #[.slice (some ⟨b, 0, none⟩) n cap, .int .i64 i, .slice (some ⟨vb, 0, none⟩) 1 vc] w fun x w' =>
      x = .returned (.slice (some ⟨b, 0, none⟩) (n + 1) cap) /\ ∃ C : Array Value, w' = w.drew.setRow b C /\ C.size = c.size /\ C.toList.take (n * 7 + 7) = (c.toList.take (n * 7)).take (i * 7) ++ V.toList.take 7 ++ (c.toList.take (n * 7)).drop (i * 7) := by
  have u0 := run_underlying lu
  have hz2 : ¬ ((i : Int) = (n : Int)) := by omega
  have mixed : Tryz.prog.follows .mixedOrders = true := by kernel_rfl
  have hov : ∀ o lb cb, (callFunc 86 #[.slice (some ⟨vb, 0, none⟩) 1 vc, .slice (some ⟨b, o, none⟩) lb cb]).run Tryz.prog w = .ok (.value (.bool false)) w := fun o lb cb => by
    rw [run_callFunc_extern Tryz.func86 (by kernel_rfl) (by kernel_rfl) (by kernel_rfl) (e := Extern.SlicesOverlaps.overlaps #[23, 23] #[4]) (by kernel_rfl),
      Lib.run_overlaps_apart w 23 4 28 lu 7 (fun w => by obtain ⟨ii, z, h, _, hs, _⟩ := OQ; simp [Go.sizeOf, typeInfo, h, hs]) ⟨vb, 0, none⟩ ⟨b, o, none⟩ 1 vc lb cb hvb eV e V.size c.size (by simp [World.shape?, hv]) (by simp [World.shape?, hb]) (by omega) (by simp [World.frozen?, hv]) (by simp [World.frozen?, hv])]
    rfl
  obtain ⟨cs, hcsd⟩ : ∃ cs, cs = c.toList.take (n * 7) := ⟨_, rfl⟩
  have hcl : cs.length = n * 7 := by rw [hcsd]; simp; omega
  obtain ⟨C1, hC1⟩ : ∃ C1 : Array Value, C1 = (c.toList.take (i * 7 + 7) ++ cs.drop (i * 7) ++ c.toList.drop (i * 7 + 7 + (cs.drop (i * 7)).length)).toArray := ⟨_, rfl⟩
  have hC1s : C1.size = c.size := by rw [hC1]; simp [hcl]; omega
  obtain ⟨C2, hC2⟩ : ∃ C2 : Array Value, C2 = (C1.toList.take (i * 7) ++ V.toList.take 7 ++ C1.toList.drop (i * 7 + (V.toList.take 7).length)).toArray := ⟨_, rfl⟩
  have hVl : (V.toList.take 7).length = 7 := by simp; omega
  have hC2s : C2.size = c.size := by rw [hC2]; simp; omega
  have hdb : w.drew.heap[b]? = some (.cells c e (0, 0)) := hb
  have hcp1 : ∀ ty o1 o2 dl dc sl sc, o1 = i * 7 + 7 -> o2 = i * 7 -> (dl = n - i /\ n - i <= sl) -> (Builtin.copy_ #[23, 23] ty #[.slice (some ⟨b, o1, none⟩) dl dc, .slice (some ⟨b, o2, none⟩) sl sc]).run Tryz.prog w.drew = .ok (goInt ((n - i : Nat) : Int)) (w.drew.setRow b C1) := fun ty o1 o2 dl dc sl sc h1' h2' h4' => by
    subst h1'; subst h2'
    have h3' : Nat.min sl dl = n - i := by rw [<- h4'.1]; exact Nat.min_eq_right (by omega)
    have := qX (P := Tryz.prog) 7 w.drew 23 23 ty 28 b (i * 7 + 7) dl dc ⟨b, i * 7, none⟩ sl sc c e (cs.drop (i * 7)) lu Qf hdb (by rw [h3', List.length_drop, hcl]; omega) (fun j v hj => by
      rw [Addr.add_lit, JB hdb]
      rw [List.getElem?_drop, hcsd, List.getElem?_take] at hj
      split at hj
      · rw [<- Array.getElem?_toList]; exact hj
      · cases hj) (by rw [List.length_drop, hcl]; omega) (fun v hv => h1 v (by rw [<- hcsd]; exact List.mem_of_mem_drop hv))
    rw [h3'] at this
    rw [this, hC1]
  have hcp2 : ∀ (W : World), W.heap = (w.drew.setRow b C1).heap -> ∀ ty o1 dl dc, o1 = i * 7 -> 1 <= dl -> (Builtin.copy_ #[23, 23] ty #[.slice (some ⟨b, o1, none⟩) dl dc, .slice (some ⟨vb, 0, none⟩) 1 vc]).run Tryz.prog W = .ok (goInt ((1 : Nat) : Int)) (W.setRow b C2) := fun W hW ty o1 dl dc h1' h4' => by
    subst h1'
    have h3' : Nat.min 1 dl = 1 := Nat.min_eq_left h4'
    have hWb : W.heap[b]? = some (.cells C1 e (0, 0)) := by rw [hW]; exact setRow_heap w.drew b c C1 e (0, 0) hdb
    have hWv : W.heap[vb]? = some (.cells V eV (0, 0)) := by rw [hW, setRow_other w.drew b vb C1 hvb]; exact hv
    have := qX (P := Tryz.prog) 7 W 23 23 ty 28 b (i * 7) dl dc ⟨vb, 0, none⟩ 1 vc C1 e (V.toList.take 7) lu Qf hWb (by rw [h3', hVl]) (fun j v hj => by
      rw [Addr.add_lit, JB hWv, Nat.zero_add]
      rw [List.getElem?_take] at hj
      split at hj
      · rw [<- Array.getElem?_toList]; exact hj
      · cases hj) (by rw [hVl]; omega) h1v
    rw [h3'] at this
    rw [this, hC2]
  have hw1 : IntKind.i64.wrap ((i : Int) + 1) = (i : Int) + 1 := by rw [IntKind.wrap_i64]; omega
  have hw2 : IntKind.i64.wrap ((n : Int) + 1) = (n : Int) + 1 := by rw [IntKind.wrap_i64]; omega
  have hin : i <= n := by omega
  have htn : ((i : Int) + 1).toNat = i + 1 := by omega
  have htm : ((n : Int) + 1).toNat = n + 1 := by omega
  have hb2 : ¬ (cap = i + 1) := by omega
  have hb4 : ¬ (cap = i) := by omega
  have hb3 : (i : Int) <= (n : Int) + 1 := by omega
  have hb1 : (0 : Int) <= (i : Int) + 1 := by omega
  have fin : ∃ C : Array Value, w.drew.setRow b C2 = w.drew.setRow b C /\ C.size = c.size /\ C.toList.take (n * 7 + 7) = cs.take (i * 7) ++ V.toList.take 7 ++ cs.drop (i * 7) := by
    refine ⟨C2, rfl, hC2s, Qa (c := c.toList) (c1 := C1.toList) hcl hVl (by omega) (by simp [hC1s]) (by simp [hC1s, hC2s]) (by simp [hC2s]; omega) (fun k hk => by rw [hcsd, List.getElem?_take, if_pos (by omega)]) (fun k => ?_) (fun k => ?_)⟩
    · have := q9 (l := c.toList) (cs := cs.drop (i * 7)) (o := i * 7 + 7) (k := k) (by simp [hcl]; omega)
      rw [hC1, this, List.length_drop, hcl]
    · have := q9 (l := C1.toList) (cs := V.toList.take 7) (o := i * 7) (k := k) (by simp [hC1s]; omega)
      rw [hC2, this, hVl]
  rw [<- hcsd]
  clear hC1 hC2 hcsd hC1s hC2s
  go_enter Tryz.func42, Tryz.ntmps42
  go_wp2_with (simp only [hov])
  go_region_law_o (refine step_copy_runI rfl _ _ 23 23 rfl (.slice (some ⟨b, (i + 1) * 7, none⟩) (n - i) (cap - (i + 1))) (.slice (some ⟨b, i * 7, none⟩) (n + 1 - i) (cap - i)) (by simp [Act.eval, Act.put]) (by simp [Act.eval, Act.put]) (hcp1 3 ((i + 1) * 7) (i * 7) (n - i) (cap - (i + 1)) (n + 1 - i) (cap - i) (by omega) rfl ⟨rfl, by omega⟩) ?_)
  go_wp2_with (refine wpList_copy_runI _ rfl _ _ 23 23 rfl (.slice (some ⟨b, i * 7, none⟩) (n + 1 - i) (cap - i)) (.slice (some ⟨vb, 0, none⟩) 1 vc) rfl rfl (hcp2 _ rfl 3 (i * 7) (n + 1 - i) (cap - i) rfl (by omega)) ?_)
  go_ret
  exact ⟨rfl, by rw [setRow_setRow]; exact fin⟩
set_option maxHeartbeats 4000000 in
set_option maxRecDepth 100000 in
theorem Ko (b : Addr) (n cap vb vc : Nat) (u : Value) (w w1 : World) (h63 : cap <= 9223372036854775807) (hnc : n <= cap) (h : ∀ ty, (Builtin.append_ #[23, 23] ty #[.slice (some b) n cap, .slice (some ⟨vb, 0, none⟩) 1 vc]).run Tryz.prog w = .ok u w1) :
    Calls Tryz.prog 42 #[.slice (some b) n cap, .int .i64 n, .slice (some ⟨vb, 0, none⟩) 1 vc] w fun x w' => x = .returned u /\ w' = w1 := by
  have u0 := run_underlying lu
  have mixed : Tryz.prog.follows .mixedOrders = true := by kernel_rfl
  obtain ⟨bb, bo, bsp⟩ := b
  go_enter Tryz.func42, Tryz.ntmps42
  go_wp2_with (at_builtin; refine Lib.wpList_append_run _ rfl _ _ _ _ rfl _ _ rfl rfl _ _ (h _) ?_)
  all_goals (go_ret; exact ⟨rfl, rfl⟩)
set_option maxHeartbeats 4000000 in
set_option maxRecDepth 100000 in
theorem S9 (vb vc : Nat) (u : Value) (w w1 : World) (h : ∀ ty, (Builtin.append_ #[23, 23] ty #[.slice none 0 0, .slice (some ⟨vb, 0, none⟩) 1 vc]).run Tryz.prog w = .ok u w1) :
    Calls Tryz.prog 42 #[.slice none 0 0, .int .i64 (0 : Nat), .slice (some ⟨vb, 0, none⟩) 1 vc] w fun x w' => x = .returned u /\ w' = w1 := by
  have u0 := run_underlying lu
  have mixed : Tryz.prog.follows .mixedOrders = true := by kernel_rfl
  go_enter Tryz.func42, Tryz.ntmps42
  go_wp2_with (at_builtin; refine Lib.wpList_append_run _ rfl _ _ _ _ rfl _ _ rfl rfl _ _ (h _) ?_)
  all_goals (go_ret; exact ⟨rfl, rfl⟩)
set_option maxHeartbeats 4000000 in
set_option maxRecDepth 100000 in
theorem Qr (b n cap i vb vc : Nat) (cs vs : List Value) (w : World) (hi : i < n) (hnc : n <= cap) (hroom : cap < n + 1) (hbig : (n + 1) * 72 <= 140737488355328) (hcl : cs.length = n * 7) (hvl : vs.length = 7)
    (hcs : ∀ (k : Nat) u, cs[k]? = some u -> w.cell? ⟨b, k, none⟩ = some u) (hvs : ∀ (k : Nat) u, vs[k]? = some u -> w.cell? ⟨vb, k, none⟩ = some u) (h1 : ∀ v ∈ cs, v.oneCell' = true) (h1v : ∀ v ∈ vs, v.oneCell' = true) :
    Calls Tryz.prog 42 #[.slice (some ⟨b, 0, none⟩) n cap, .int .i64 i, .slice (some ⟨vb, 0, none⟩) 1 vc] w fun x w' => ∃ (G : Nat) (C : Array Value),
      x = .returned (.slice (some ⟨w.heap.size, 0, none⟩) (n + 1) G) /\ n + 1 <= G /\ G <= maxLen /\ w' = w.drew.drew.alloc (.cells C 28) /\ G * 7 <= C.size /\ C.toList.take (n * 7 + 7) = cs.take (i * 7) ++ vs ++ cs.drop (i * 7) := by
  have u0 := run_underlying lu
  have hz2 : ¬ ((i : Int) = (n : Int)) := by omega
  have hz3 : (cap : Int) < (n : Int) + 1 := by omega
  have mixed : Tryz.prog.follows .mixedOrders = true := by kernel_rfl
  obtain ⟨ii, z, t2, t3, t5, t6, t4⟩ := OQ
  have hbw : b < w.heap.size := block_lt_of_cell (hcs 0 _ (List.getElem?_eq_getElem (by omega)))
  have hvw : vb < w.heap.size := block_lt_of_cell (hvs 0 _ (List.getElem?_eq_getElem (by omega)))
  have hkk : (n : Int) + 1 - (i : Int) = ((n + 1 - i : Nat) : Int) := by omega
  have hik : i + (n + 1 - i) = n + 1 := by omega
  have hold : (Builtin.firstCells ii.size i (.slice (some ⟨b, 0, none⟩) i cap)).run Tryz.prog w.drew = .ok (cs.take (i * 7)).toArray w.drew :=
    run_firstCells_some w.drew ii.size i ⟨b, 0, none⟩ i cap (cs.take (i * 7)) (by rw [List.length_take, t5]; omega) (fun j v hj => by
      rw [Addr.add_lit, Nat.zero_add]
      rw [List.getElem?_take] at hj
      split at hj
      · exact hcs j v hj
      · cases hj)
  obtain ⟨G, hG⟩ : ∃ G, G = grownCap w (n + 1) cap 28 := ⟨_, rfl⟩
  have hGn : n + 1 <= G := by rw [hG]; exact grownCap_ge w _ _ _
  have hGm : G <= maxLen := by rw [hG]; exact grownCap_le_maxLen w (n + 1) cap 28 (by unfold maxLen; omega)
  obtain ⟨ROW, hROW⟩ : ∃ ROW : Array Value, ROW = (cs.take (i * 7)).toArray ++ Builtin.zeroCells z.cells (n + 1 - i) ++ Builtin.zeroCells z.cells (G - (n + 1)) := ⟨_, rfl⟩
  have hrz : ∀ ty, (Builtin.append_ #[23, 3] ty #[.slice (some ⟨b, 0, none⟩) i cap, .int .i64 ((n : Int) + 1 - (i : Int))]).run Tryz.prog w = .ok (.slice (some ⟨w.heap.size, 0, none⟩) (n + 1) G) (w.drew.alloc (.cells ROW 28)) := fun ty => by
    have h := Lib.run_append_grow_zeros w 23 3 ty 28 ii z .i64 .i64 lu Tryz.underlying3 t2 t3 (some ⟨b, 0, none⟩) i cap (cs.take (i * 7)) hold (n + 1 - i) (by omega) (by omega) (by omega) (by omega) (by rw [t6]; omega) (by rw [t6, hik]; exact growslice_fits hroom hbig)
    rw [hik, <- hG, <- hROW] at h
    rw [hkk]
    exact h
  have hRs : ROW.size = G * 7 := by
    rw [hROW]
    simp only [Array.size_append, size_zeroCells, t4, List.size_toArray, List.length_take, hcl]
    rw [Nat.sub_mul, Nat.sub_mul]
    omega
  obtain ⟨R1, hR1⟩ : ∃ R1 : Array Value, R1 = (ROW.toList.take (i * 7) ++ vs ++ ROW.toList.drop (i * 7 + vs.length)).toArray := ⟨_, rfl⟩
  have hR1s : R1.size = G * 7 := by rw [hR1]; simp; omega
  obtain ⟨R2, hR2⟩ : ∃ R2 : Array Value, R2 = (R1.toList.take (i * 7 + 7) ++ cs.drop (i * 7) ++ R1.toList.drop (i * 7 + 7 + (cs.drop (i * 7)).length)).toArray := ⟨_, rfl⟩
  have hR2s : R2.size = G * 7 := by rw [hR2]; simp; omega
  have hcpA : ∀ (W : World), W.heap = (w.alloc (.cells ROW 28)).heap -> ∀ ty o1 dl dc, o1 = i * 7 -> 1 <= dl -> (Builtin.copy_ #[23, 23] ty #[.slice (some ⟨w.heap.size, o1, none⟩) dl dc, .slice (some ⟨vb, 0, none⟩) 1 vc]).run Tryz.prog W = .ok (goInt ((1 : Nat) : Int)) (W.setRow w.heap.size R1) := fun W hW ty o1 dl dc h1' h4' => by
    subst h1'
    have h3' : Nat.min 1 dl = 1 := Nat.min_eq_left h4'
    have hWb : W.heap[w.heap.size]? = some (.cells ROW 28 (0, 0)) := by rw [hW]; exact heap_alloc_new w _
    have := qX (P := Tryz.prog) 7 W 23 23 ty 28 w.heap.size (i * 7) dl dc ⟨vb, 0, none⟩ 1 vc ROW 28 vs lu Qf hWb (by rw [h3', hvl]) (fun j v hj => by
      rw [Addr.add_lit, Nat.zero_add]
      have h2 := hvs j v hj
      unfold World.cell? at h2 ⊢
      rw [hW, Below.heap_alloc _ _ _ hvw]; exact h2) (by rw [hvl]; omega) h1v
    rw [h3'] at this
    rw [this, hR1]
  have hcpB : ∀ (W : World), W.heap = ((w.alloc (.cells ROW 28)).setRow w.heap.size R1).heap -> ∀ ty o1 o2 dl dc sl sc, o1 = i * 7 + 7 -> o2 = i * 7 -> (dl = n - i /\ n - i <= sl) -> (Builtin.copy_ #[23, 23] ty #[.slice (some ⟨w.heap.size, o1, none⟩) dl dc, .slice (some ⟨b, o2, none⟩) sl sc]).run Tryz.prog W = .ok (goInt ((n - i : Nat) : Int)) (W.setRow w.heap.size R2) := fun W hW ty o1 o2 dl dc sl sc h1' h2' h4' => by
    subst h1'; subst h2'
    have h3' : Nat.min sl dl = n - i := by rw [<- h4'.1]; exact Nat.min_eq_right (by omega)
    have hWb : W.heap[w.heap.size]? = some (.cells R1 28 (0, 0)) := by rw [hW]; exact setRow_heap _ _ _ _ _ _ (heap_alloc_new w _)
    have := qX (P := Tryz.prog) 7 W 23 23 ty 28 w.heap.size (i * 7 + 7) dl dc ⟨b, i * 7, none⟩ sl sc R1 28 (cs.drop (i * 7)) lu Qf hWb (by rw [h3', List.length_drop, hcl]; omega) (fun j v hj => by
      rw [Addr.add_lit]
      rw [List.getElem?_drop] at hj
      have h2 := hcs _ v hj
      unfold World.cell? at h2 ⊢
      rw [hW, setRow_other _ _ _ _ (by show b ≠ w.heap.size; omega), Below.heap_alloc _ _ _ hbw]; exact h2) (by rw [List.length_drop, hcl]; omega) (fun v hv => h1 v (List.mem_of_mem_drop hv))
    rw [h3'] at this
    rw [this, hR2]
  have hE : (w.alloc (.cells ROW 28)).drew.heap = (w.alloc (.cells ROW 28)).heap := rfl
  have hF : ((w.alloc (.cells ROW 28)).drew.setRow w.heap.size R1).drew.heap = ((w.alloc (.cells ROW 28)).setRow w.heap.size R1).heap := rfl
  have hGi : ¬ (G = i) := by omega
  have hGim : ¬ (G = i + 1) := by omega
  have hci : ¬ (cap = i) := by omega
  have hw1 : IntKind.i64.wrap ((i : Int) + 1) = (i : Int) + 1 := by rw [IntKind.wrap_i64]; omega
  have hw2 : IntKind.i64.wrap ((n : Int) + 1) = (n : Int) + 1 := by rw [IntKind.wrap_i64]; omega
  have hin : i <= n := by omega
  have htn : ((i : Int) + 1).toNat = i + 1 := by omega
  have hb3 : (i : Int) <= (n : Int) := by omega
  have hG63 : G <= 9223372036854775807 := by unfold maxLen at hGm; omega
  have hb1 : (0 : Int) <= (i : Int) + 1 := by omega
  have fin : R2.toList.take (n * 7 + 7) = cs.take (i * 7) ++ vs ++ cs.drop (i * 7) := by
    refine Ue (c := ROW.toList) (c1 := R1.toList) hcl hvl (by omega) (by simp [hR1s, hRs]) (by simp [hR1s, hR2s]) (by simp [hR2s]; omega) (fun k hk => ?_) (fun k => ?_) (fun k => ?_)
    · rw [hROW]
      simp only [Array.toList_append, List.append_assoc]
      rw [List.getElem?_append_left (by simp; omega), List.getElem?_take, if_pos hk]
    · have := q9 (l := ROW.toList) (cs := vs) (o := i * 7) (k := k) (by simp [hRs]; omega)
      rw [hR1, this, hvl]
    · have := q9 (l := R1.toList) (cs := cs.drop (i * 7)) (o := i * 7 + 7) (k := k) (by simp [hR1s, hcl]; omega)
      rw [hR2, this, List.length_drop, hcl]
  have hR2g : G * 7 <= R2.size := by omega
  clear hkk hik hold hROW hG hR1 hR2 hRs hR1s hR2s
  go_enter Tryz.func42, Tryz.ntmps42
  go_wp2_with (first
    | (at_builtin; refine Lib.wpList_append_run _ rfl _ _ _ _ rfl _ _ rfl rfl _ _ (hrz _) ?_)
    | (refine wpList_copy_runI (w.alloc (.cells ROW 28)).drew rfl _ _ 23 23 rfl (.slice (some ⟨w.heap.size, i * 7, none⟩) (n + 1 - i) (G - i)) (.slice (some ⟨vb, 0, none⟩) 1 vc) rfl rfl (hcpA _ hE 3 (i * 7) (n + 1 - i) (G - i) rfl (by omega)) ?_))
  go_region_law_o (refine step_copy_runI rfl _ _ 23 23 rfl (.slice (some ⟨w.heap.size, (i + 1) * 7, none⟩) (n + 1 - (i + 1)) (G - (i + 1))) (.slice (some ⟨b, i * 7, none⟩) (n - i) (cap - i)) (by simp [Act.eval, Act.put]) (by simp [Act.eval, Act.put]) (hcpB _ hF 3 ((i + 1) * 7) (i * 7) (n + 1 - (i + 1)) (G - (i + 1)) (n - i) (cap - i) (by omega) rfl ⟨by omega, by omega⟩) ?_)
  go_wp2
  go_ret
  exact ⟨G, R2, rfl, hGn, hGm, (congrArg (fun W : World => W.drew.setRow w.heap.size R2) (lJ w.drew ROW R1 28)).trans (lJ w.drew.drew R1 R2 28), hR2g, fin⟩
section
variable {w0 : World} {Z0 : Fr} {J : Nat -> Option Nat} {Z : Nat -> Prop} {s : AS} {a : Act} {w : World}
theorem X8 (R : Rel w0 Z0 J Z s a w) {i b : Nat} {cs l2 : List CV} {c c' : Array Value} {e : TypeId} (hi : hget s.heap i = some cs) (hj : J i = some b) (hb : w.heap[b]? = some (.cells c e (0, 0))) (hsz : c'.size = c.size) (hl : ∀ y, y ∈ l2 -> j4 y) (h : aO (bK w J Z) (c'.toList.take l2.length) l2) :
    Rel w0 Z0 J Z (s.qQ 0 (.app i l2)) a (w.setRow b c') := by
  have R1 := Rel.set R hi hj hb hsz (aH s.heap i l2) (fun q hq => aJ _ _ _ _ hq) h
  have R2 := R1.bU i
  simp only [AS.bU, kR, ig, l6 i hl] at R2
  exact R2
theorem Yp (R : Rel w0 Z0 J Z s a w) {i : Nat} {cs l2 : List CV} {C : Array Value} {e : TypeId} (hi : hget s.heap i = some cs) (hl : ∀ y, y ∈ l2 -> j4 y) (h : aO (bK w J Z) (C.toList.take l2.length) l2) :
    Rel w0 Z0 (gF J i w.heap.size) Z (s.qQ 0 (.app i l2)) a (w.alloc (.cells C e)) := by
  refine Rel.move (s := s.bU i) (cs := l2) (R.bU i) ?_ (aH _ _ _) (fun q hq => aJ _ _ _ _ hq) (fun t => ?_) (fun f t => ?_) (fun q x hq y hy => ?_) h
  · simp [AS.bU, gJ, hi]
  · simp only [AS.bU, AS.get, kQ]; exact AV.kK i _
  · simp only [AS.bU, vH]; exact AV.kK i _
  · by_cases hqk : q = i
    · subst hqk
      rw [aH, Option.some.injEq] at hq
      subst hq
      have := hl y hy
      cases y <;> first | trivial | exact this.elim
    · rw [aJ _ _ _ _ hqk] at hq
      simp only [AS.bU, gJ, Option.map_eq_some_iff] at hq
      obtain ⟨cs0, _, rfl⟩ := hq
      exact rD i _ y hy
end
set_option maxHeartbeats 1000000 in
theorem aiN {w0 : World} {Z0 : Fr} {J : Nat -> Option Nat} {Z : Nat -> Prop} {s : AS} {a : Act} {w : World} (R : Rel w0 Z0 J Z s a w) {i j n p : Nat} {l x : List CV} {vs : Array Value} (hi : hget s.heap i = some l) (hl : l.length = n * 7) (hli : ∀ y, y ∈ l -> j4 y)
    (hj : hget s.heap j = some x) (hx : x.length = 7) (hxi : ∀ y, y ∈ x -> j4 y) (hij : i ≠ j) (hp : p <= n) (hz : (n + 1) * 72 <= 140737488355328) (hv : aO (bQ w J Z) vs.toList [.one (.slc i 0 n 7), .one (.iv (.g (.int .i64 (p : Int)))), .one (.slc j 0 1 7)]) :
    Calls Tryz.prog 42 vs w fun e w' => ∃ v J', e = .returned v /\ Rel w0 Z0 J' Z (s.qQ 0 (.app i (l.take (p * 7) ++ x ++ l.drop (p * 7)))) a w' /\ bB w' J' Z v (.t (.one (.slc i 0 (n + 1) 7))) := by
  obtain ⟨vs⟩ := vs
  match vs, hv with
  | [v1, v2, v3], ⟨h1, h2, h3, _⟩ =>
    have e2 : v2 = .int .i64 p := by cases h2; rfl
    subst e2
    have h1 : bK w J Z v1 (.slc i 0 n 7) := h1
    have h3 : bK w J Z v3 (.slc j 0 1 7) := h3
    have hne : n + 1 <= maxLen := by unfold maxLen; omega
    have hL2 : ∀ y, y ∈ l.take (p * 7) ++ x ++ l.drop (p * 7) -> j4 y := fun y hy => by
      simp only [List.mem_append] at hy
      rcases hy with (hy | hy) | hy
      · exact hli y (List.mem_of_mem_take hy)
      · exact hxi y hy
      · exact hli y (List.mem_of_mem_drop hy)
    have hLl : (l.take (p * 7) ++ x ++ l.drop (p * 7)).length = n * 7 + 7 := by simp [hl, hx]; omega
    rcases vY R h3 hj (by rw [hx]; omega) with ⟨h0, _⟩ | ⟨vb, vc, V, ev, hVl, hVc, hV1, hVr⟩
    · cases h0
    subst ev
    rcases h3 with ⟨h30, _⟩ | ⟨vb', vc', VC, eV, ev', hjv, hv1, hv2, hbv, hsv⟩
    · cases h30
    cases ev'
    have hVc' : ∀ (k : Nat) u, V[k]? = some u -> w.cell? ⟨vb, k, none⟩ = some u := fun k u h => by have := hVc k u h; rwa [Addr.add_lit, Nat.zero_add] at this
    rw [Nat.one_mul] at hVl
    have hVt : V = VC.toList.take 7 := by
      refine List.ext_getElem? fun k => ?_
      rw [List.getElem?_take]
      split
      · rename_i hk
        have := hVc' k _ (List.getElem?_eq_getElem (by omega))
        rw [cell_of_row w vb k VC eV _ hbv] at this
        rw [List.getElem?_eq_getElem (by omega), Array.getElem?_toList, this]
      · rw [List.getElem?_eq_none (by omega)]
    have hVr : aO (bK w J Z) V x := by rwa [List.drop_zero, List.take_of_length_le (by rw [hx]; omega)] at hVr
    obtain ⟨ii, z, t2, t3, t5, t6, t4⟩ := OQ
    have hgr : ∀ W : World, W.heap = w.heap -> Grow (fun _ => True) w J Z W J Z := fun W hW => ⟨fun _ _ _ h => h, fun _ h => h, fun _ _ _ => by rw [hW], fun _ _ _ _ c _ _ h => ⟨c, by rw [hW]; exact h, rfl⟩, fun _ _ h _ => by rw [hW]; exact h⟩
    have new : ∀ (e : Ending) (W : World) (G : Nat) (C : Array Value) (cs : List Value), e = .returned (.slice (some ⟨w.heap.size, 0, none⟩) (n + 1) G) -> n + 1 <= G -> G <= maxLen -> Rel w0 Z0 J Z s a W -> W.heap = w.heap -> aO (bK w J Z) cs l -> C.toList.take (n * 7 + 7) = cs.take (p * 7) ++ V ++ cs.drop (p * 7) -> G * 7 <= C.size ->
        ∃ v J', e = .returned v /\ Rel w0 Z0 J' Z (s.qQ 0 (.app i (l.take (p * 7) ++ x ++ l.drop (p * 7)))) a (W.alloc (.cells C 28)) /\ bB (W.alloc (.cells C 28)) J' Z v (.t (.one (.slc i 0 (n + 1) 7))) := fun e W G C cs he g1 g2 RW hW hcs hC hsz => by
      have hAll : aO (bK W J Z) (C.toList.take (l.take (p * 7) ++ x ++ l.drop (p * 7)).length) (l.take (p * 7) ++ x ++ l.drop (p * 7)) := by
        rw [hLl, hC]
        refine aO.mono (fun _ y h => bK.grow (hgr W hW) y.bP h) (((hcs.take (p * 7)).append hVr).append (hcs.drop (p * 7)))
      refine ⟨_, _, he, Yp RW hi hL2 hAll, ?_⟩
      refine Or.inr ⟨w.heap.size, G, C, 28, rfl, by simp [gF, hW], g1, g2, ?_, by omega⟩
      rw [<- hW]; exact heap_alloc_new W _
    rcases h1 with ⟨h0, rfl⟩ | ⟨b, cap, c, e, rfl, hjb, hc1, hc2, hb, hs⟩
    · -- nil
      subst h0
      obtain rfl : p = 0 := by omega
      have hl0 : l = [] := List.eq_nil_of_length_eq_zero (by simpa using hl)
      subst hl0
      refine (S9 vb vc _ w _ fun ty => run_append_nil (P := Tryz.prog) w 23 ty 28 ii z lu t2 t3 ⟨vb, 0, none⟩ 1 vc V (by rw [t5]; exact hVl) hVc (by omega) (by omega) (by rw [t6]; omega)).mono fun e w' ⟨he, hw⟩ => ?_
      subst hw
      refine new e w.drew _ _ [] he (grownCap_ge _ _ _ _) (grownCap_le_maxLen _ _ _ _ hne) R.drew rfl (by trivial) (by simp [hVl]) (by have := grownCap_ge w 1 0 28; simp only [Array.size_append, size_zeroCells, t4, List.size_toArray, hVl]; rw [Nat.sub_mul]; omega)
    · rcases vY R (Or.inr ⟨b, cap, c, e, rfl, hjb, hc1, hc2, hb, hs⟩ : bK w J Z (.slice (some ⟨b, 0, none⟩) n cap) (.slc i 0 n 7)) hi (by omega) with ⟨h0, h00⟩ | ⟨b', cap', cs, eb, hcl, hcc, hc11, hcr⟩
      · cases h00
      cases eb
      have hcc' : ∀ (k : Nat) u, cs[k]? = some u -> w.cell? ⟨b, k, none⟩ = some u := fun k u h => by have := hcc k u h; rwa [Addr.add_lit, Nat.zero_add] at this
      replace hcr : aO (bK w J Z) cs l := by rwa [List.drop_zero, List.take_of_length_le (by omega)] at hcr
      have hct : cs = c.toList.take (n * 7) := by
        refine List.ext_getElem? fun k => ?_
        rw [List.getElem?_take]
        split
        · rename_i hk
          have := hcc' k _ (List.getElem?_eq_getElem (by omega))
          rw [cell_of_row w b k c e _ hb] at this
          rw [List.getElem?_eq_getElem (by omega), Array.getElem?_toList, this]
        · rw [List.getElem?_eq_none (by omega)]
      have h63 : cap <= 9223372036854775807 := by unfold maxLen at hc2; omega
      have hvb : vb ≠ b := by
        rintro rfl
        exact hij (R.inj _ _ _ hjb hjv)
      by_cases hroom : n + 1 <= cap
      · have hset : ∀ (W : World) (e' : Ending) (C : Array Value) , Rel w0 Z0 J Z s a W -> W.heap = w.heap -> e' = .returned (.slice (some ⟨b, 0, none⟩) (n + 1) cap) -> C.size = c.size -> C.toList.take (n * 7 + 7) = cs.take (p * 7) ++ V ++ cs.drop (p * 7) ->
            ∃ v J', e' = .returned v /\ Rel w0 Z0 J' Z (s.qQ 0 (.app i (l.take (p * 7) ++ x ++ l.drop (p * 7)))) a (W.setRow b C) /\ bB (W.setRow b C) J' Z v (.t (.one (.slc i 0 (n + 1) 7))) := fun W e' C RW hW he g1 g2 => by
          have hWb : W.heap[b]? = some (.cells c e (0, 0)) := by rw [hW]; exact hb
          refine ⟨_, J, he, X8 RW hi hjb hWb g1 hL2 ?_, Or.inr ⟨b, cap, C, e, rfl, hjb, hroom, hc2, setRow_heap W b c C e (0, 0) hWb, by omega⟩⟩
          rw [hLl, g2]
          exact aO.mono (fun _ y h => bK.grow (hgr W hW) y.bP h) (((hcr.take (p * 7)).append hVr).append (hcr.drop (p * 7)))
        rcases Nat.lt_or_ge p n with hpl | hpl
        · refine (Mr b n cap p vb vc c VC e eV w hpl hroom h63 hvb hb hbv (by omega) (by omega) (by rw [<- hct]; exact hc11) (by rw [<- hVt]; exact hV1)).mono fun e' w' ⟨he, C, hw, g1, g2⟩ => ?_
          subst hw
          rw [<- hct, <- hVt] at g2
          exact hset w.drew e' C R.drew rfl he g1 g2
        · obtain rfl : p = n := by omega
          refine (Ko ⟨b, 0, none⟩ p cap vb vc _ w _ h63 hc1 fun ty => run_append_room' (P := Tryz.prog) 23 ty 28 e ii lu t2 b p cap c hb ⟨vb, 0, none⟩ 1 vc V (by rw [t5]; exact hVl) hVc hV1 hroom (by rw [t5]; omega)).mono fun e' w' ⟨he, hw⟩ => ?_
          subst hw
          refine hset w e' _ R rfl he (by simp [t5]; omega) ?_
          rw [t5, hct]
          have e1 : ((c.toList.take (p * 7)).take (p * 7)) = c.toList.take (p * 7) := by rw [List.take_take, Nat.min_self]
          have e2 : ((c.toList.take (p * 7)).drop (p * 7)) = [] := List.drop_eq_nil_of_le (by simp; omega)
          rw [e1, e2, List.append_nil]
          exact List.take_left' (by rw [List.length_append, <- hct, hcl, hVl])
      · rcases Nat.lt_or_ge p n with hpl | hpl
        · refine (Qr b n cap p vb vc cs V w hpl hc1 (by omega) hz hcl hVl hcc' hVc' hc11 hV1).mono fun e' w' ⟨G, C, he, g1, g2, hw, g3, g4⟩ => ?_
          subst hw
          exact new e' w.drew.drew G C cs he g1 g2 R.drew.drew rfl hcr g4 g3
        · obtain rfl : p = n := by omega
          refine (Ko ⟨b, 0, none⟩ p cap vb vc _ w _ h63 hc1 fun ty => run_append_grow (P := Tryz.prog) w 23 ty 28 ii z lu t2 t3 ⟨b, 0, none⟩ p cap cs (by rw [t5]; exact hcl) hcc ⟨vb, 0, none⟩ 1 vc V (by rw [t5]; exact hVl) hVc (by omega) (by omega) (by rw [t6]; exact growslice_fits (by omega) hz)).mono fun e' w' ⟨he, hw⟩ => ?_
          subst hw
          refine new e' w.drew _ _ cs he (grownCap_ge _ _ _ _) (grownCap_le_maxLen _ _ _ _ hne) R.drew rfl hcr ?_ ?_
          · have e1 : cs.take (p * 7) = cs := List.take_of_length_le (by omega)
            have e2 : cs.drop (p * 7) = [] := List.drop_eq_nil_of_le (by omega)
            rw [e1, e2, List.append_nil]
            simp only [Array.toList_append]
            exact List.take_left' (by rw [List.length_append, hcl, hVl])
          · have := grownCap_ge w (p + 1) cap 28
            simp only [Array.size_append, size_zeroCells, t4, List.size_toArray, hVl, hcl]; rw [Nat.sub_mul]; omega
set_option maxRecDepth 100000 in
theorem VQ {os : List Oper} {q d t1 t2 t3 ty i j n p : Nat} {tys : Array TypeId} {pos : String} {aft : Array Edge} {L : List Nat} {s s' : AS} {l x : List CV} (ho : ko os q = some ⟨some d, .call ⟨.value (.func 42), #[.tmp t1, .tmp t2, .tmp t3], tys⟩, ty, pos, aft, none⟩) (e1 : s.get t1 = .t (.one (.slc i 0 n 7))) (e2 : s.get t2 = .t (.one (.iv (.g (.int .i64 (p : Int)))))) (e3 : s.get t3 = .t (.one (.slc j 0 1 7)))
    (hi : hget s.heap i = some l) (hj : hget s.heap j = some x) (hl : l.length = n * 7) (hli : ∀ y, y ∈ l -> j4 y) (hx : x.length = 7) (hxi : ∀ y, y ∈ x -> j4 y) (hij : i ≠ j) (hp : p <= n) (hz : (n + 1) * 72 <= 140737488355328) (hd : d < s.N)
    (hs' : Leaf ⟨bG (((s.qQ 0 (.app i (l.take (p * 7) ++ x ++ l.drop (p * 7)))).put (some d) (.t (.one (.slc i 0 (n + 1) 7)))).env) L, ((s.qQ 0 (.app i (l.take (p * 7) ++ x ++ l.drop (p * 7)))).put (some d) (.t (.one (.slc i 0 (n + 1) 7)))).heap, s.N, ((s.qQ 0 (.app i (l.take (p * 7) ++ x ++ l.drop (p * 7)))).put (some d) (.t (.one (.slc i 0 (n + 1) 7)))).gh, s.lp⟩ s') : TT Tryz.prog (ko os q) s s' := by
  rw [ho]
  refine ⟨rfl, fun hdo w0 Z0 a w K Q m ⟨J, Z, R⟩ hK => eD (d9 _) hdo (je (jg rfl (iC R (show eu (s.ev (.func 42)) = .pure 42 from rfl)) (by kernel_rfl)) ?_)⟩
  simp only [Array.empty_append, Array.append_empty]
  have hargs : aO (bQ w J Z) ((#[Operand.tmp t1, Operand.tmp t2, Operand.tmp t3] : Array Operand).map a.eval).toList [.one (.slc i 0 n 7), .one (.iv (.g (.int .i64 (p : Int)))), .one (.slc j 0 1 7)] := by
    simp only [Array.toList_map]; exact ng R (l := [.tmp t1, .tmp t2, .tmp t3]) (nd := True /\ True /\ True /\ True) (by simp only [kG, AS.ev, e1, e2, e3, AV.tv, AV.nd]) ⟨trivial, trivial, trivial, trivial⟩
  refine (aiN R hi hl hli hj hx hxi hij hp hz hargs).mono fun e w' ⟨v, J', he, R', hr⟩ => ⟨v, he, hK _ _ ?_⟩
  have R2 := R'.put (d := some d) (fun k e => by cases e; exact hd) hr
  exact um hs' ⟨J', Z, R2⟩
end Go.Proofs.YtcfechepbamhkaaGreat
set_option maxRecDepth 100000
set_option maxHeartbeats 4000000
namespace Go.Proofs.YtcfechepbamhkaaGreat
open Go.RowKit Go.Sea
open Nat renaming reduceAdd -> xA, reduceLT -> xL, reduceLeDiff -> xD, reduceEqDiff -> xE, reduceMul -> xM, reduceSub -> xS, reduceBEq -> xB
theorem Og : aM Tryz.prog 19 = true := by kernel_rfl
theorem Pt : aM Tryz.prog 41 = true := by kernel_rfl
theorem afS : aM Tryz.prog 42 = true := by kernel_rfl
theorem Pn : aM Tryz.prog 43 = true := by kernel_rfl
theorem adI : aM Tryz.prog 85 = true := by kernel_rfl
theorem ak7 : lD Tryz.prog 31 = some (false, 1) := by kernel_rfl
theorem ang : fO Tryz.prog 31 = some [.iv (.g (.int .i64 0))] := by kernel_rfl
attribute [go_sem] Og Pt afS Pn ak7 ang
def SK (f : aj) (M : ah) (v : Nat) : Nat := max v (jr f M)
theorem AP (f : aj) (M : ah) : SK f M f.n = f.n := by have := p9 f M; unfold SK; omega
theorem CZ (f : aj) (M : ah) : SK f M 0 = jr f M := by unfold SK; omega
theorem ahw {f : aj} {M : ah} {v : Nat} (h : jr f M <= v - 1) : SK f M (v - 1) = v - 1 := by unfold SK; omega
theorem ahI {f : aj} {M : ah} {v : Nat} (h : v - 1 < jr f M) (hv : 1 <= v) : SK f M v = jr f M /\ SK f M (v - 1) = jr f M := by unfold SK; omega
theorem aj1 {f : aj} {M : ah} {v : Nat} (hv : gy f = true) (h1 : 0 <= (v : Int) - 1) (hn : v <= f.n) (h : M.nu < (f.N (v - 1)).nu) : (v : Int) - 1 = (SK f M (v - 1) : Int) := by
  have := mt (EZ (M := M) hv (i := v - 1) (by omega)).2 (by omega)
  rw [ahw (by omega)]; omega
theorem aiY {f : aj} {M : ah} {v : Nat} (hv : gy f = true) (h1 : 0 <= (v : Int) - 1) (hn : v <= f.n) (h : (f.N (v - 1)).nu <= M.nu) (h2 : (f.N (v - 1)).nu ≠ M.nu) : (SK f M v : Int) = (SK f M (v - 1) : Int) := by
  have := (EZ (M := M) hv (i := v - 1) (by omega)).1 (by omega)
  have := ahI (f := f) (M := M) (v := v) (by omega) (by omega)
  rw [this.1, this.2]
theorem abQ {N : Nat -> ah} {n v : Nat} {x : Int} (h : ∀ j, v <= j -> j < n -> (N j).nu ≠ x) (h1 : (N (v - 1)).nu ≠ x) : ∀ j, v - 1 <= j -> j < n -> (N j).nu ≠ x := fun j h2 h3 => by
  by_cases hj : j = v - 1
  · rw [hj]; exact h1
  · exact h j (by omega) h3
theorem EW : ∀ (l : List ah) (k : Nat), (iB l).take (k * 7) = iB (l.take k)
  | [], k => by simp [iB]
  | s :: l, 0 => by simp [iB]
  | s :: l, k + 1 => by
    show (c7 s ++ iB l).take ((k + 1) * 7) = c7 s ++ iB (l.take k)
    rw [List.take_append, List.take_of_length_le (by show 7 <= _; omega), <- EW l k]
    congr 1; show (iB l).take ((k + 1) * 7 - 7) = _; rw [Nat.add_mul]; rfl
theorem EL : ∀ (l : List ah) (k : Nat), (iB l).drop (k * 7) = iB (l.drop k)
  | [], k => by simp [iB]
  | s :: l, 0 => by simp [iB]
  | s :: l, k + 1 => by
    show (c7 s ++ iB l).drop ((k + 1) * 7) = iB (l.drop k)
    rw [List.drop_append, List.drop_eq_nil_of_le (by show 7 <= _; omega), <- EL l k, List.nil_append]
    show (iB l).drop ((k + 1) * 7 - 7) = _; rw [Nat.add_mul]; rfl
theorem aiu (f : aj) (M : ah) : (Go.Sea.eO (dX f.N) 7 f.n 0).take (jr f M * 7) ++ [.iv (.g (.int .i64 M.oc)), .iv (.g (.int .i64 M.nu)), .iv (.g (.int .i64 M.kd)), .iv (.g (.int .i64 M.fr)), .iv (.g (.int .i64 M.un)), .iv (.g (.int .i64 M.ca)), .iv (.lst 3 M.n (dZ M.p))] ++ (Go.Sea.eO (dX f.N) 7 f.n 0).drop (jr f M * 7) = iB (K4 f M) := by
  have hJ := p9 f M
  rw [afM, EW, EL, alx]
  have e1 : ((List.range f.n).map f.N).take (jr f M) = nL f (jr f M) := by
    unfold nL
    rw [<- List.map_take, List.take_range, Nat.min_eq_left hJ]
  have e2 : ((List.range f.n).map f.N).drop (jr f M) = (List.range (f.n - jr f M)).map (fun i => f.N (jr f M + i)) := by
    refine List.ext_getElem (by simp) fun i h1 h2 => by simp
  rw [e1, e2]
  unfold iB; simp only [List.flatMap_append, List.flatMap_cons, List.flatMap_nil, List.append_nil, List.append_assoc]; rfl
theorem rec_1 (f : aj) (hf : f.Ok) (M : ah) (ho : M.Ok) (h : gy f = false \/ iy M = false) : aA Tryz.prog 12 [j6 f, .agg [.g (.int .i64 M.oc), .g (.int .i64 M.nu), .g (.int .i64 M.kd), .g (.int .i64 M.fr), .g (.int .i64 M.un), .g (.int .i64 M.ca), .lst 3 M.n (dZ M.p)]] (.tup [j6 (dJ f M), .one (.g (.int .i64 (qj f M)))]) := by
  refine ak Tryz.func12 rfl (by rw [Tryz.ntmps12]; simp) ?_
  simp only [Tryz.ntmps12, zM, PT.tv, au, Nat.zero_add, Nat.reduceAdd]
  repeat' (first
 | ((with_reducible show AW _ _ _ _); first
 | (with_reducible first | refine aS (fun K hK => ?_) | refine aI ?_ | refine aT ?_ | refine aC ?_)
 | ((with_reducible first | refine aP 0 [0,1,39,40] ?_ | refine aP 1 [2,3,4,5,39,40] ?_ | refine aP 2 [4,5] ?_)))
 | ((first | (with_reducible refine And.intro ?_ ?_) | (with_reducible refine Need.mk ?_)); focus (first | exact True.intro | (intro _; (with_reducible assumption)) | (simp; done)))
 | (with_reducible refine aK ?_)
 | ((with_reducible show bL _ _ _ _ _ _); first
 | ((with_reducible refine aN ?_ ?_) <;> (intro hc; (try simp only [zB, zC, reduceCtorEq] at hc); (try (exfalso; contradiction)))))
 | ((with_reducible show aZ _ _ _ _ _ _ _ _ _ _); (refine aG (k := 26) rA (KF f hf) ?_ ?_))
 | ((with_reducible show bM _ _ _ _ _ _ _ _ _ _); (refine aV (k := 18) jE (fun hg => pU M ho) ?_ ?_))
 | ((fail_if_success (with_reducible show AW _ _ _ _)); simp (maxSteps := 2000000) only [go_sem, reduceIte, reduceCtorEq, xA, xL, xD, xE, xM, xS, xB, Tryz.f12, bC, h])
 | ((with_reducible refine hK _ ?_); clear hK K))
  all_goals first | (have e := akY h; rw [yN (by omega), e]; unfold qA; (repeat' (first | exact rfl | (with_reducible refine And.intro ?_ ?_))); done) | (exfalso; rcases h with h | h <;> simp_all; done) | (have e := Ow ⟨hv, hw⟩ h2 (fun q => hai _ (by omega) (by omega) q.2); rw [if_neg (by omega)] at e; rw [EO e, e]; (repeat' (exact rfl)); done) | skip
theorem rec_2 (f : aj) (hf : f.Ok) (M : ah) (ho : M.Ok) (hv : gy f = true) (hw : iy M = true) (h2 : 0 < f.n /\ (f.N 0).oc ≠ M.oc) : aA Tryz.prog 12 [j6 f, .agg [.g (.int .i64 M.oc), .g (.int .i64 M.nu), .g (.int .i64 M.kd), .g (.int .i64 M.fr), .g (.int .i64 M.un), .g (.int .i64 M.ca), .lst 3 M.n (dZ M.p)]] (.tup [j6 (dJ f M), .one (.g (.int .i64 (qj f M)))]) := by
  refine ak Tryz.func12 rfl (by rw [Tryz.ntmps12]; simp) ?_
  simp only [Tryz.ntmps12, zM, PT.tv, au, Nat.zero_add, Nat.reduceAdd]
  repeat' (first
 | ((with_reducible show AW _ _ _ _); first
 | (with_reducible first | refine aS (fun K hK => ?_) | refine aI ?_ | refine aT ?_ | refine aC ?_)
 | (first
 | (with_reducible first | refine aP 0 [0,1,39,40] ?_ | refine aP 1 [2,3,4,5,39,40] ?_)
 | ((with_reducible refine aR (c := Code.region 3 _ true) [2,3,4,5,39,40] ?_); (with_reducible refine aD ?_ ?_ ?_ ?_); (focus kernel_rfl); (focus kernel_rfl); (focus kernel_rfl))
 | (with_reducible refine aP 4 [4,5] ?_)))
 | ((first | (with_reducible refine And.intro ?_ ?_) | (with_reducible refine Need.mk ?_)); focus (first | exact True.intro | (intro _; exact True.intro) | (intros; (repeat' (first | omega | (with_reducible refine And.intro ?_ ?_))); done)))
 | (with_reducible refine aK ?_)
 | ((with_reducible show bL _ _ _ _ _ _); first
 | ((with_reducible refine aN ?_ ?_) <;> (intro hc; (try simp only [zB, zC, reduceCtorEq] at hc); (try (exfalso; omega)))))
 | ((with_reducible refine And.intro ?_ ?_); focus ((with_reducible show iL _ _ _ = true); kernel_rfl))
 | ((with_reducible show aZ _ _ _ _ _ _ _ _ _ _); (refine aG (k := 26) rA (KF f hf) ?_ ?_))
 | ((with_reducible show bM _ _ _ _ _ _ _ _ _ _); (refine aV (k := 18) jE (fun hg => pU M ho) ?_ ?_))
 | ((fail_if_success (with_reducible show AW _ _ _ _)); simp (maxSteps := 2000000) only [go_sem, reduceIte, reduceCtorEq, xA, xL, xD, xE, xM, xS, xB, Tryz.f12, bC, hv, hw])
 | ((with_reducible refine hK _ ?_); clear hK K))
  all_goals first | (have e := al3 ⟨hv, hw⟩ h2; rw [yN (by omega), e]; unfold qA; (repeat' (first | exact rfl | (with_reducible refine And.intro ?_ ?_))); done) | (exfalso; omega) | (have e := Ow ⟨hv, hw⟩ h2 (fun q => hai _ (by omega) (by omega) q.2); rw [if_neg (by omega)] at e; rw [EO e, e]; (repeat' (exact rfl)); done) | skip
def fH (f : aj) (M : ah) : Option (List CV) := some [.iv (.lst 13 f.k (iR f.S)), .iv (.lst 7 f.n (dX f.N))]
def dM (f : aj) (M : ah) : Option (List CV) := some [.iv (.g (.int .i64 M.oc)), .iv (.g (.int .i64 M.nu)), .iv (.g (.int .i64 M.kd)), .iv (.g (.int .i64 M.fr)), .iv (.g (.int .i64 M.un)), .iv (.g (.int .i64 M.ca)), .iv (.lst 3 M.n (dZ M.p))]
def fA (f : aj) (M : ah) : Option (List CV) := some [.iv (.g (.slice none 0 0)), .iv (.g (.slice none 0 0))]
def fq (f : aj) (M : ah) : Option (List CV) := some [.iv (.g (.int .i64 0))]
def fB (f : aj) (M : ah) : Option (List CV) := some [.iv (.g (.int .i64 ((jr f M) : Int)))]
def fu (f : aj) (M : ah) : Option (List CV) := some [.iv (.lst 7 f.n (dX f.N))]
def tQ (f : aj) (M : ah) : AV := .t (.one (.iv (.lst 7 f.n (dX f.N))))
def tZ (f : aj) (M : ah) : AV := .t (.one (.slc 8 0 f.n 7))
def tK (f : aj) (M : ah) : Option (List CV) := some (Go.Sea.eO (dX f.N) 7 f.n 0)
def kr (f : aj) (M : ah) : AV := .t (.one (.iv (.g (.int .i64 ((jr f M) : Int)))))
def lM (f : aj) (M : ah) : AV := .t (.agg [.iv (.g (.int .i64 M.oc)), .iv (.g (.int .i64 M.nu)), .iv (.g (.int .i64 M.kd)), .iv (.g (.int .i64 M.fr)), .iv (.g (.int .i64 M.un)), .iv (.g (.int .i64 M.ca)), .iv (.lst 3 M.n (dZ M.p))])
def lS (f : aj) (M : ah) : AV := .t (.one (.slc 11 0 1 7))
def gQ (m : Nat) : List Nat := if m = 0 then [2,3,4,5,6] else if m = 1 then [2,3,4,5,6,72] else if m = 3 then [2,3,4,5,6,73] else if m = 7 then [2,3,4,5,6,74] else if m = 8 then [2,3,4,5,6,75] else if m = 9 then [2,3,4,5,6,72,75] else if m = 11 then [2,3,4,5,6,73,75] else if m = 15 then [2,3,4,5,6,74,75] else if m = 16 then [2,3,4,5,6,76] else if m = 17 then [2,3,4,5,6,72,76] else if m = 19 then [2,3,4,5,6,73,76] else if m = 23 then [2,3,4,5,6,74,76] else if m = 24 then [2,3,4,5,6,75,76] else if m = 25 then [2,3,4,5,6,72,75,76] else if m = 27 then [2,3,4,5,6,73,75,76] else if m = 31 then [2,3,4,5,6,74,75,76] else if m = 48 then [2,3,4,5,6,77] else if m = 49 then [2,3,4,5,6,72,77] else if m = 51 then [2,3,4,5,6,73,77] else if m = 55 then [2,3,4,5,6,74,77] else if m = 56 then [2,3,4,5,6,75,77] else if m = 57 then [2,3,4,5,6,72,75,77] else if m = 59 then [2,3,4,5,6,73,75,77] else if m = 63 then [2,3,4,5,6,74,75,77] else if m = 127 then [2,3,4,5,6,78] else if m = 255 then [2,3,4,5,6,78,79] else if m = 511 then [2,4,5] else []
theorem aeX : gQ 0 = [2,3,4,5,6] := rfl
theorem adq : gQ 1 = [2,3,4,5,6,72] := rfl
theorem aa6 : gQ 3 = [2,3,4,5,6,73] := rfl
theorem aa9 : gQ 7 = [2,3,4,5,6,74] := rfl
theorem afT : gQ 8 = [2,3,4,5,6,75] := rfl
theorem ae0 : gQ 9 = [2,3,4,5,6,72,75] := rfl
theorem Um : gQ 11 = [2,3,4,5,6,73,75] := rfl
theorem Wm : gQ 15 = [2,3,4,5,6,74,75] := rfl
theorem Y6 : gQ 16 = [2,3,4,5,6,76] := rfl
theorem Zt : gQ 17 = [2,3,4,5,6,72,76] := rfl
theorem UK : gQ 19 = [2,3,4,5,6,73,76] := rfl
theorem ZX : gQ 23 = [2,3,4,5,6,74,76] := rfl
theorem Zn : gQ 24 = [2,3,4,5,6,75,76] := rfl
theorem X5 : gQ 25 = [2,3,4,5,6,72,75,76] := rfl
theorem XZ : gQ 27 = [2,3,4,5,6,73,75,76] := rfl
theorem Vd : gQ 31 = [2,3,4,5,6,74,75,76] := rfl
theorem V8 : gQ 48 = [2,3,4,5,6,77] := rfl
theorem Uh : gQ 49 = [2,3,4,5,6,72,77] := rfl
theorem VN : gQ 51 = [2,3,4,5,6,73,77] := rfl
theorem Ww : gQ 55 = [2,3,4,5,6,74,77] := rfl
theorem Uw : gQ 56 = [2,3,4,5,6,75,77] := rfl
theorem X3 : gQ 57 = [2,3,4,5,6,72,75,77] := rfl
theorem UO : gQ 59 = [2,3,4,5,6,73,75,77] := rfl
theorem UL : gQ 63 = [2,3,4,5,6,74,75,77] := rfl
theorem QI : gQ 127 = [2,3,4,5,6,78] := rfl
theorem QT : gQ 255 = [2,3,4,5,6,78,79] := rfl
theorem Ry : gQ 511 = [2,4,5] := rfl
def Aq (f : aj) (M : ah) : AS := ⟨[(2, .t (.one (.ptr 0 0))), (3, .t (.one (.ptr 1 0))), (4, .t (.one (.ptr 2 0))), (5, .t (.one (.ptr 3 0))), (6, .t (.one (.ptr 4 0)))], [(fH f M), (dM f M), (fA f M), (fq f M), (fB f M), (fu f M)], 82, [], LP.top⟩
def Gm (f : aj) (M : ah) : AS := ⟨[(2, .t (.one (.ptr 0 0))), (3, .t (.one (.ptr 1 0))), (4, .t (.one (.ptr 2 0))), (5, .t (.one (.ptr 3 0))), (6, .t (.one (.ptr 4 0))), (72, .t (.one (.ptr 0 1)))], [(fH f M), (dM f M), (fA f M), (fq f M), (fB f M), (fu f M)], 82, [], LP.top⟩
def G8 (f : aj) (M : ah) : AS := ⟨[(2, .t (.one (.ptr 0 0))), (3, .t (.one (.ptr 1 0))), (4, .t (.one (.ptr 2 0))), (5, .t (.one (.ptr 3 0))), (6, .t (.one (.ptr 4 0))), (73, (tQ f M))], [(fH f M), (dM f M), (fA f M), (fq f M), (fB f M), (fu f M)], 82, [], LP.top⟩
def FR (f : aj) (M : ah) : AS := ⟨[(2, .t (.one (.ptr 0 0))), (3, .t (.one (.ptr 1 0))), (4, .t (.one (.ptr 2 0))), (5, .t (.one (.ptr 3 0))), (6, .t (.one (.ptr 4 0))), (74, (tZ f M))], [(fH f M), (dM f M), (fA f M), (fq f M), (fB f M), (fu f M), none, none, (tK f M)], 82, [], LP.top⟩
def Hq (f : aj) (M : ah) : AS := ⟨[(2, .t (.one (.ptr 0 0))), (3, .t (.one (.ptr 1 0))), (4, .t (.one (.ptr 2 0))), (5, .t (.one (.ptr 3 0))), (6, .t (.one (.ptr 4 0))), (75, (kr f M))], [(fH f M), (dM f M), (fA f M), (fq f M), (fB f M), (fu f M)], 82, [], LP.top⟩
def Fw (f : aj) (M : ah) : AS := ⟨[(2, .t (.one (.ptr 0 0))), (3, .t (.one (.ptr 1 0))), (4, .t (.one (.ptr 2 0))), (5, .t (.one (.ptr 3 0))), (6, .t (.one (.ptr 4 0))), (72, .t (.one (.ptr 0 1))), (75, (kr f M))], [(fH f M), (dM f M), (fA f M), (fq f M), (fB f M), (fu f M)], 82, [], LP.top⟩
def Ck (f : aj) (M : ah) : AS := ⟨[(2, .t (.one (.ptr 0 0))), (3, .t (.one (.ptr 1 0))), (4, .t (.one (.ptr 2 0))), (5, .t (.one (.ptr 3 0))), (6, .t (.one (.ptr 4 0))), (73, (tQ f M)), (75, (kr f M))], [(fH f M), (dM f M), (fA f M), (fq f M), (fB f M), (fu f M)], 82, [], LP.top⟩
def Db (f : aj) (M : ah) : AS := ⟨[(2, .t (.one (.ptr 0 0))), (3, .t (.one (.ptr 1 0))), (4, .t (.one (.ptr 2 0))), (5, .t (.one (.ptr 3 0))), (6, .t (.one (.ptr 4 0))), (74, (tZ f M)), (75, (kr f M))], [(fH f M), (dM f M), (fA f M), (fq f M), (fB f M), (fu f M), none, none, (tK f M)], 82, [], LP.top⟩
def Df (f : aj) (M : ah) : AS := ⟨[(2, .t (.one (.ptr 0 0))), (3, .t (.one (.ptr 1 0))), (4, .t (.one (.ptr 2 0))), (5, .t (.one (.ptr 3 0))), (6, .t (.one (.ptr 4 0))), (76, (lM f M))], [(fH f M), (dM f M), (fA f M), (fq f M), (fB f M), (fu f M)], 82, [], LP.top⟩
def DN (f : aj) (M : ah) : AS := ⟨[(2, .t (.one (.ptr 0 0))), (3, .t (.one (.ptr 1 0))), (4, .t (.one (.ptr 2 0))), (5, .t (.one (.ptr 3 0))), (6, .t (.one (.ptr 4 0))), (72, .t (.one (.ptr 0 1))), (76, (lM f M))], [(fH f M), (dM f M), (fA f M), (fq f M), (fB f M), (fu f M)], 82, [], LP.top⟩
def Cn (f : aj) (M : ah) : AS := ⟨[(2, .t (.one (.ptr 0 0))), (3, .t (.one (.ptr 1 0))), (4, .t (.one (.ptr 2 0))), (5, .t (.one (.ptr 3 0))), (6, .t (.one (.ptr 4 0))), (73, (tQ f M)), (76, (lM f M))], [(fH f M), (dM f M), (fA f M), (fq f M), (fB f M), (fu f M)], 82, [], LP.top⟩
def Cr (f : aj) (M : ah) : AS := ⟨[(2, .t (.one (.ptr 0 0))), (3, .t (.one (.ptr 1 0))), (4, .t (.one (.ptr 2 0))), (5, .t (.one (.ptr 3 0))), (6, .t (.one (.ptr 4 0))), (74, (tZ f M)), (76, (lM f M))], [(fH f M), (dM f M), (fA f M), (fq f M), (fB f M), (fu f M), none, none, (tK f M)], 82, [], LP.top⟩
def Ej (f : aj) (M : ah) : AS := ⟨[(2, .t (.one (.ptr 0 0))), (3, .t (.one (.ptr 1 0))), (4, .t (.one (.ptr 2 0))), (5, .t (.one (.ptr 3 0))), (6, .t (.one (.ptr 4 0))), (75, (kr f M)), (76, (lM f M))], [(fH f M), (dM f M), (fA f M), (fq f M), (fB f M), (fu f M)], 82, [], LP.top⟩
def Ee (f : aj) (M : ah) : AS := ⟨[(2, .t (.one (.ptr 0 0))), (3, .t (.one (.ptr 1 0))), (4, .t (.one (.ptr 2 0))), (5, .t (.one (.ptr 3 0))), (6, .t (.one (.ptr 4 0))), (72, .t (.one (.ptr 0 1))), (75, (kr f M)), (76, (lM f M))], [(fH f M), (dM f M), (fA f M), (fq f M), (fB f M), (fu f M)], 82, [], LP.top⟩
def AL (f : aj) (M : ah) : AS := ⟨[(2, .t (.one (.ptr 0 0))), (3, .t (.one (.ptr 1 0))), (4, .t (.one (.ptr 2 0))), (5, .t (.one (.ptr 3 0))), (6, .t (.one (.ptr 4 0))), (73, (tQ f M)), (75, (kr f M)), (76, (lM f M))], [(fH f M), (dM f M), (fA f M), (fq f M), (fB f M), (fu f M)], 82, [], LP.top⟩
def Cx (f : aj) (M : ah) : AS := ⟨[(2, .t (.one (.ptr 0 0))), (3, .t (.one (.ptr 1 0))), (4, .t (.one (.ptr 2 0))), (5, .t (.one (.ptr 3 0))), (6, .t (.one (.ptr 4 0))), (74, (tZ f M)), (75, (kr f M)), (76, (lM f M))], [(fH f M), (dM f M), (fA f M), (fq f M), (fB f M), (fu f M), none, none, (tK f M)], 82, [], LP.top⟩
def BP (f : aj) (M : ah) : AS := ⟨[(2, .t (.one (.ptr 0 0))), (3, .t (.one (.ptr 1 0))), (4, .t (.one (.ptr 2 0))), (5, .t (.one (.ptr 3 0))), (6, .t (.one (.ptr 4 0))), (77, (lS f M))], [(fH f M), (dM f M), (fA f M), (fq f M), (fB f M), (fu f M), none, none, none, none, none, (dM f M)], 82, [], LP.top⟩
def Bj (f : aj) (M : ah) : AS := ⟨[(2, .t (.one (.ptr 0 0))), (3, .t (.one (.ptr 1 0))), (4, .t (.one (.ptr 2 0))), (5, .t (.one (.ptr 3 0))), (6, .t (.one (.ptr 4 0))), (72, .t (.one (.ptr 0 1))), (77, (lS f M))], [(fH f M), (dM f M), (fA f M), (fq f M), (fB f M), (fu f M), none, none, none, none, none, (dM f M)], 82, [], LP.top⟩
def DI (f : aj) (M : ah) : AS := ⟨[(2, .t (.one (.ptr 0 0))), (3, .t (.one (.ptr 1 0))), (4, .t (.one (.ptr 2 0))), (5, .t (.one (.ptr 3 0))), (6, .t (.one (.ptr 4 0))), (73, (tQ f M)), (77, (lS f M))], [(fH f M), (dM f M), (fA f M), (fq f M), (fB f M), (fu f M), none, none, none, none, none, (dM f M)], 82, [], LP.top⟩
def Ay (f : aj) (M : ah) : AS := ⟨[(2, .t (.one (.ptr 0 0))), (3, .t (.one (.ptr 1 0))), (4, .t (.one (.ptr 2 0))), (5, .t (.one (.ptr 3 0))), (6, .t (.one (.ptr 4 0))), (74, (tZ f M)), (77, (lS f M))], [(fH f M), (dM f M), (fA f M), (fq f M), (fB f M), (fu f M), none, none, (tK f M), none, none, (dM f M)], 82, [], LP.top⟩
def Co (f : aj) (M : ah) : AS := ⟨[(2, .t (.one (.ptr 0 0))), (3, .t (.one (.ptr 1 0))), (4, .t (.one (.ptr 2 0))), (5, .t (.one (.ptr 3 0))), (6, .t (.one (.ptr 4 0))), (75, (kr f M)), (77, (lS f M))], [(fH f M), (dM f M), (fA f M), (fq f M), (fB f M), (fu f M), none, none, none, none, none, (dM f M)], 82, [], LP.top⟩
def CU (f : aj) (M : ah) : AS := ⟨[(2, .t (.one (.ptr 0 0))), (3, .t (.one (.ptr 1 0))), (4, .t (.one (.ptr 2 0))), (5, .t (.one (.ptr 3 0))), (6, .t (.one (.ptr 4 0))), (72, .t (.one (.ptr 0 1))), (75, (kr f M)), (77, (lS f M))], [(fH f M), (dM f M), (fA f M), (fq f M), (fB f M), (fu f M), none, none, none, none, none, (dM f M)], 82, [], LP.top⟩
def Ba (f : aj) (M : ah) : AS := ⟨[(2, .t (.one (.ptr 0 0))), (3, .t (.one (.ptr 1 0))), (4, .t (.one (.ptr 2 0))), (5, .t (.one (.ptr 3 0))), (6, .t (.one (.ptr 4 0))), (73, (tQ f M)), (75, (kr f M)), (77, (lS f M))], [(fH f M), (dM f M), (fA f M), (fq f M), (fB f M), (fu f M), none, none, none, none, none, (dM f M)], 82, [], LP.top⟩
def AO (f : aj) (M : ah) : AS := ⟨[(2, .t (.one (.ptr 0 0))), (3, .t (.one (.ptr 1 0))), (4, .t (.one (.ptr 2 0))), (5, .t (.one (.ptr 3 0))), (6, .t (.one (.ptr 4 0))), (74, (tZ f M)), (75, (kr f M)), (77, (lS f M))], [(fH f M), (dM f M), (fA f M), (fq f M), (fB f M), (fu f M), none, none, (tK f M), none, none, (dM f M)], 82, [], LP.top⟩
def xV (f : aj) (M : ah) : AS := ⟨[(2, .t (.one (.ptr 0 0))), (3, .t (.one (.ptr 1 0))), (4, .t (.one (.ptr 2 0))), (5, .t (.one (.ptr 3 0))), (6, .t (.one (.ptr 4 0))), (78, .t (.one (.slc 8 0 (f.n + 1) 7)))], [(fH f M), (dM f M), (fA f M), (fq f M), (fB f M), (fu f M), none, none, some (iB (K4 f M)), none, none, (dM f M)], 82, [], LP.top⟩
def wG (f : aj) (M : ah) : AS := ⟨[(2, .t (.one (.ptr 0 0))), (3, .t (.one (.ptr 1 0))), (4, .t (.one (.ptr 2 0))), (5, .t (.one (.ptr 3 0))), (6, .t (.one (.ptr 4 0))), (78, .t (.one (.slc 8 0 (f.n + 1) 7))), (79, .t (.one (.ptr 0 1)))], [(fH f M), (dM f M), (fA f M), (fq f M), (fB f M), (fu f M), none, none, some (iB (K4 f M)), none, none, (dM f M)], 82, [], LP.top⟩
def vS (f : aj) (M : ah) : AS := ⟨[(2, .t (.one (.ptr 0 0))), (4, .t (.one (.ptr 2 0))), (5, .t (.one (.ptr 3 0)))], [some [.iv (.lst 13 f.k (iR f.S)), .slc 8 0 (f.n + 1) 7], (dM f M), (fA f M), (fq f M), (fB f M), (fu f M), none, none, some (iB (K4 f M)), none, none, (dM f M)], 82, [], LP.top⟩
def gN (f : aj) (M : ah) (m : Nat) : AS := if m = 0 then Aq f M else if m = 1 then Gm f M else if m = 3 then G8 f M else if m = 7 then FR f M else if m = 8 then Hq f M else if m = 9 then Fw f M else if m = 11 then Ck f M else if m = 15 then Db f M else if m = 16 then Df f M else if m = 17 then DN f M else if m = 19 then Cn f M else if m = 23 then Cr f M else if m = 24 then Ej f M else if m = 25 then Ee f M else if m = 27 then AL f M else if m = 31 then Cx f M else if m = 48 then BP f M else if m = 49 then Bj f M else if m = 51 then DI f M else if m = 55 then Ay f M else if m = 56 then Co f M else if m = 57 then CU f M else if m = 59 then Ba f M else if m = 63 then AO f M else if m = 127 then xV f M else if m = 255 then wG f M else if m = 511 then vS f M else Aq f M
theorem afj (f : aj) (M : ah) : gN f M 0 = Aq f M := rfl
theorem ac7 (f : aj) (M : ah) : gN f M 1 = Gm f M := rfl
theorem abM (f : aj) (M : ah) : gN f M 3 = G8 f M := rfl
theorem afO (f : aj) (M : ah) : gN f M 7 = FR f M := rfl
theorem afJ (f : aj) (M : ah) : gN f M 8 = Hq f M := rfl
theorem adw (f : aj) (M : ah) : gN f M 9 = Fw f M := rfl
theorem XT (f : aj) (M : ah) : gN f M 11 = Ck f M := rfl
theorem Ye (f : aj) (M : ah) : gN f M 15 = Db f M := rfl
theorem XM (f : aj) (M : ah) : gN f M 16 = Df f M := rfl
theorem Y8 (f : aj) (M : ah) : gN f M 17 = DN f M := rfl
theorem X6 (f : aj) (M : ah) : gN f M 19 = Cn f M := rfl
theorem Ut (f : aj) (M : ah) : gN f M 23 = Cr f M := rfl
theorem aae (f : aj) (M : ah) : gN f M 24 = Ej f M := rfl
theorem WK (f : aj) (M : ah) : gN f M 25 = Ee f M := rfl
theorem YP (f : aj) (M : ah) : gN f M 27 = AL f M := rfl
theorem YH (f : aj) (M : ah) : gN f M 31 = Cx f M := rfl
theorem Uq (f : aj) (M : ah) : gN f M 48 = BP f M := rfl
theorem Zy (f : aj) (M : ah) : gN f M 49 = Bj f M := rfl
theorem YO (f : aj) (M : ah) : gN f M 51 = DI f M := rfl
theorem WY (f : aj) (M : ah) : gN f M 55 = Ay f M := rfl
theorem VK (f : aj) (M : ah) : gN f M 56 = Co f M := rfl
theorem aag (f : aj) (M : ah) : gN f M 57 = CU f M := rfl
theorem Xi (f : aj) (M : ah) : gN f M 59 = Ba f M := rfl
theorem XA (f : aj) (M : ah) : gN f M 63 = AO f M := rfl
theorem Tk (f : aj) (M : ah) : gN f M 127 = xV f M := rfl
theorem QH (f : aj) (M : ah) : gN f M 255 = wG f M := rfl
theorem Sm (f : aj) (M : ah) : gN f M 511 = vS f M := rfl
attribute [go_sem] fH dM fA fq fB fu tQ tZ tK kr lM lS aeX Aq afj adq Gm ac7 aa6 G8 abM aa9 FR afO afT Hq afJ ae0 Fw adw Um Ck XT Wm Db Ye Y6 Df XM Zt DN Y8 UK Cn X6 ZX Cr Ut Zn Ej aae X5 Ee WK XZ AL YP Vd Cx YH V8 BP Uq Uh Bj Zy VN DI YO Ww Ay WY Uw Co VK X3 CU aag UO Ba Xi UL AO XA QI xV Tk QT wG QH Ry vS Sm
theorem YT (f : aj) (M : ah) (hn : f.n <= 200) {os : List Oper} {ty : Nat} {tys : Array TypeId} {pos : String} {aft : Array Edge} (ho : ko os 6 = some ⟨some 78, .call ⟨.value (.func 42), #[.tmp 74, .tmp 75, .tmp 77], tys⟩, ty, pos, aft, none⟩) : TT Tryz.prog (ko os 6) (gN f M 63) (gN f M 127) := by
  refine VQ (i := 8) (j := 11) (n := f.n) (p := jr f M) (l := Go.Sea.eO (dX f.N) 7 f.n 0) (x := [.iv (.g (.int .i64 M.oc)), .iv (.g (.int .i64 M.nu)), .iv (.g (.int .i64 M.kd)), .iv (.g (.int .i64 M.fr)), .iv (.g (.int .i64 M.un)), .iv (.g (.int .i64 M.ca)), .iv (.lst 3 M.n (dZ M.p))]) (L := [2,3,4,5,6,78]) ho rfl rfl rfl rfl rfl (Go.Sea.gK _ _ _ _) (FK _ _ _ _) rfl (fun y hy => ?_) (by decide) (p9 f M) (by omega) (by show 78 < 82; decide) ?_
  · simp only [List.mem_cons, List.not_mem_nil, or_false] at hy
    rcases hy with rfl | rfl | rfl | rfl | rfl | rfl | rfl <;> trivial
  · rw [aiu]; exact ⟨rfl⟩
theorem ala (f : aj) (hf : f.Ok) (M : ah) (ho : M.Ok) (hv : gy f = true) (hw : iy M = true) (h2 : ¬ (0 < f.n /\ (f.N 0).oc ≠ M.oc)) : aA Tryz.prog 12 [j6 f, .agg [.g (.int .i64 M.oc), .g (.int .i64 M.nu), .g (.int .i64 M.kd), .g (.int .i64 M.fr), .g (.int .i64 M.un), .g (.int .i64 M.ca), .lst 3 M.n (dZ M.p)]] (.tup [j6 (dJ f M), .one (.g (.int .i64 (qj f M)))]) := by
  have hn := hf.n
  have hnn := (kP (iJ hv).2.2).1
  have hJn := p9 f M
  have ht1 : True := trivial
  have mk1 : True := trivial
  refine ak Tryz.func12 rfl (by rw [Tryz.ntmps12]; simp) ?_
  simp only [Tryz.ntmps12, zM, PT.tv, au, Nat.zero_add, Nat.reduceAdd]
  repeat' (first
 | ((with_reducible show AW _ _ _ _); first
 | (with_reducible first | refine aS (fun K hK => ?_) | refine aI ?_ | refine aX ?_ | refine aT ?_ | refine aC ?_ | refine aB ?_)
 | ((refine eT (k := 85) rfl Tryz.func85 rfl adI (by rw [Tryz.ntmps85]; simp) ?_ ?_ (fun l hlne A B hA hB => ?_)); (focus (simp (maxSteps := 2000000) only [go_sem, reduceIte, reduceCtorEq, xA, xL, xD, xE, xM, xS, xB, Tryz.f12, Tryz.f85, Tryz.f41, bC, hv, hw, ht1, AP, CZ, mq, mF, jy, mX, maxLen]; try exact True.intro)); (focus (simp (maxSteps := 2000000) only [go_sem, reduceIte, reduceCtorEq, xA, xL, xD, xE, xM, xS, xB, Tryz.f12, Tryz.f85, Tryz.f41, bC, hv, hw, ht1, AP, CZ, mq, mF, jy, mX, maxLen]; try exact True.intro)); simp only [Tryz.ntmps85, List.map_cons, List.map_nil, LV.tv, au, yV, Nat.zero_add, Nat.reduceAdd]; clear hlne)
 | (with_reducible refine vN (by assumption) ?_)
 | (first
 | (with_reducible first | refine aP (ops := #[⟨some 2, _, _, _, _, _⟩, _, _, _]) 0 [0,1,39,40] ?_ | refine aP (ops := #[⟨some 4, _, _, _, _, _⟩, _, _, _]) 0 [0,1] ?_ | refine aP (ops := #[⟨some 1, _, _, _, _, _⟩, _]) 0 [0] ?_ | refine aP (ops := #[⟨some 9, _, _, _, _, _⟩, _, _, _, _, _, _, _]) 1 [2,3,4,5,39,40] ?_ | refine aP (ops := #[⟨some 7, _, _, _, _, _⟩, _]) 1 [0,1,3] ?_ | refine aP (ops := #[⟨some 3, _, _, _, _, _⟩, _]) 1 [1] ?_ | refine aP (ops := #[⟨some 9, _, _, _, _, _⟩, _, _]) 2 [0,1,3] ?_ | refine aP 3 [0,1,3] ?_)
 | ((with_reducible refine aR (c := Code.region 3 _ true) [2,3,4,5,39,40] ?_); (with_reducible refine aD ?_ ?_ ?_ ?_); (focus kernel_rfl); (focus kernel_rfl); (focus kernel_rfl))
 | (with_reducible first | refine aP 5 [2,3,4,5,39,40] ?_ | refine aP 6 [2,3,4,5,6,39,40] ?_ | refine aP 7 [2,3,4,5,6,39,40] ?_ | refine aP 8 [2,3,4,5,6,7,39,40] ?_ | refine aP 9 [2,3,4,5,6,7,8,39,40] ?_ | refine aP 10 [2,3,4,5,6,7,39,40] ?_ | refine aP 11 [2,3,4,5,6,8,39,40] ?_ | refine aP 12 [4,5] ?_ | refine aP 13 [2,3,4,5,6,8,39,40] ?_ | refine aP 14 [4,5] ?_ | refine aP 15 [2,3,4,5,6] ?_ | refine aP 16 [4,5] ?_)
 | ((with_reducible refine aR (c := Code.region 17 _ true) [2,3,4,5,6] ?_); (with_reducible refine LA 511 [0,1,3,7,8,9,11,15,16,17,19,23,24,25,27,31,48,49,51,55,56,57,59,63,127,255,511] [(0, 0, 1), (0, 3, 8), (0, 4, 16), (1, 1, 3), (1, 3, 9), (1, 4, 17), (8, 0, 9), (8, 4, 24), (16, 0, 17), (16, 3, 24), (16, 5, 48), (3, 2, 7), (3, 3, 11), (3, 4, 19), (9, 1, 11), (9, 4, 25), (17, 1, 19), (17, 3, 25), (17, 5, 49), (24, 0, 25), (24, 5, 56), (48, 0, 49), (48, 3, 56), (7, 3, 15), (7, 4, 23), (11, 2, 15), (11, 4, 27), (19, 2, 23), (19, 3, 27), (19, 5, 51), (25, 1, 27), (25, 5, 57), (49, 1, 51), (49, 3, 57), (56, 0, 57), (15, 4, 31), (23, 3, 31), (23, 5, 55), (27, 2, 31), (27, 5, 59), (51, 2, 55), (51, 3, 59), (57, 1, 59), (31, 5, 63), (55, 3, 63), (59, 2, 63), (63, 6, 127), (127, 7, 255), (255, 8, 511)] (gQ 0) (gN f M) ?hm17 ?hb17 ?hd17 ?hc17 ?h017 ?hh17 ?hq17); (case' hm17 => kernel_rfl); (case' hb17 => kernel_rfl); (case' hd17 => kernel_rfl); (case' hc17 => kernel_rfl); (case' h017 => (exact ⟨rfl⟩)); (case' hh17 => (simp only [List.toList_toArray, List.length_cons, List.length_nil, Nat.reduceAdd]; repeat' (first | ((with_reducible show Nk _ _ _ _); first | exact Tc | (with_reducible refine LZ ?_ ?_)) | ((with_reducible show TT _ _ _ _); first | ((with_reducible show TT _ (ko _ 2) _ _); (with_reducible refine Rs (L := gQ) (fun K hK => ?_))) | ((with_reducible show TT _ (ko _ 6) _ _); exact YT f M hnn rfl) | (with_reducible refine aa0 (n0 := 6) (L := gQ) (fun K hK => ?_))) | ((with_reducible show Ny _ _ _ _ _ _); simp (maxSteps := 2000000) only [go_sem, reduceIte, reduceCtorEq, xA, xL, xD, xE, xM, xS, xB, Tryz.f12, Tryz.f85, Tryz.f41, bC, hv, hw, ht1, AP, CZ, mq, mF, jy, mX, maxLen]) | ((with_reducible show O7 _ _ _ _); simp (maxSteps := 2000000) only [go_sem, reduceIte, reduceCtorEq, xA, xL, xD, xE, xM, xS, xB, Tryz.f12, Tryz.f85, Tryz.f41, bC, hv, hw, ht1, AP, CZ, mq, mF, jy, mX, maxLen]) | (refine lV (k := 43) Pn (uR (VW f.n (dX f.N) (by omega)) (i := 8) rfl) ?_ ?_) | ((with_reducible refine Need.mk ?_); trivial) | ((with_reducible show fT _ _ _ _ _); simp only [JN]) | ((with_reducible refine hK _ ?_); clear hK K) | ((with_reducible show Leaf _ _); exact ⟨rfl⟩)))); (case' hq17 => (simp only [go_sem])))
 | (with_reducible refine qx (c := Code.region 18 _ false) [8] ?_ (aP 18 [2,4,5] ?_)))
 | ((with_reducible show AW _ (Code.loop _) _ _); first
 | ((with_reducible refine aL (c := (Code.seq (Code.seq (Code.region 1 _ _) _) _)) (ι := Nat) [0,1] (fun v => [(3, iA .i64 ((v : Int) - 1))]) (fun v => [(4, [.iv (.g (.int .i64 (SK f M v : Int)))])]) (fun v => v <= f.n /\ (∀ j, v <= j -> j < f.n -> (f.N j).nu ≠ M.nu)) (fun v => v) f.n ?lg1 ?l11 ?l21 ?li1 ?lr1); (case' lg1 => rintro v _); (case' li1 => try (exact ⟨Nat.le_refl _, fun j h1 h2 => absurd h2 (by omega)⟩)); (case' lr1 => rintro v ⟨hvn, hai⟩ KR hR1; have ht1 : ((v : Int) - 1).toNat = v - 1 := (by omega); simp only [bG, dL, hset, lk, if_true, if_false, xE, reduceIte, zN, hv, hw, ht1, AP, CZ, mq, mF, jy, mX, maxLen]))))
 | ((first | (with_reducible refine And.intro ?_ ?_) | (with_reducible refine Need.mk ?_)); focus (first | exact GD _ | first | exact True.intro | omega | (intro _; first | exact True.intro | (with_reducible assumption)) | (simp (disch := omega) only [Bool.and_eq_true, Bool.or_eq_true, decide_eq_true_eq, bne_iff_ne, ne_eq] at *; omega)))
 | (with_reducible refine aK ?_)
 | ((with_reducible show bL _ _ _ _ _ _); first
 | ((with_reducible refine aN ?_ ?_) <;> (intro hc; (try simp only [zB, zC, reduceCtorEq] at hc); ((try (have e0 : v = 0 := (by omega); subst e0))); (try (exfalso; omega)))))
 | ((with_reducible refine And.intro ?_ ?_); focus ((with_reducible show iL _ _ _ = true); kernel_rfl))
 | ((with_reducible show aZ _ _ _ _ _ _ _ _ _ _); first
 | (refine aG (k := 44) F7 (Wq (rcG f M) (YB hf ho hnn) (show f.k <= 1000 from agq hv) _ _ (fun i o _ _ => IV.bn _) (afb (f := f) (M := M))) ?_ ?_)
 | (refine aG (k := 26) rA (KF f hf) ?_ ?_)
 | ((refine bW (k := 41) Tryz.func41 rfl Pt (by rw [Tryz.ntmps41]; simp) ?_ ?_ (fun K hK => ?_)); (focus (exact True.intro)); (focus ((simp [iZ]; done))); simp only [Tryz.ntmps41, List.map_cons, List.map_nil, List.nil_append, List.cons_append, List.append_nil, LV.tv, au, Nat.zero_add, Nat.reduceAdd]))
 | ((with_reducible show bM _ _ _ _ _ _ _ _ _ _); first
 | (refine aV (k := 18) jE (fun hg => pU M ho) ?_ ?_)
 | (refine aV (k := 19) Og (fun hg => aoW (f.N (v - 1)) M (hf.nn (v - 1) (by omega)) ho) ?_ ?_))
 | ((with_reducible refine hR1 _ (v - 1) ?_); (try clear hR1 KR))
 | ((with_reducible refine Told.mk ?_); simp only [go_sem, reduceIte, reduceCtorEq, xA, xL, xD, xE, xM, xS, xB, bC, hv, hw, ht1, AP, CZ, mq, mF, jy, mX, maxLen] <;> ((((try simp (disch := omega) only [aY, Int.natCast_add, Int.cast_ofNat_Int, and_true, true_and, and_self]); (repeat' (first | omega | (with_reducible refine And.intro ?_ ?_) | ((exact abQ hai (by omega))) | ((exact aj1 hv (by assumption) (by assumption) (by assumption))) | ((exact aiY hv (by assumption) (by assumption) (by assumption) (by assumption))))); done))))
 | ((fail_if_success (with_reducible show AW _ _ _ _)); simp (maxSteps := 2000000) only [go_sem, reduceIte, reduceCtorEq, xA, xL, xD, xE, xM, xS, xB, Tryz.f12, Tryz.f85, Tryz.f41, bC, hv, hw, ht1, AP, CZ, mq, mF, jy, mX, maxLen])
 | ((fail_if_success (with_reducible show AW _ _ _ _)); simp (disch := omega) only [aY, iP, iX])
 | ((with_reducible show aZ _ _ _ _ _ _ (.yld _) _ _ _); (refine lG (by simp only [Fg, if_true]; exact rfl) ?_ (by simp) ?_ ?_ (fun K hK => ?_)); (focus (exact True.intro)); (focus (simp [nk])); (focus ((simp [iZ]; done))); simp only [jm, gf, if_true, Nat.reduceAdd])
 | ((with_reducible refine hK _ ?_); clear hK K)
 | (with_reducible apply_assumption -exfalso only [*]))
  all_goals first | (exfalso; omega) | (have e0 : v - 1 = jr f M := agi hv (by omega) (by first | assumption | exact (by assumption : _ /\ _).1); have h8 : jr f M < f.n /\ (f.N (jr f M)).nu = M.nu := ⟨by omega, by rw [<- e0]; first | assumption | exact (by assumption : _ /\ _).1⟩; first | (have e := ak5 ⟨hv, hw⟩ h2 h8 (by rw [<- e0]; exact (by assumption : _ /\ _).2); rw [yN (by omega), e]; unfold qA; (repeat' (first | exact rfl | (with_reducible refine And.intro ?_ ?_))); done) | (have e := am4 ⟨hv, hw⟩ h2 h8 (by rw [<- e0]; exact Or.resolve_left (by assumption : (f.N (v - 1)).nu ≠ M.nu \/ OE (f.N (v - 1)) M = false) (fun q => q (by assumption))); rw [yN (by omega), e]; unfold qA; (repeat' (first | exact rfl | (with_reducible refine And.intro ?_ ?_))); done)) | (have e := Ow ⟨hv, hw⟩ h2 (fun q => hai _ (by omega) (by omega) q.2); rw [if_pos (by omega)] at e; rw [yN (by omega), e]; unfold qA; (repeat' (first | exact rfl | (with_reducible refine And.intro ?_ ?_))); done) | (have e := Ow ⟨hv, hw⟩ h2 (fun q => hai _ (by omega) (by omega) q.2); rw [if_neg (by omega)] at e; rw [EO e, e]; (repeat' (first | exact rfl | (with_reducible refine And.intro ?_ ?_) | (intro i q hi hq; exact IV.bn _))); done) | skip
theorem rY (f : aj) (hf : f.Ok) (M : ah) (ho : M.Ok) : aA Tryz.prog 12 [j6 f, .agg [.g (.int .i64 M.oc), .g (.int .i64 M.nu), .g (.int .i64 M.kd), .g (.int .i64 M.fr), .g (.int .i64 M.un), .g (.int .i64 M.ca), .lst 3 M.n (dZ M.p)]] (.tup [j6 (dJ f M), .one (.g (.int .i64 (qj f M)))]) := by
  by_cases h : gy f = false \/ iy M = false
  · exact rec_1 f hf M ho h
  · simp only [not_or, Bool.not_eq_false] at h
    by_cases h2 : 0 < f.n /\ (f.N 0).oc ≠ M.oc
    · exact rec_2 f hf M ho h.1 h.2 h2
    · exact ala f hf M ho h.1 h.2 h2
end Go.Proofs.YtcfechepbamhkaaGreat
set_option maxRecDepth 100000
set_option maxHeartbeats 4000000
namespace Go.Proofs.YtcfechepbamhkaaGreat
open Go.RowKit Go.Sea
open Nat renaming reduceAdd -> xA, reduceLT -> xL, reduceLeDiff -> xD, reduceEqDiff -> xE, reduceMul -> xM, reduceSub -> xS, reduceBEq -> xB
theorem jT : aM Tryz.prog 12 = true := by kernel_rfl
theorem aeY : aM Tryz.prog 28 = true := by kernel_rfl
attribute [go_sem] jT aeY
theorem rC {f : aj} {M : ah} (h : qj f M = 0) : gy f = true /\ iy M = true /\ f.n < 200 /\ (0 < f.n -> (f.N 0).oc = M.oc) /\ ¬ (jr f M < f.n /\ (f.N (jr f M)).nu = M.nu) := by
  unfold qj at h
  split at h
  · rename_i hv
    split at h
    · cases h
    · rename_i h2
      split at h
      · split at h <;> cases h
      · rename_i h3
        split at h
        · cases h
        · rename_i h4
          have := (kP (iJ hv.1).2.2).1
          exact ⟨hv.1, hv.2, by omega, fun g => Classical.byContradiction fun q => h2 ⟨g, q⟩, h3⟩
  · cases h
theorem wQ {f : aj} (hf : f.Ok) {M : ah} (ho : M.Ok) : (dJ f M).Ok := by
  by_cases h : qj f M = 0
  · rw [EO h]; exact Qb (YB hf ho (by have := (rC h).2.2.1; omega))
  · rw [yN h]; exact Po
end Go.Proofs.YtcfechepbamhkaaGreat
set_option maxRecDepth 100000
set_option maxHeartbeats 4000000
namespace Go.Proofs.YtcfechepbamhkaaGreat
open Go.RowKit Go.Sea
open Nat renaming reduceAdd -> xA, reduceLT -> xL, reduceLeDiff -> xD, reduceEqDiff -> xE, reduceMul -> xM, reduceSub -> xS, reduceBEq -> xB
theorem Ai : aM Tryz.prog 84 = true := by kernel_rfl
theorem X7 : aM Tryz.prog 123 = true := by kernel_rfl
attribute [go_sem] Ai X7
def mkF (S : aF) (e : Int) : aF := if e = 0 then { S with ed := S.ed + 1 } else bg
def Ac (s : aF) (n : Nat) (N : Nat -> ah) : Int := if zw s n N = true then (if 1000 <= s.ed then 3 else qB s n N (gD s N n).length (zL (gD s N n))) else 1
def mV (s : aF) (n : Nat) (N : Nat -> ah) : aF := if zw s n N = true then (if 1000 <= s.ed then bg else mkF (sj s n N (gD s N n).length (zL (gD s N n))) (qB s n N (gD s N n).length (zL (gD s N n)))) else bg
theorem aiC {s : aF} {n : Nat} {N : Nat -> ah} (h : zw s n N = false) : mV s n N = bg /\ Ac s n N = 1 := by unfold mV Ac; rw [h]; exact ⟨rfl, rfl⟩
theorem aoj {s : aF} {n : Nat} {N : Nat -> ah} (h : zw s n N = true) (h0 : s.ed >= 1000) : mV s n N = bg /\ Ac s n N = 3 := by unfold mV Ac; rw [if_pos h, if_pos h, if_pos (by omega), if_pos (by omega)]; exact ⟨rfl, rfl⟩
theorem ao2 {s : aF} {n : Nat} {N : Nat -> ah} (h : zw s n N = true) (h0 : s.ed < 1000) : mV s n N = mkF (sj s n N (gD s N n).length (zL (gD s N n))) (qB s n N (gD s N n).length (zL (gD s N n))) /\ Ac s n N = qB s n N (gD s N n).length (zL (gD s N n)) := by unfold mV Ac; rw [if_pos h, if_pos h, if_neg (by omega), if_neg (by omega)]; exact ⟨rfl, rfl⟩
theorem qL {s : aF} {n : Nat} {N : Nat -> ah} (h : zw s n N = true) : dW s = true /\ pq n N = true /\ n <= 200 := by
  unfold zw at h; simp only [Bool.and_eq_true] at h; exact ⟨h.1, h.2, (kP h.2).1⟩
theorem Vr {s : aF} (h : dW s = true) : 1 <= s.ed /\ s.ed <= 1000 /\ 1 <= s.ch /\ s.ch <= 1000 := by
  unfold dW at h; simp only [Bool.and_eq_true, decide_eq_true_eq] at h; omega
theorem YU {s : aF} {n : Nat} {N : Nat -> ah} (h : zw s n N = true) : zI s n N (gD s N n).length = true := by
  have h1 := qL h
  have h2 := oW s N n
  unfold zI; rw [h1.1, h1.2.1]; simp; omega
theorem Oi (s : aF) (n : Nat) (N : Nat -> ah) (od : Nat -> Int) : ∀ i, (dO s n N od i).ed = s.ed /\ (dO s n N od i).ch = s.ch
  | 0 => ⟨rfl, rfl⟩
  | i + 1 => Oi s n N od i
theorem agn {S : aF} {e : Int} (h : e = 0) : mkF S e = { S with ed := S.ed + 1 } := by unfold mkF; rw [if_pos h]
theorem DU {S : aF} {e : Int} (h : e ≠ 0) : mkF S e = bg := by unfold mkF; rw [if_neg h]
theorem aol (s : aF) (n : Nat) (N : Nat -> ah) (hs : s.Ok) (hn : n <= 9223372036854775807) (hN : ∀ i, i < n -> (N i).Ok) (hB : zw s n N = false) : aA Tryz.prog 71 [(lY s), .one (.lst 7 n (dX N))] (.tup [.one (.g (.int .i64 (UpV s n N))), .one (.g (.int .i64 (UpE s n N)))]) := by
  refine ak Tryz.func71 rfl (by rw [Tryz.ntmps71]; simp) ?_
  simp only [lY, Tryz.ntmps71, zM, PT.tv, au, Nat.zero_add, Nat.reduceAdd]
  repeat' (first
 | ((with_reducible show AW _ _ _ _); first
 | (with_reducible first | refine aS (fun K hK => ?_) | refine aI ?_ | refine aT ?_ | refine aC ?_)
 | (first
 | (with_reducible first | refine aP 0 [0,1] ?_ | refine aP 1 [1,2] ?_ | refine aP 2 [] ?_)))
 | ((first | (with_reducible refine And.intro ?_ ?_) | (with_reducible refine Need.mk ?_)); focus (first | exact True.intro | (intro _; (with_reducible assumption)) | (simp; done)))
 | (with_reducible refine aK ?_)
 | ((with_reducible show bL _ _ _ _ _ _); first
 | ((with_reducible refine aN ?_ ?_) <;> (intro hc; (try simp only [zB, zC, reduceCtorEq] at hc); (try (exfalso; contradiction)))))
 | ((with_reducible show aZ _ _ _ _ _ _ _ _ _ _); first
 | (refine aG (k := 48) iq (iE s hs) ?_ ?_))
 | ((with_reducible show bM _ _ _ _ _ _ _ _ _ _); first
 | (refine aV (k := 82) oD (fun hg => ES n N hn hN) ?_ ?_))
 | ((fail_if_success (with_reducible show AW _ _ _ _)); simp (maxSteps := 2000000) only [go_sem, reduceIte, reduceCtorEq, xA, xL, xD, xE, xM, xS, xB, Tryz.f71, bC])
 | ((with_reducible refine hK _ ?_); clear hK K))
  all_goals (first | (have e := ag3 hB; rw [e.1, e.2]; (repeat' (first | exact rfl | (with_reducible refine And.intro ?_ ?_))); done) | exact (agA hB hc).elim)
theorem aoh (s : aF) (n : Nat) (N : Nat -> ah) (hs : s.Ok) (hn : n <= 9223372036854775807) (hN : ∀ i, i < n -> (N i).Ok) (hB : zw s n N = true) (h0 : (gD s N n).length = 0) : aA Tryz.prog 71 [(lY s), .one (.lst 7 n (dX N))] (.tup [.one (.g (.int .i64 (UpV s n N))), .one (.g (.int .i64 (UpE s n N)))]) := by
  have h3 := qL hB
  have hv := h3.1
  have hw := h3.2.1
  have hn2 := h3.2.2
  have hle := oW s N n
  have hlt : (((gD s N n).length : Int) > 0) = False := eq_false (by omega)
  have hms := alG h0
  refine ak Tryz.func71 rfl (by rw [Tryz.ntmps71]; simp) ?_
  simp only [lY, Tryz.ntmps71, zM, PT.tv, au, Nat.zero_add, Nat.reduceAdd]
  repeat' (first
 | ((with_reducible show AW _ _ _ _); first
 | (with_reducible first | refine aS (fun K hK => ?_) | refine aI ?_ | refine aX ?_ | refine aT ?_ | refine aC ?_ | refine aB ?_)
 | (first
 | (with_reducible first | refine aP 0 [0,1] ?_ | refine aP 1 [1,2] ?_ | refine aP 3 [1,2] ?_ | refine aP 4 [1,2,6] ?_ | refine aP 5 [1,6,7] ?_ | refine aP 7 [1,6] ?_ | refine aP 8 [1,6,8] ?_ | refine aP 9 [6,8,29,30,31] ?_ | refine aP 10 [6,8,29,30,31] ?_ | refine aP 11 [6,8,10,29,30,31] ?_ | refine aP 12 [6,10,29,30,31] ?_ | refine aP 13 [6,8,29,30,31] ?_ | refine aP 14 [8] ?_))
 | ((with_reducible show AW _ (Code.loop _) _ _); first
 | ((with_reducible refine aL (c := (Code.seq (Code.region 9 _ _) _)) (ι := Nat) [6,29,30] (fun i => [(8, iA .i64 (upL N (JD (gD s N n)) i)), (31, iA .i64 (i : Int))]) (fun i => []) (fun i => i <= n) (fun i => n - i) 0 ?lg9 ?l19 ?l29 ?li9 ?lr9); (case' lg9 => rintro i _); (case' li9 => try (omega)); (case' lr9 => rintro i hi KR hR9; simp only [bG, dL, hset, lk, if_true, if_false, xE, reduceIte, zN, hv, hw, hlt]))))
 | ((first | (with_reducible refine And.intro ?_ ?_) | (with_reducible refine Need.mk ?_)); focus (first | exact True.intro | omega | (intro _; exact True.intro)))
 | (with_reducible refine aK ?_)
 | ((with_reducible show bL _ _ _ _ _ _); first
 | ((with_reducible refine aN ?_ ?_) <;> (intro hc; (try simp only [zB, zC, reduceCtorEq] at hc); (try (exfalso; contradiction)))))
 | ((with_reducible show aZ _ _ _ _ _ _ _ _ _ _); first
 | (refine aG (k := 48) iq (iE s hs) ?_ ?_)
 | (refine aG (k := 84) Ai (Un s n N hs hn hN hv (by omega)) ?_ ?_))
 | ((with_reducible show bM _ _ _ _ _ _ _ _ _ _); first
 | (refine aV (k := 82) oD (fun hg => ES n N hn hN) ?_ ?_))
 | ((with_reducible refine hR9 _ (i + 1) ?_); (try clear hR9 KR))
 | ((with_reducible refine Told.mk ?_); simp only [go_sem, reduceIte, reduceCtorEq, xA, xL, xD, xE, xM, xS, xB, bC, hv, hw, hlt] <;> ((((try simp (disch := omega) only [aY, Int.natCast_add, Int.cast_ofNat_Int, and_true, true_and, and_self]); (repeat' (first | omega | rfl | (with_reducible refine And.intro ?_ ?_) | ((first | (rw [agr (by rw [hms]; omega)]) | (rw [afW (by rw [hms]; omega)]))))); done))))
 | ((fail_if_success (with_reducible show AW _ _ _ _)); simp (maxSteps := 2000000) only [go_sem, reduceIte, reduceCtorEq, xA, xL, xD, xE, xM, xS, xB, Tryz.f71, bC, hv, hw, hlt])
 | ((with_reducible refine hK _ ?_); clear hK K)
 | (with_reducible apply_assumption -exfalso only [*]))
  all_goals ((have e := akt hB; rw [e.1, e.2]; have e0 : n = i := (by omega); subst e0; (repeat' (first | exact rfl | (with_reducible refine And.intro ?_ ?_))); done))
theorem am9 (s : aF) (n : Nat) (N : Nat -> ah) (hs : s.Ok) (hn : n <= 9223372036854775807) (hN : ∀ i, i < n -> (N i).Ok) (hB : zw s n N = true) (h0 : (gD s N n).length ≠ 0) : aA Tryz.prog 71 [(lY s), .one (.lst 7 n (dX N))] (.tup [.one (.g (.int .i64 (UpV s n N))), .one (.g (.int .i64 (UpE s n N)))]) := by
  have h3 := qL hB
  have hv := h3.1
  have hw := h3.2.1
  have hn2 := h3.2.2
  have hle := oW s N n
  have hlt : (((gD s N n).length : Int) > 0) = True := eq_true (by omega)
  have hms := anB h0
  refine ak Tryz.func71 rfl (by rw [Tryz.ntmps71]; simp) ?_
  simp only [lY, Tryz.ntmps71, zM, PT.tv, au, Nat.zero_add, Nat.reduceAdd]
  repeat' (first
 | ((with_reducible show AW _ _ _ _); first
 | (with_reducible first | refine aS (fun K hK => ?_) | refine aI ?_ | refine aX ?_ | refine aT ?_ | refine aC ?_ | refine aB ?_)
 | (first
 | (with_reducible first | refine aP 0 [0,1] ?_ | refine aP 1 [1,2] ?_ | refine aP 3 [1,2] ?_ | refine aP 4 [1,2,6] ?_ | refine aP 5 [1,6,7] ?_ | refine aP 6 [1,7] ?_ | refine aP 7 [1,6] ?_ | refine aP 8 [1,6,8] ?_ | refine aP 9 [6,8,29,30,31] ?_ | refine aP 10 [6,8,29,30,31] ?_ | refine aP 11 [6,8,10,29,30,31] ?_ | refine aP 12 [6,10,29,30,31] ?_ | refine aP 13 [6,8,29,30,31] ?_ | refine aP 14 [8] ?_))
 | ((with_reducible show AW _ (Code.loop _) _ _); first
 | ((with_reducible refine aL (c := (Code.seq (Code.region 9 _ _) _)) (ι := Nat) [6,29,30] (fun i => [(8, iA .i64 (upL N (JD (gD s N n)) i)), (31, iA .i64 (i : Int))]) (fun i => []) (fun i => i <= n) (fun i => n - i) 0 ?lg9 ?l19 ?l29 ?li9 ?lr9); (case' lg9 => rintro i _); (case' li9 => try (omega)); (case' lr9 => rintro i hi KR hR9; simp only [bG, dL, hset, lk, if_true, if_false, xE, reduceIte, zN, hv, hw, hlt]))))
 | ((first | (with_reducible refine And.intro ?_ ?_) | (with_reducible refine Need.mk ?_)); focus (first | exact True.intro | omega | (intro _; exact True.intro)))
 | (with_reducible refine aK ?_)
 | ((with_reducible show bL _ _ _ _ _ _); first
 | ((with_reducible refine aN ?_ ?_) <;> (intro hc; (try simp only [zB, zC, reduceCtorEq] at hc); (try (exfalso; contradiction)))))
 | ((with_reducible show aZ _ _ _ _ _ _ _ _ _ _); first
 | (refine aG (k := 48) iq (iE s hs) ?_ ?_)
 | (refine aG (k := 84) Ai (Un s n N hs hn hN hv (by omega)) ?_ ?_))
 | ((with_reducible show bM _ _ _ _ _ _ _ _ _ _); first
 | (refine aV (k := 82) oD (fun hg => ES n N hn hN) ?_ ?_))
 | ((with_reducible refine hR9 _ (i + 1) ?_); (try clear hR9 KR))
 | ((with_reducible refine Told.mk ?_); simp only [go_sem, reduceIte, reduceCtorEq, xA, xL, xD, xE, xM, xS, xB, bC, hv, hw, hlt] <;> ((((try simp (disch := omega) only [aY, Int.natCast_add, Int.cast_ofNat_Int, and_true, true_and, and_self]); (repeat' (first | omega | rfl | (with_reducible refine And.intro ?_ ?_) | ((first | (rw [agr (by rw [hms]; omega)]) | (rw [afW (by rw [hms]; omega)]))))); done))))
 | ((fail_if_success (with_reducible show AW _ _ _ _)); simp (maxSteps := 2000000) only [go_sem, reduceIte, reduceCtorEq, xA, xL, xD, xE, xM, xS, xB, Tryz.f71, bC, hv, hw, hlt])
 | ((with_reducible refine hK _ ?_); clear hK K)
 | (with_reducible apply_assumption -exfalso only [*]))
  all_goals ((have e := akt hB; rw [e.1, e.2]; have e0 : n = i := (by omega); subst e0; (repeat' (first | exact rfl | (with_reducible refine And.intro ?_ ?_))); done))
theorem aoX (s : aF) (n : Nat) (N : Nat -> ah) (hs : s.Ok) (hn : n <= 9223372036854775807) (hN : ∀ i, i < n -> (N i).Ok) : aA Tryz.prog 71 [(lY s), .one (.lst 7 n (dX N))] (.tup [.one (.g (.int .i64 (UpV s n N))), .one (.g (.int .i64 (UpE s n N)))]) := by
  cases hB : zw s n N with
  | false => exact aol s n N hs hn hN hB
  | true =>
    by_cases h0 : (gD s N n).length = 0
    · exact aoh s n N hs hn hN hB h0
    · exact am9 s n N hs hn hN hB h0
end Go.Proofs.YtcfechepbamhkaaGreat
