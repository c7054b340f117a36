/- Part 15 of 17: contracts of functions and plain laws for the root text. No condition. -/
import Derived.Test.YtcfechepbamhkaaGreatZ01
import Derived.Test.YtcfechepbamhkaaGreatZ02
import Derived.Test.YtcfechepbamhkaaGreatZ03
import Derived.Test.YtcfechepbamhkaaGreatZ04
import Derived.Test.YtcfechepbamhkaaGreatZ05
import Derived.Test.YtcfechepbamhkaaGreatZ06
import Derived.Test.YtcfechepbamhkaaGreatZ07
import Derived.Test.YtcfechepbamhkaaGreatZ08
import Derived.Test.YtcfechepbamhkaaGreatZ09
import Derived.Test.YtcfechepbamhkaaGreatZ10
import Derived.Test.YtcfechepbamhkaaGreatZ11
import Derived.Test.YtcfechepbamhkaaGreatZ12
import Derived.Test.YtcfechepbamhkaaGreatZ13
import Derived.Test.YtcfechepbamhkaaGreatZ14
import Derived.Lib.AppendZerosOnto
import Derived.Laws.CopyRow
import Derived.Lib.Overlaps
set_option linter.unusedVariables false
set_option linter.unusedSimpArgs false
namespace Go.Proofs.YtcfechepbamhkaaGreat
open Go.RowKit Go.Sea
def c7 (s : ah) : List CV := [.iv (.g (.int .i64 s.oc)), .iv (.g (.int .i64 s.nu)), .iv (.g (.int .i64 s.kd)), .iv (.g (.int .i64 s.fr)), .iv (.g (.int .i64 s.un)), .iv (.g (.int .i64 s.ca)), .iv (.lst 3 s.n (dK s.p))]
def iE (l : List ah) : List CV := l.flatMap c7
theorem Gi (l : List ah) : ∀ c, c ∈ iE l -> j4 c := by
  intro c hc
  obtain ⟨s, _, h⟩ := List.mem_flatMap.1 hc
  simp only [c7, List.mem_cons, List.not_mem_nil, or_false] at h
  rcases h with rfl | rfl | rfl | rfl | rfl | rfl | rfl <;> trivial
theorem jB (l : List ah) : (iE l).length = l.length * 7 := by
  induction l with
  | nil => rfl
  | cons s l ih => show (c7 s ++ iE l).length = _; rw [List.length_append, ih, List.length_cons]; show 7 + _ = _; omega
theorem mq (l : List ah) (i : Nat) : List.map (CV.cZ i) (iE l) = iE l := mK i (Gi l)
theorem l5 (l : List ah) (i : Nat) (cs : List CV) : List.map (o9 i cs) (iE l) = iE l := FH _ (Gi l)
theorem CS : ∀ (l : List ah) (i o : Nat), i < l.length -> o < 7 -> (iE l).getD (i * 7 + o) .any = (c7 (l.getD i Ta)).getD o .any
  | [], i, _, hi, _ => absurd hi (Nat.not_lt_zero i)
  | s :: l, 0, o, _, ho => by
    show (c7 s ++ iE l).getD (0 * 7 + o) .any = _
    rw [Nat.zero_mul, Nat.zero_add, List.getD, List.getElem?_append_left (by show o < 7; exact ho)]; rfl
  | s :: l, i + 1, o, hi, ho => by
    show (c7 s ++ iE l).getD ((i + 1) * 7 + o) .any = _
    have e : (i + 1) * 7 + o = 7 + (i * 7 + o) := by omega
    rw [e, List.getD, List.getElem?_append_right (by show 7 <= 7 + (i * 7 + o); omega)]
    show ((iE l)[7 + (i * 7 + o) - 7]?).getD .any = _
    rw [Nat.add_sub_cancel_left]
    exact CS l i o (by simpa using hi) ho
set_option maxRecDepth 100000 in
theorem Tp (l : List ah) : ∀ i o, i < l.length -> o < 7 -> (IE ((iE l).getD (i * 7 + o) .any)).eqv (aeY (l.getD i Ta) o) := fun i o hi ho => by
  rw [CS l i o hi ho]
  rcases (by omega : o = 0 \/ o = 1 \/ o = 2 \/ o = 3 \/ o = 4 \/ o = 5 \/ o = 6) with rfl | rfl | rfl | rfl | rfl | rfl | rfl <;> exact IV.bf _
def iy (f : aj) (M : ah) : Nat := j3 (fun i => decide (M.nu <= (f.N i).nu)) f.n
def pU (f : aj) (j : Nat) (M : ah) (i : Nat) : ah := if i < j then f.N i else if i = j then M else f.N (i - 1)
def iK (f : aj) (M : ah) : Int := if fK f = true /\ gD M = true then (if 0 < f.n /\ (f.N 0).oc ≠ M.oc then 12 else if iy f M < f.n /\ (f.N (iy f M)).nu = M.nu then (if vk (f.N (iy f M)) M = true then 5 else 18) else if f.n = 200 then 2 else 0) else 1
def Tg (f : aj) (M : ah) : aj := ⟨f.k, f.S, f.n + 1, pU f (iy f M) M⟩
def dZ (f : aj) (M : ah) : aj := if iK f M = 0 then BG (Tg f M) else uT
def nL (f : aj) (i : Nat) : List ah := (List.range i).map f.N
theorem sJ {f : aj} {M : ah} (h : iK f M ≠ 0) : dZ f M = uT := by unfold dZ; rw [if_neg h]
theorem afs {f : aj} {M : ah} (h : fK f = false \/ gD M = false) : iK f M = 1 := by
  unfold iK; rw [if_neg]; rintro ⟨a, b⟩; rcases h with h | h
  · rw [h] at a; cases a
  · rw [h] at b; cases b
theorem afS {f : aj} {M : ah} (h : fK f = true /\ gD M = true) (h2 : 0 < f.n /\ (f.N 0).oc ≠ M.oc) : iK f M = 12 := by unfold iK; rw [if_pos h, if_pos h2]
theorem ana {f : aj} {M : ah} (h : fK f = true /\ gD M = true) (h2 : ¬ (0 < f.n /\ (f.N 0).oc ≠ M.oc)) (h3 : iy f M < f.n /\ (f.N (iy f M)).nu = M.nu) (h4 : vk (f.N (iy f M)) M = true) : iK f M = 5 := by unfold iK; rw [if_pos h, if_neg h2, if_pos h3, if_pos h4]
theorem amk {f : aj} {M : ah} (h : fK f = true /\ gD M = true) (h2 : ¬ (0 < f.n /\ (f.N 0).oc ≠ M.oc)) (h3 : iy f M < f.n /\ (f.N (iy f M)).nu = M.nu) (h4 : vk (f.N (iy f M)) M = false) : iK f M = 18 := by unfold iK; rw [if_pos h, if_neg h2, if_pos h3, if_neg (by rw [h4]; simp)]
theorem Ow {f : aj} {M : ah} (h : fK f = true /\ gD M = true) (h2 : ¬ (0 < f.n /\ (f.N 0).oc ≠ M.oc)) (h3 : ¬ (iy f M < f.n /\ (f.N (iy f M)).nu = M.nu)) : iK f M = if f.n = 200 then 2 else 0 := by unfold iK; rw [if_pos h, if_neg h2, if_neg h3]
theorem ku (f : aj) (M : ah) : iy f M <= f.n := qJ _ _
end Go.Proofs.YtcfechepbamhkaaGreat
set_option maxRecDepth 100000
set_option maxHeartbeats 4000000
namespace Go.Proofs.YtcfechepbamhkaaGreat
open Go.RowKit Go.Sea
open Nat renaming reduceAdd -> xA, reduceLT -> xL, reduceLeDiff -> xD, reduceEqDiff -> xE, reduceMul -> xM, reduceSub -> xS, reduceBEq -> xB
theorem Ee {f : aj} {M : ah} (hv : fK f = true) {i : Nat} (hi : i < f.n) : (f.N i).nu < M.nu ↔ i < iy f M := by
  have hn := (mM (iB hv).2.2).2
  constructor
  · intro h
    rcases Nat.lt_or_ge i (iy f M) with g | g
    · exact g
    · exfalso
      have hJ : iy f M < f.n := by omega
      have h1 := of_decide_eq_true ((jD (b := fun i => decide (M.nu <= (f.N i).nu)) (k := f.n)).2 hJ)
      have h2 := ahX hn (x := M.nu) h1 i g hi
      omega
  · intro h
    have := of_decide_eq_false ((jD (b := fun i => decide (M.nu <= (f.N i).nu)) (k := f.n)).1 i h)
    omega
theorem afK {f : aj} {M : ah} (hv : fK f = true) {i : Nat} (hi : i < f.n) (h : (f.N i).nu = M.nu) : i = iy f M := by
  have hn := (mM (iB hv).2.2).2
  have h1 := mt (Ee (M := M) hv hi).2 (by omega)
  rcases Nat.lt_or_ge (iy f M) i with g | g
  · have h2 := qo hn i g hi
    have h3 := mt (Ee (M := M) hv (i := iy f M) (by omega)).1 (by omega)
    omega
  · omega
def KE (f : aj) (M : ah) : List ah := (List.range (f.n + 1)).map (pU f (iy f M) M)
theorem ae6 (S : Nat -> ah) : ∀ (n : Nat), Go.Sea.eG (eP S) 7 n 0 = iE ((List.range n).map S) := fun n => by
  have hl : (Go.Sea.eG (eP S) 7 n 0).length = (iE ((List.range n).map S)).length := by rw [gI, jB]; simp
  refine List.ext_getElem? fun i => ?_
  by_cases h : i < n * 7
  · have e : i = i / 7 * 7 + i % 7 := by omega
    have h1 := pz (eP S) 7 n 0 (i / 7) (i % 7) (by omega) (Nat.mod_lt _ (by decide))
    rw [Nat.zero_add, <- e] at h1
    rw [h1]
    have h2 := CS ((List.range n).map S) (i / 7) (i % 7) (by simp; omega) (Nat.mod_lt _ (by decide))
    rw [<- e] at h2
    have hlt : i < (iE ((List.range n).map S)).length := by rw [jB]; simp; omega
    rw [List.getD, List.getElem?_eq_getElem hlt, Option.getD_some] at h2
    rw [List.getElem?_eq_getElem hlt, h2]
    have e3 : ((List.range n).map S).getD (i / 7) Ta = S (i / 7) := by
      have : i / 7 < n := by omega
      simp [List.getD, this]
    rw [e3]
    have hm := Nat.mod_lt i (show 0 < 7 by decide)
    generalize i % 7 = o at hm
    generalize i / 7 = q
    rcases (by omega : o = 0 \/ o = 1 \/ o = 2 \/ o = 3 \/ o = 4 \/ o = 5 \/ o = 6) with rfl | rfl | rfl | rfl | rfl | rfl | rfl <;> rfl
  · rw [List.getElem?_eq_none (by rw [gI]; omega), List.getElem?_eq_none (by rw [jB]; simp; omega)]
theorem aky {f : aj} {M : ah} : KE f M = nL f (iy f M) ++ [M] ++ (List.range (f.n - iy f M)).map (fun i => f.N (iy f M + i)) := by
  have hJ := ku f M
  refine List.ext_getElem (by simp [KE, nL]; omega) fun i h1 h2 => ?_
  simp only [KE, nL, List.getElem_map, List.getElem_range, List.getElem_append, List.length_append, List.length_map, List.length_range, List.length_cons, List.length_nil]
  unfold pU
  by_cases c1 : i < iy f M
  · rw [if_pos c1, dif_pos (by omega), dif_pos c1]
  · rw [if_neg c1]
    by_cases c2 : i = iy f M
    · rw [if_pos c2, dif_pos (by omega), dif_neg c1]; simp [c2]
    · rw [if_neg c2, dif_neg (by omega)]
      congr 1; omega
theorem mY (f : aj) (M : ah) : (KE f M).length = f.n + 1 := by simp [KE]
theorem Tz {f : aj} (hf : f.Ok) {M : ah} (ho : M.Ok) (hn : f.n <= 200) : (Tg f M).Ok := ⟨hf.k, hf.s, by show f.n + 1 <= _; omega, fun i hi => by
  have hi' : i < f.n + 1 := hi
  show (pU f (iy f M) M i).Ok
  have hJ := ku f M
  unfold pU
  split
  · exact hf.nn i (by omega)
  · split
    · exact ho
    · exact hf.nn (i - 1) (by omega)⟩
theorem acs {f : aj} {M : ah} : ∀ i o, i < (Tg f M).n -> o < 7 -> (IE ((iE (KE f M)).getD (i * 7 + o) .any)).eqv (eP (Tg f M).N i o) := fun i o hi ho => by
  have hi' : i < f.n + 1 := hi
  have h := Tp (KE f M) i o (by rw [mY]; exact hi') ho
  rwa [show (KE f M).getD i Ta = (Tg f M).N i by simp [KE, List.getD, hi', Tg]] at h
theorem yI {f : aj} {M : ah} (h : iK f M = 0) : dZ f M = BG (Tg f M) := by unfold dZ; rw [if_pos h]
def aY (f : aj) (M : ah) : AV := .t (.one (.iv (.g (.int .i64 ((iy f M) : Int)))))
def bK (f : aj) (M : ah) : Option (List CV) := some [.iv (.lst 13 f.k (jq f.S)), .iv (.lst 7 f.n (eP f.N))]
def aW (f : aj) (M : ah) : Option (List CV) := some [.iv (.g (.int .i64 M.oc)), .iv (.g (.int .i64 M.nu)), .iv (.g (.int .i64 M.kd)), .iv (.g (.int .i64 M.fr)), .iv (.g (.int .i64 M.un)), .iv (.g (.int .i64 M.ca)), .iv (.lst 3 M.n (dK M.p))]
def bJ (f : aj) (M : ah) : Option (List CV) := some [.iv (.g (.slice none 0 0)), .iv (.g (.slice none 0 0))]
def bO (f : aj) (M : ah) : Option (List CV) := some [.iv (.lst 13 f.k (jq f.S)), .slc 4 0 (iy f M) 7]
def bN (f : aj) (M : ah) : Option (List CV) := some (iE (nL f (iy f M)))
def gT (f : aj) (M : ah) : AV := .t (.one (.slc 4 0 (iy f M) 7))
def gQ (f : aj) (M : ah) : AV := .t (.agg [.iv (.g (.int .i64 M.oc)), .iv (.g (.int .i64 M.nu)), .iv (.g (.int .i64 M.kd)), .iv (.g (.int .i64 M.fr)), .iv (.g (.int .i64 M.un)), .iv (.g (.int .i64 M.ca)), .iv (.lst 3 M.n (dK M.p))])
def qw (f : aj) (M : ah) : AV := .t (.one (.slc 4 0 ((iy f M) + 1) 7))
def nH (f : aj) (M : ah) : Option (List CV) := some [.iv (.lst 13 f.k (jq f.S)), .any]
def nk (f : aj) (M : ah) : Option (List CV) := some (iE (nL f (iy f M) ++ [M]))
def fJ (f : aj) (M : ah) : AV := .t (.one (.iv (.lst 7 f.n (eP f.N))))
def jU (f : aj) (M : ah) : AV := .t (.one (.iv (.lst 7 (f.n - (iy f M)) (fun i o => eP f.N ((iy f M) + i) o))))
def cK (m : Nat) : List Nat := if m = 0 then [2,3,4,6,9] else if m = 1 then [2,3,4,6,9,78] else if m = 3 then [2,3,4,6,9,79] else if m = 4 then [2,3,4,6,9,80] else if m = 5 then [2,3,4,6,9,78,80] else if m = 7 then [2,3,4,6,9,79,80] else if m = 12 then [2,3,4,6,9,81] else if m = 13 then [2,3,4,6,9,78,81] else if m = 15 then [2,3,4,6,9,79,81] else if m = 31 then [2,3,4,6,9,82] else if m = 32 then [2,3,4,6,9,83] else if m = 33 then [2,3,4,6,9,78,83] else if m = 35 then [2,3,4,6,9,79,83] else if m = 36 then [2,3,4,6,9,80,83] else if m = 37 then [2,3,4,6,9,78,80,83] else if m = 39 then [2,3,4,6,9,79,80,83] else if m = 44 then [2,3,4,6,9,81,83] else if m = 45 then [2,3,4,6,9,78,81,83] else if m = 47 then [2,3,4,6,9,79,81,83] else if m = 63 then [2,3,4,6,9,82,83] else if m = 96 then [2,3,4,6,9,84] else if m = 97 then [2,3,4,6,9,78,84] else if m = 99 then [2,3,4,6,9,79,84] else if m = 100 then [2,3,4,6,9,80,84] else if m = 101 then [2,3,4,6,9,78,80,84] else if m = 103 then [2,3,4,6,9,79,80,84] else if m = 108 then [2,3,4,6,9,81,84] else if m = 109 then [2,3,4,6,9,78,81,84] else if m = 111 then [2,3,4,6,9,79,81,84] else if m = 127 then [2,3,4,6,9,82,84] else if m = 128 then [2,3,4,6,9,85] else if m = 129 then [2,3,4,6,9,78,85] else if m = 131 then [2,3,4,6,9,79,85] else if m = 132 then [2,3,4,6,9,80,85] else if m = 133 then [2,3,4,6,9,78,80,85] else if m = 135 then [2,3,4,6,9,79,80,85] else if m = 140 then [2,3,4,6,9,81,85] else if m = 141 then [2,3,4,6,9,78,81,85] else if m = 143 then [2,3,4,6,9,79,81,85] else if m = 159 then [2,3,4,6,9,82,85] else if m = 160 then [2,3,4,6,9,83,85] else if m = 161 then [2,3,4,6,9,78,83,85] else if m = 163 then [2,3,4,6,9,79,83,85] else if m = 164 then [2,3,4,6,9,80,83,85] else if m = 165 then [2,3,4,6,9,78,80,83,85] else if m = 167 then [2,3,4,6,9,79,80,83,85] else if m = 172 then [2,3,4,6,9,81,83,85] else if m = 173 then [2,3,4,6,9,78,81,83,85] else if m = 175 then [2,3,4,6,9,79,81,83,85] else if m = 191 then [2,3,4,6,9,82,83,85] else if m = 224 then [2,3,4,6,9,84,85] else if m = 225 then [2,3,4,6,9,78,84,85] else if m = 227 then [2,3,4,6,9,79,84,85] else if m = 228 then [2,3,4,6,9,80,84,85] else if m = 229 then [2,3,4,6,9,78,80,84,85] else if m = 231 then [2,3,4,6,9,79,80,84,85] else if m = 236 then [2,3,4,6,9,81,84,85] else if m = 237 then [2,3,4,6,9,78,81,84,85] else if m = 239 then [2,3,4,6,9,79,81,84,85] else if m = 255 then [2,3,4,6,9,82,84,85] else if m = 480 then [2,3,4,6,9,86] else if m = 481 then [2,3,4,6,9,78,86] else if m = 483 then [2,3,4,6,9,79,86] else if m = 484 then [2,3,4,6,9,80,86] else if m = 485 then [2,3,4,6,9,78,80,86] else if m = 487 then [2,3,4,6,9,79,80,86] else if m = 492 then [2,3,4,6,9,81,86] else if m = 493 then [2,3,4,6,9,78,81,86] else if m = 495 then [2,3,4,6,9,79,81,86] else if m = 511 then [2,3,4,6,9,82,86] else if m = 1023 then [2,3,4,6,9,87] else if m = 2047 then [2,3,4,6,9,87,88] else if m = 4095 then [4,6] else []
theorem abt : cK 0 = [2,3,4,6,9] := rfl
theorem adi : cK 1 = [2,3,4,6,9,78] := rfl
theorem adx : cK 3 = [2,3,4,6,9,79] := rfl
theorem ace : cK 4 = [2,3,4,6,9,80] := rfl
theorem adH : cK 5 = [2,3,4,6,9,78,80] := rfl
theorem ad5 : cK 7 = [2,3,4,6,9,79,80] := rfl
theorem TT : cK 12 = [2,3,4,6,9,81] := rfl
theorem Z9 : cK 13 = [2,3,4,6,9,78,81] := rfl
theorem Uo : cK 15 = [2,3,4,6,9,79,81] := rfl
theorem Uv : cK 31 = [2,3,4,6,9,82] := rfl
theorem ZW : cK 32 = [2,3,4,6,9,83] := rfl
theorem Vl : cK 33 = [2,3,4,6,9,78,83] := rfl
theorem XD : cK 35 = [2,3,4,6,9,79,83] := rfl
theorem Uy : cK 36 = [2,3,4,6,9,80,83] := rfl
theorem ZB : cK 37 = [2,3,4,6,9,78,80,83] := rfl
theorem Xu : cK 39 = [2,3,4,6,9,79,80,83] := rfl
theorem VZ : cK 44 = [2,3,4,6,9,81,83] := rfl
theorem TJ : cK 45 = [2,3,4,6,9,78,81,83] := rfl
theorem ZJ : cK 47 = [2,3,4,6,9,79,81,83] := rfl
theorem WO : cK 63 = [2,3,4,6,9,82,83] := rfl
theorem aae : cK 96 = [2,3,4,6,9,84] := rfl
theorem TK : cK 97 = [2,3,4,6,9,78,84] := rfl
theorem UQ : cK 99 = [2,3,4,6,9,79,84] := rfl
theorem Q9 : cK 100 = [2,3,4,6,9,80,84] := rfl
theorem Qu : cK 101 = [2,3,4,6,9,78,80,84] := rfl
theorem Sg : cK 103 = [2,3,4,6,9,79,80,84] := rfl
theorem Qf : cK 108 = [2,3,4,6,9,81,84] := rfl
theorem SE : cK 109 = [2,3,4,6,9,78,81,84] := rfl
theorem Rn : cK 111 = [2,3,4,6,9,79,81,84] := rfl
theorem QM : cK 127 = [2,3,4,6,9,82,84] := rfl
theorem PW : cK 128 = [2,3,4,6,9,85] := rfl
theorem Si : cK 129 = [2,3,4,6,9,78,85] := rfl
theorem P7 : cK 131 = [2,3,4,6,9,79,85] := rfl
theorem Pw : cK 132 = [2,3,4,6,9,80,85] := rfl
theorem QI : cK 133 = [2,3,4,6,9,78,80,85] := rfl
theorem QY : cK 135 = [2,3,4,6,9,79,80,85] := rfl
theorem PN : cK 140 = [2,3,4,6,9,81,85] := rfl
theorem QO : cK 141 = [2,3,4,6,9,78,81,85] := rfl
theorem QW : cK 143 = [2,3,4,6,9,79,81,85] := rfl
theorem R7 : cK 159 = [2,3,4,6,9,82,85] := rfl
theorem Qj : cK 160 = [2,3,4,6,9,83,85] := rfl
theorem Ru : cK 161 = [2,3,4,6,9,78,83,85] := rfl
theorem RX : cK 163 = [2,3,4,6,9,79,83,85] := rfl
theorem PI : cK 164 = [2,3,4,6,9,80,83,85] := rfl
theorem Q6 : cK 165 = [2,3,4,6,9,78,80,83,85] := rfl
theorem QL : cK 167 = [2,3,4,6,9,79,80,83,85] := rfl
theorem Sc : cK 172 = [2,3,4,6,9,81,83,85] := rfl
theorem Sd : cK 173 = [2,3,4,6,9,78,81,83,85] := rfl
theorem QZ : cK 175 = [2,3,4,6,9,79,81,83,85] := rfl
theorem P9 : cK 191 = [2,3,4,6,9,82,83,85] := rfl
theorem QE : cK 224 = [2,3,4,6,9,84,85] := rfl
theorem PU : cK 225 = [2,3,4,6,9,78,84,85] := rfl
theorem Rl : cK 227 = [2,3,4,6,9,79,84,85] := rfl
theorem QH : cK 228 = [2,3,4,6,9,80,84,85] := rfl
theorem Q5 : cK 229 = [2,3,4,6,9,78,80,84,85] := rfl
theorem SG : cK 231 = [2,3,4,6,9,79,80,84,85] := rfl
theorem Rm : cK 236 = [2,3,4,6,9,81,84,85] := rfl
theorem R6 : cK 237 = [2,3,4,6,9,78,81,84,85] := rfl
theorem Px : cK 239 = [2,3,4,6,9,79,81,84,85] := rfl
theorem SL : cK 255 = [2,3,4,6,9,82,84,85] := rfl
theorem Qr : cK 480 = [2,3,4,6,9,86] := rfl
theorem QB : cK 481 = [2,3,4,6,9,78,86] := rfl
theorem Qd : cK 483 = [2,3,4,6,9,79,86] := rfl
theorem SS : cK 484 = [2,3,4,6,9,80,86] := rfl
theorem RB : cK 485 = [2,3,4,6,9,78,80,86] := rfl
theorem Rj : cK 487 = [2,3,4,6,9,79,80,86] := rfl
theorem Qz : cK 492 = [2,3,4,6,9,81,86] := rfl
theorem Sn : cK 493 = [2,3,4,6,9,78,81,86] := rfl
theorem P6 : cK 495 = [2,3,4,6,9,79,81,86] := rfl
theorem Sw : cK 511 = [2,3,4,6,9,82,86] := rfl
theorem Lb : cK 1023 = [2,3,4,6,9,87] := rfl
theorem MJ : cK 2047 = [2,3,4,6,9,87,88] := rfl
theorem LY : cK 4095 = [4,6] := rfl
def zQ (f : aj) (M : ah) : AS := ⟨[(2, .t (.one (.ptr 0 0))), (3, .t (.one (.ptr 1 0))), (4, .t (.one (.ptr 2 0))), (6, .t (.one (.ptr 3 0))), (9, (aY f M))], [(bK f M), (aW f M), (bJ f M), (bO f M), (bN f M)], 91, [], LP.top⟩
def FT (f : aj) (M : ah) : AS := ⟨[(2, .t (.one (.ptr 0 0))), (3, .t (.one (.ptr 1 0))), (4, .t (.one (.ptr 2 0))), (6, .t (.one (.ptr 3 0))), (9, (aY f M)), (78, .t (.one (.ptr 3 1)))], [(bK f M), (aW f M), (bJ f M), (bO f M), (bN f M)], 91, [], LP.top⟩
def G9 (f : aj) (M : ah) : AS := ⟨[(2, .t (.one (.ptr 0 0))), (3, .t (.one (.ptr 1 0))), (4, .t (.one (.ptr 2 0))), (6, .t (.one (.ptr 3 0))), (9, (aY f M)), (79, (gT f M))], [(bK f M), (aW f M), (bJ f M), (bO f M), (bN f M)], 91, [], LP.top⟩
def FD (f : aj) (M : ah) : AS := ⟨[(2, .t (.one (.ptr 0 0))), (3, .t (.one (.ptr 1 0))), (4, .t (.one (.ptr 2 0))), (6, .t (.one (.ptr 3 0))), (9, (aY f M)), (80, (gQ f M))], [(bK f M), (aW f M), (bJ f M), (bO f M), (bN f M)], 91, [], LP.top⟩
def Fu (f : aj) (M : ah) : AS := ⟨[(2, .t (.one (.ptr 0 0))), (3, .t (.one (.ptr 1 0))), (4, .t (.one (.ptr 2 0))), (6, .t (.one (.ptr 3 0))), (9, (aY f M)), (78, .t (.one (.ptr 3 1))), (80, (gQ f M))], [(bK f M), (aW f M), (bJ f M), (bO f M), (bN f M)], 91, [], LP.top⟩
def FR (f : aj) (M : ah) : AS := ⟨[(2, .t (.one (.ptr 0 0))), (3, .t (.one (.ptr 1 0))), (4, .t (.one (.ptr 2 0))), (6, .t (.one (.ptr 3 0))), (9, (aY f M)), (79, (gT f M)), (80, (gQ f M))], [(bK f M), (aW f M), (bJ f M), (bO f M), (bN f M)], 91, [], LP.top⟩
def Ci (f : aj) (M : ah) : AS := ⟨[(2, .t (.one (.ptr 0 0))), (3, .t (.one (.ptr 1 0))), (4, .t (.one (.ptr 2 0))), (6, .t (.one (.ptr 3 0))), (9, (aY f M)), (81, .t (.one (.slc 8 0 1 7)))], [(bK f M), (aW f M), (bJ f M), (bO f M), (bN f M), none, none, none, (aW f M)], 91, [], LP.top⟩
def Ab (f : aj) (M : ah) : AS := ⟨[(2, .t (.one (.ptr 0 0))), (3, .t (.one (.ptr 1 0))), (4, .t (.one (.ptr 2 0))), (6, .t (.one (.ptr 3 0))), (9, (aY f M)), (78, .t (.one (.ptr 3 1))), (81, .t (.one (.slc 8 0 1 7)))], [(bK f M), (aW f M), (bJ f M), (bO f M), (bN f M), none, none, none, (aW f M)], 91, [], LP.top⟩
def CJ (f : aj) (M : ah) : AS := ⟨[(2, .t (.one (.ptr 0 0))), (3, .t (.one (.ptr 1 0))), (4, .t (.one (.ptr 2 0))), (6, .t (.one (.ptr 3 0))), (9, (aY f M)), (79, (gT f M)), (81, .t (.one (.slc 8 0 1 7)))], [(bK f M), (aW f M), (bJ f M), (bO f M), (bN f M), none, none, none, (aW f M)], 91, [], LP.top⟩
def Bf (f : aj) (M : ah) : AS := ⟨[(2, .t (.one (.ptr 0 0))), (3, .t (.one (.ptr 1 0))), (4, .t (.one (.ptr 2 0))), (6, .t (.one (.ptr 3 0))), (9, (aY f M)), (82, (qw f M))], [(bK f M), (aW f M), (bJ f M), (nH f M), (nk f M), none, none, none, (aW f M)], 91, [], LP.top⟩
def Ad (f : aj) (M : ah) : AS := ⟨[(2, .t (.one (.ptr 0 0))), (3, .t (.one (.ptr 1 0))), (4, .t (.one (.ptr 2 0))), (6, .t (.one (.ptr 3 0))), (9, (aY f M)), (83, .t (.one (.ptr 0 1)))], [(bK f M), (aW f M), (bJ f M), (bO f M), (bN f M)], 91, [], LP.top⟩
def Bc (f : aj) (M : ah) : AS := ⟨[(2, .t (.one (.ptr 0 0))), (3, .t (.one (.ptr 1 0))), (4, .t (.one (.ptr 2 0))), (6, .t (.one (.ptr 3 0))), (9, (aY f M)), (78, .t (.one (.ptr 3 1))), (83, .t (.one (.ptr 0 1)))], [(bK f M), (aW f M), (bJ f M), (bO f M), (bN f M)], 91, [], LP.top⟩
def BP (f : aj) (M : ah) : AS := ⟨[(2, .t (.one (.ptr 0 0))), (3, .t (.one (.ptr 1 0))), (4, .t (.one (.ptr 2 0))), (6, .t (.one (.ptr 3 0))), (9, (aY f M)), (79, (gT f M)), (83, .t (.one (.ptr 0 1)))], [(bK f M), (aW f M), (bJ f M), (bO f M), (bN f M)], 91, [], LP.top⟩
def z8 (f : aj) (M : ah) : AS := ⟨[(2, .t (.one (.ptr 0 0))), (3, .t (.one (.ptr 1 0))), (4, .t (.one (.ptr 2 0))), (6, .t (.one (.ptr 3 0))), (9, (aY f M)), (80, (gQ f M)), (83, .t (.one (.ptr 0 1)))], [(bK f M), (aW f M), (bJ f M), (bO f M), (bN f M)], 91, [], LP.top⟩
def Bt (f : aj) (M : ah) : AS := ⟨[(2, .t (.one (.ptr 0 0))), (3, .t (.one (.ptr 1 0))), (4, .t (.one (.ptr 2 0))), (6, .t (.one (.ptr 3 0))), (9, (aY f M)), (78, .t (.one (.ptr 3 1))), (80, (gQ f M)), (83, .t (.one (.ptr 0 1)))], [(bK f M), (aW f M), (bJ f M), (bO f M), (bN f M)], 91, [], LP.top⟩
def CO (f : aj) (M : ah) : AS := ⟨[(2, .t (.one (.ptr 0 0))), (3, .t (.one (.ptr 1 0))), (4, .t (.one (.ptr 2 0))), (6, .t (.one (.ptr 3 0))), (9, (aY f M)), (79, (gT f M)), (80, (gQ f M)), (83, .t (.one (.ptr 0 1)))], [(bK f M), (aW f M), (bJ f M), (bO f M), (bN f M)], 91, [], LP.top⟩
def Ac (f : aj) (M : ah) : AS := ⟨[(2, .t (.one (.ptr 0 0))), (3, .t (.one (.ptr 1 0))), (4, .t (.one (.ptr 2 0))), (6, .t (.one (.ptr 3 0))), (9, (aY f M)), (81, .t (.one (.slc 8 0 1 7))), (83, .t (.one (.ptr 0 1)))], [(bK f M), (aW f M), (bJ f M), (bO f M), (bN f M), none, none, none, (aW f M)], 91, [], LP.top⟩
def Dk (f : aj) (M : ah) : AS := ⟨[(2, .t (.one (.ptr 0 0))), (3, .t (.one (.ptr 1 0))), (4, .t (.one (.ptr 2 0))), (6, .t (.one (.ptr 3 0))), (9, (aY f M)), (78, .t (.one (.ptr 3 1))), (81, .t (.one (.slc 8 0 1 7))), (83, .t (.one (.ptr 0 1)))], [(bK f M), (aW f M), (bJ f M), (bO f M), (bN f M), none, none, none, (aW f M)], 91, [], LP.top⟩
def Bl (f : aj) (M : ah) : AS := ⟨[(2, .t (.one (.ptr 0 0))), (3, .t (.one (.ptr 1 0))), (4, .t (.one (.ptr 2 0))), (6, .t (.one (.ptr 3 0))), (9, (aY f M)), (79, (gT f M)), (81, .t (.one (.slc 8 0 1 7))), (83, .t (.one (.ptr 0 1)))], [(bK f M), (aW f M), (bJ f M), (bO f M), (bN f M), none, none, none, (aW f M)], 91, [], LP.top⟩
def A9 (f : aj) (M : ah) : AS := ⟨[(2, .t (.one (.ptr 0 0))), (3, .t (.one (.ptr 1 0))), (4, .t (.one (.ptr 2 0))), (6, .t (.one (.ptr 3 0))), (9, (aY f M)), (82, (qw f M)), (83, .t (.one (.ptr 0 1)))], [(bK f M), (aW f M), (bJ f M), (nH f M), (nk f M), none, none, none, (aW f M)], 91, [], LP.top⟩
def Cb (f : aj) (M : ah) : AS := ⟨[(2, .t (.one (.ptr 0 0))), (3, .t (.one (.ptr 1 0))), (4, .t (.one (.ptr 2 0))), (6, .t (.one (.ptr 3 0))), (9, (aY f M)), (84, (fJ f M))], [(bK f M), (aW f M), (bJ f M), (bO f M), (bN f M)], 91, [], LP.top⟩
def Ca (f : aj) (M : ah) : AS := ⟨[(2, .t (.one (.ptr 0 0))), (3, .t (.one (.ptr 1 0))), (4, .t (.one (.ptr 2 0))), (6, .t (.one (.ptr 3 0))), (9, (aY f M)), (78, .t (.one (.ptr 3 1))), (84, (fJ f M))], [(bK f M), (aW f M), (bJ f M), (bO f M), (bN f M)], 91, [], LP.top⟩
def Dx (f : aj) (M : ah) : AS := ⟨[(2, .t (.one (.ptr 0 0))), (3, .t (.one (.ptr 1 0))), (4, .t (.one (.ptr 2 0))), (6, .t (.one (.ptr 3 0))), (9, (aY f M)), (79, (gT f M)), (84, (fJ f M))], [(bK f M), (aW f M), (bJ f M), (bO f M), (bN f M)], 91, [], LP.top⟩
def yu (f : aj) (M : ah) : AS := ⟨[(2, .t (.one (.ptr 0 0))), (3, .t (.one (.ptr 1 0))), (4, .t (.one (.ptr 2 0))), (6, .t (.one (.ptr 3 0))), (9, (aY f M)), (80, (gQ f M)), (84, (fJ f M))], [(bK f M), (aW f M), (bJ f M), (bO f M), (bN f M)], 91, [], LP.top⟩
def wo (f : aj) (M : ah) : AS := ⟨[(2, .t (.one (.ptr 0 0))), (3, .t (.one (.ptr 1 0))), (4, .t (.one (.ptr 2 0))), (6, .t (.one (.ptr 3 0))), (9, (aY f M)), (78, .t (.one (.ptr 3 1))), (80, (gQ f M)), (84, (fJ f M))], [(bK f M), (aW f M), (bJ f M), (bO f M), (bN f M)], 91, [], LP.top⟩
def vE (f : aj) (M : ah) : AS := ⟨[(2, .t (.one (.ptr 0 0))), (3, .t (.one (.ptr 1 0))), (4, .t (.one (.ptr 2 0))), (6, .t (.one (.ptr 3 0))), (9, (aY f M)), (79, (gT f M)), (80, (gQ f M)), (84, (fJ f M))], [(bK f M), (aW f M), (bJ f M), (bO f M), (bN f M)], 91, [], LP.top⟩
def vK (f : aj) (M : ah) : AS := ⟨[(2, .t (.one (.ptr 0 0))), (3, .t (.one (.ptr 1 0))), (4, .t (.one (.ptr 2 0))), (6, .t (.one (.ptr 3 0))), (9, (aY f M)), (81, .t (.one (.slc 8 0 1 7))), (84, (fJ f M))], [(bK f M), (aW f M), (bJ f M), (bO f M), (bN f M), none, none, none, (aW f M)], 91, [], LP.top⟩
def wC (f : aj) (M : ah) : AS := ⟨[(2, .t (.one (.ptr 0 0))), (3, .t (.one (.ptr 1 0))), (4, .t (.one (.ptr 2 0))), (6, .t (.one (.ptr 3 0))), (9, (aY f M)), (78, .t (.one (.ptr 3 1))), (81, .t (.one (.slc 8 0 1 7))), (84, (fJ f M))], [(bK f M), (aW f M), (bJ f M), (bO f M), (bN f M), none, none, none, (aW f M)], 91, [], LP.top⟩
def wu (f : aj) (M : ah) : AS := ⟨[(2, .t (.one (.ptr 0 0))), (3, .t (.one (.ptr 1 0))), (4, .t (.one (.ptr 2 0))), (6, .t (.one (.ptr 3 0))), (9, (aY f M)), (79, (gT f M)), (81, .t (.one (.slc 8 0 1 7))), (84, (fJ f M))], [(bK f M), (aW f M), (bJ f M), (bO f M), (bN f M), none, none, none, (aW f M)], 91, [], LP.top⟩
def wK (f : aj) (M : ah) : AS := ⟨[(2, .t (.one (.ptr 0 0))), (3, .t (.one (.ptr 1 0))), (4, .t (.one (.ptr 2 0))), (6, .t (.one (.ptr 3 0))), (9, (aY f M)), (82, (qw f M)), (84, (fJ f M))], [(bK f M), (aW f M), (bJ f M), (nH f M), (nk f M), none, none, none, (aW f M)], 91, [], LP.top⟩
def xI (f : aj) (M : ah) : AS := ⟨[(2, .t (.one (.ptr 0 0))), (3, .t (.one (.ptr 1 0))), (4, .t (.one (.ptr 2 0))), (6, .t (.one (.ptr 3 0))), (9, (aY f M)), (85, (aY f M))], [(bK f M), (aW f M), (bJ f M), (bO f M), (bN f M)], 91, [], LP.top⟩
def wQ (f : aj) (M : ah) : AS := ⟨[(2, .t (.one (.ptr 0 0))), (3, .t (.one (.ptr 1 0))), (4, .t (.one (.ptr 2 0))), (6, .t (.one (.ptr 3 0))), (9, (aY f M)), (78, .t (.one (.ptr 3 1))), (85, (aY f M))], [(bK f M), (aW f M), (bJ f M), (bO f M), (bN f M)], 91, [], LP.top⟩
def xX (f : aj) (M : ah) : AS := ⟨[(2, .t (.one (.ptr 0 0))), (3, .t (.one (.ptr 1 0))), (4, .t (.one (.ptr 2 0))), (6, .t (.one (.ptr 3 0))), (9, (aY f M)), (79, (gT f M)), (85, (aY f M))], [(bK f M), (aW f M), (bJ f M), (bO f M), (bN f M)], 91, [], LP.top⟩
def wP (f : aj) (M : ah) : AS := ⟨[(2, .t (.one (.ptr 0 0))), (3, .t (.one (.ptr 1 0))), (4, .t (.one (.ptr 2 0))), (6, .t (.one (.ptr 3 0))), (9, (aY f M)), (80, (gQ f M)), (85, (aY f M))], [(bK f M), (aW f M), (bJ f M), (bO f M), (bN f M)], 91, [], LP.top⟩
def wR (f : aj) (M : ah) : AS := ⟨[(2, .t (.one (.ptr 0 0))), (3, .t (.one (.ptr 1 0))), (4, .t (.one (.ptr 2 0))), (6, .t (.one (.ptr 3 0))), (9, (aY f M)), (78, .t (.one (.ptr 3 1))), (80, (gQ f M)), (85, (aY f M))], [(bK f M), (aW f M), (bJ f M), (bO f M), (bN f M)], 91, [], LP.top⟩
def wZ (f : aj) (M : ah) : AS := ⟨[(2, .t (.one (.ptr 0 0))), (3, .t (.one (.ptr 1 0))), (4, .t (.one (.ptr 2 0))), (6, .t (.one (.ptr 3 0))), (9, (aY f M)), (79, (gT f M)), (80, (gQ f M)), (85, (aY f M))], [(bK f M), (aW f M), (bJ f M), (bO f M), (bN f M)], 91, [], LP.top⟩
def yg (f : aj) (M : ah) : AS := ⟨[(2, .t (.one (.ptr 0 0))), (3, .t (.one (.ptr 1 0))), (4, .t (.one (.ptr 2 0))), (6, .t (.one (.ptr 3 0))), (9, (aY f M)), (81, .t (.one (.slc 8 0 1 7))), (85, (aY f M))], [(bK f M), (aW f M), (bJ f M), (bO f M), (bN f M), none, none, none, (aW f M)], 91, [], LP.top⟩
def wN (f : aj) (M : ah) : AS := ⟨[(2, .t (.one (.ptr 0 0))), (3, .t (.one (.ptr 1 0))), (4, .t (.one (.ptr 2 0))), (6, .t (.one (.ptr 3 0))), (9, (aY f M)), (78, .t (.one (.ptr 3 1))), (81, .t (.one (.slc 8 0 1 7))), (85, (aY f M))], [(bK f M), (aW f M), (bJ f M), (bO f M), (bN f M), none, none, none, (aW f M)], 91, [], LP.top⟩
def xW (f : aj) (M : ah) : AS := ⟨[(2, .t (.one (.ptr 0 0))), (3, .t (.one (.ptr 1 0))), (4, .t (.one (.ptr 2 0))), (6, .t (.one (.ptr 3 0))), (9, (aY f M)), (79, (gT f M)), (81, .t (.one (.slc 8 0 1 7))), (85, (aY f M))], [(bK f M), (aW f M), (bJ f M), (bO f M), (bN f M), none, none, none, (aW f M)], 91, [], LP.top⟩
def wT (f : aj) (M : ah) : AS := ⟨[(2, .t (.one (.ptr 0 0))), (3, .t (.one (.ptr 1 0))), (4, .t (.one (.ptr 2 0))), (6, .t (.one (.ptr 3 0))), (9, (aY f M)), (82, (qw f M)), (85, (aY f M))], [(bK f M), (aW f M), (bJ f M), (nH f M), (nk f M), none, none, none, (aW f M)], 91, [], LP.top⟩
def xJ (f : aj) (M : ah) : AS := ⟨[(2, .t (.one (.ptr 0 0))), (3, .t (.one (.ptr 1 0))), (4, .t (.one (.ptr 2 0))), (6, .t (.one (.ptr 3 0))), (9, (aY f M)), (83, .t (.one (.ptr 0 1))), (85, (aY f M))], [(bK f M), (aW f M), (bJ f M), (bO f M), (bN f M)], 91, [], LP.top⟩
def yc (f : aj) (M : ah) : AS := ⟨[(2, .t (.one (.ptr 0 0))), (3, .t (.one (.ptr 1 0))), (4, .t (.one (.ptr 2 0))), (6, .t (.one (.ptr 3 0))), (9, (aY f M)), (78, .t (.one (.ptr 3 1))), (83, .t (.one (.ptr 0 1))), (85, (aY f M))], [(bK f M), (aW f M), (bJ f M), (bO f M), (bN f M)], 91, [], LP.top⟩
def xP (f : aj) (M : ah) : AS := ⟨[(2, .t (.one (.ptr 0 0))), (3, .t (.one (.ptr 1 0))), (4, .t (.one (.ptr 2 0))), (6, .t (.one (.ptr 3 0))), (9, (aY f M)), (79, (gT f M)), (83, .t (.one (.ptr 0 1))), (85, (aY f M))], [(bK f M), (aW f M), (bJ f M), (bO f M), (bN f M)], 91, [], LP.top⟩
def xQ (f : aj) (M : ah) : AS := ⟨[(2, .t (.one (.ptr 0 0))), (3, .t (.one (.ptr 1 0))), (4, .t (.one (.ptr 2 0))), (6, .t (.one (.ptr 3 0))), (9, (aY f M)), (80, (gQ f M)), (83, .t (.one (.ptr 0 1))), (85, (aY f M))], [(bK f M), (aW f M), (bJ f M), (bO f M), (bN f M)], 91, [], LP.top⟩
def xw (f : aj) (M : ah) : AS := ⟨[(2, .t (.one (.ptr 0 0))), (3, .t (.one (.ptr 1 0))), (4, .t (.one (.ptr 2 0))), (6, .t (.one (.ptr 3 0))), (9, (aY f M)), (78, .t (.one (.ptr 3 1))), (80, (gQ f M)), (83, .t (.one (.ptr 0 1))), (85, (aY f M))], [(bK f M), (aW f M), (bJ f M), (bO f M), (bN f M)], 91, [], LP.top⟩
def xO (f : aj) (M : ah) : AS := ⟨[(2, .t (.one (.ptr 0 0))), (3, .t (.one (.ptr 1 0))), (4, .t (.one (.ptr 2 0))), (6, .t (.one (.ptr 3 0))), (9, (aY f M)), (79, (gT f M)), (80, (gQ f M)), (83, .t (.one (.ptr 0 1))), (85, (aY f M))], [(bK f M), (aW f M), (bJ f M), (bO f M), (bN f M)], 91, [], LP.top⟩
def wI (f : aj) (M : ah) : AS := ⟨[(2, .t (.one (.ptr 0 0))), (3, .t (.one (.ptr 1 0))), (4, .t (.one (.ptr 2 0))), (6, .t (.one (.ptr 3 0))), (9, (aY f M)), (81, .t (.one (.slc 8 0 1 7))), (83, .t (.one (.ptr 0 1))), (85, (aY f M))], [(bK f M), (aW f M), (bJ f M), (bO f M), (bN f M), none, none, none, (aW f M)], 91, [], LP.top⟩
def wO (f : aj) (M : ah) : AS := ⟨[(2, .t (.one (.ptr 0 0))), (3, .t (.one (.ptr 1 0))), (4, .t (.one (.ptr 2 0))), (6, .t (.one (.ptr 3 0))), (9, (aY f M)), (78, .t (.one (.ptr 3 1))), (81, .t (.one (.slc 8 0 1 7))), (83, .t (.one (.ptr 0 1))), (85, (aY f M))], [(bK f M), (aW f M), (bJ f M), (bO f M), (bN f M), none, none, none, (aW f M)], 91, [], LP.top⟩
def vT (f : aj) (M : ah) : AS := ⟨[(2, .t (.one (.ptr 0 0))), (3, .t (.one (.ptr 1 0))), (4, .t (.one (.ptr 2 0))), (6, .t (.one (.ptr 3 0))), (9, (aY f M)), (79, (gT f M)), (81, .t (.one (.slc 8 0 1 7))), (83, .t (.one (.ptr 0 1))), (85, (aY f M))], [(bK f M), (aW f M), (bJ f M), (bO f M), (bN f M), none, none, none, (aW f M)], 91, [], LP.top⟩
def wz (f : aj) (M : ah) : AS := ⟨[(2, .t (.one (.ptr 0 0))), (3, .t (.one (.ptr 1 0))), (4, .t (.one (.ptr 2 0))), (6, .t (.one (.ptr 3 0))), (9, (aY f M)), (82, (qw f M)), (83, .t (.one (.ptr 0 1))), (85, (aY f M))], [(bK f M), (aW f M), (bJ f M), (nH f M), (nk f M), none, none, none, (aW f M)], 91, [], LP.top⟩
def yh (f : aj) (M : ah) : AS := ⟨[(2, .t (.one (.ptr 0 0))), (3, .t (.one (.ptr 1 0))), (4, .t (.one (.ptr 2 0))), (6, .t (.one (.ptr 3 0))), (9, (aY f M)), (84, (fJ f M)), (85, (aY f M))], [(bK f M), (aW f M), (bJ f M), (bO f M), (bN f M)], 91, [], LP.top⟩
def wW (f : aj) (M : ah) : AS := ⟨[(2, .t (.one (.ptr 0 0))), (3, .t (.one (.ptr 1 0))), (4, .t (.one (.ptr 2 0))), (6, .t (.one (.ptr 3 0))), (9, (aY f M)), (78, .t (.one (.ptr 3 1))), (84, (fJ f M)), (85, (aY f M))], [(bK f M), (aW f M), (bJ f M), (bO f M), (bN f M)], 91, [], LP.top⟩
def vX (f : aj) (M : ah) : AS := ⟨[(2, .t (.one (.ptr 0 0))), (3, .t (.one (.ptr 1 0))), (4, .t (.one (.ptr 2 0))), (6, .t (.one (.ptr 3 0))), (9, (aY f M)), (79, (gT f M)), (84, (fJ f M)), (85, (aY f M))], [(bK f M), (aW f M), (bJ f M), (bO f M), (bN f M)], 91, [], LP.top⟩
def vD (f : aj) (M : ah) : AS := ⟨[(2, .t (.one (.ptr 0 0))), (3, .t (.one (.ptr 1 0))), (4, .t (.one (.ptr 2 0))), (6, .t (.one (.ptr 3 0))), (9, (aY f M)), (80, (gQ f M)), (84, (fJ f M)), (85, (aY f M))], [(bK f M), (aW f M), (bJ f M), (bO f M), (bN f M)], 91, [], LP.top⟩
def wF (f : aj) (M : ah) : AS := ⟨[(2, .t (.one (.ptr 0 0))), (3, .t (.one (.ptr 1 0))), (4, .t (.one (.ptr 2 0))), (6, .t (.one (.ptr 3 0))), (9, (aY f M)), (78, .t (.one (.ptr 3 1))), (80, (gQ f M)), (84, (fJ f M)), (85, (aY f M))], [(bK f M), (aW f M), (bJ f M), (bO f M), (bN f M)], 91, [], LP.top⟩
def wY (f : aj) (M : ah) : AS := ⟨[(2, .t (.one (.ptr 0 0))), (3, .t (.one (.ptr 1 0))), (4, .t (.one (.ptr 2 0))), (6, .t (.one (.ptr 3 0))), (9, (aY f M)), (79, (gT f M)), (80, (gQ f M)), (84, (fJ f M)), (85, (aY f M))], [(bK f M), (aW f M), (bJ f M), (bO f M), (bN f M)], 91, [], LP.top⟩
def xu (f : aj) (M : ah) : AS := ⟨[(2, .t (.one (.ptr 0 0))), (3, .t (.one (.ptr 1 0))), (4, .t (.one (.ptr 2 0))), (6, .t (.one (.ptr 3 0))), (9, (aY f M)), (81, .t (.one (.slc 8 0 1 7))), (84, (fJ f M)), (85, (aY f M))], [(bK f M), (aW f M), (bJ f M), (bO f M), (bN f M), none, none, none, (aW f M)], 91, [], LP.top⟩
def wH (f : aj) (M : ah) : AS := ⟨[(2, .t (.one (.ptr 0 0))), (3, .t (.one (.ptr 1 0))), (4, .t (.one (.ptr 2 0))), (6, .t (.one (.ptr 3 0))), (9, (aY f M)), (78, .t (.one (.ptr 3 1))), (81, .t (.one (.slc 8 0 1 7))), (84, (fJ f M)), (85, (aY f M))], [(bK f M), (aW f M), (bJ f M), (bO f M), (bN f M), none, none, none, (aW f M)], 91, [], LP.top⟩
def xC (f : aj) (M : ah) : AS := ⟨[(2, .t (.one (.ptr 0 0))), (3, .t (.one (.ptr 1 0))), (4, .t (.one (.ptr 2 0))), (6, .t (.one (.ptr 3 0))), (9, (aY f M)), (79, (gT f M)), (81, .t (.one (.slc 8 0 1 7))), (84, (fJ f M)), (85, (aY f M))], [(bK f M), (aW f M), (bJ f M), (bO f M), (bN f M), none, none, none, (aW f M)], 91, [], LP.top⟩
def vY (f : aj) (M : ah) : AS := ⟨[(2, .t (.one (.ptr 0 0))), (3, .t (.one (.ptr 1 0))), (4, .t (.one (.ptr 2 0))), (6, .t (.one (.ptr 3 0))), (9, (aY f M)), (82, (qw f M)), (84, (fJ f M)), (85, (aY f M))], [(bK f M), (aW f M), (bJ f M), (nH f M), (nk f M), none, none, none, (aW f M)], 91, [], LP.top⟩
def vG (f : aj) (M : ah) : AS := ⟨[(2, .t (.one (.ptr 0 0))), (3, .t (.one (.ptr 1 0))), (4, .t (.one (.ptr 2 0))), (6, .t (.one (.ptr 3 0))), (9, (aY f M)), (86, (jU f M))], [(bK f M), (aW f M), (bJ f M), (bO f M), (bN f M)], 91, [], LP.top⟩
def xZ (f : aj) (M : ah) : AS := ⟨[(2, .t (.one (.ptr 0 0))), (3, .t (.one (.ptr 1 0))), (4, .t (.one (.ptr 2 0))), (6, .t (.one (.ptr 3 0))), (9, (aY f M)), (78, .t (.one (.ptr 3 1))), (86, (jU f M))], [(bK f M), (aW f M), (bJ f M), (bO f M), (bN f M)], 91, [], LP.top⟩
def wM (f : aj) (M : ah) : AS := ⟨[(2, .t (.one (.ptr 0 0))), (3, .t (.one (.ptr 1 0))), (4, .t (.one (.ptr 2 0))), (6, .t (.one (.ptr 3 0))), (9, (aY f M)), (79, (gT f M)), (86, (jU f M))], [(bK f M), (aW f M), (bJ f M), (bO f M), (bN f M)], 91, [], LP.top⟩
def xK (f : aj) (M : ah) : AS := ⟨[(2, .t (.one (.ptr 0 0))), (3, .t (.one (.ptr 1 0))), (4, .t (.one (.ptr 2 0))), (6, .t (.one (.ptr 3 0))), (9, (aY f M)), (80, (gQ f M)), (86, (jU f M))], [(bK f M), (aW f M), (bJ f M), (bO f M), (bN f M)], 91, [], LP.top⟩
def vP (f : aj) (M : ah) : AS := ⟨[(2, .t (.one (.ptr 0 0))), (3, .t (.one (.ptr 1 0))), (4, .t (.one (.ptr 2 0))), (6, .t (.one (.ptr 3 0))), (9, (aY f M)), (78, .t (.one (.ptr 3 1))), (80, (gQ f M)), (86, (jU f M))], [(bK f M), (aW f M), (bJ f M), (bO f M), (bN f M)], 91, [], LP.top⟩
def wJ (f : aj) (M : ah) : AS := ⟨[(2, .t (.one (.ptr 0 0))), (3, .t (.one (.ptr 1 0))), (4, .t (.one (.ptr 2 0))), (6, .t (.one (.ptr 3 0))), (9, (aY f M)), (79, (gT f M)), (80, (gQ f M)), (86, (jU f M))], [(bK f M), (aW f M), (bJ f M), (bO f M), (bN f M)], 91, [], LP.top⟩
def xU (f : aj) (M : ah) : AS := ⟨[(2, .t (.one (.ptr 0 0))), (3, .t (.one (.ptr 1 0))), (4, .t (.one (.ptr 2 0))), (6, .t (.one (.ptr 3 0))), (9, (aY f M)), (81, .t (.one (.slc 8 0 1 7))), (86, (jU f M))], [(bK f M), (aW f M), (bJ f M), (bO f M), (bN f M), none, none, none, (aW f M)], 91, [], LP.top⟩
def wD (f : aj) (M : ah) : AS := ⟨[(2, .t (.one (.ptr 0 0))), (3, .t (.one (.ptr 1 0))), (4, .t (.one (.ptr 2 0))), (6, .t (.one (.ptr 3 0))), (9, (aY f M)), (78, .t (.one (.ptr 3 1))), (81, .t (.one (.slc 8 0 1 7))), (86, (jU f M))], [(bK f M), (aW f M), (bJ f M), (bO f M), (bN f M), none, none, none, (aW f M)], 91, [], LP.top⟩
def xG (f : aj) (M : ah) : AS := ⟨[(2, .t (.one (.ptr 0 0))), (3, .t (.one (.ptr 1 0))), (4, .t (.one (.ptr 2 0))), (6, .t (.one (.ptr 3 0))), (9, (aY f M)), (79, (gT f M)), (81, .t (.one (.slc 8 0 1 7))), (86, (jU f M))], [(bK f M), (aW f M), (bJ f M), (bO f M), (bN f M), none, none, none, (aW f M)], 91, [], LP.top⟩
def wX (f : aj) (M : ah) : AS := ⟨[(2, .t (.one (.ptr 0 0))), (3, .t (.one (.ptr 1 0))), (4, .t (.one (.ptr 2 0))), (6, .t (.one (.ptr 3 0))), (9, (aY f M)), (82, (qw f M)), (86, (jU f M))], [(bK f M), (aW f M), (bJ f M), (nH f M), (nk f M), none, none, none, (aW f M)], 91, [], LP.top⟩
def rU (f : aj) (M : ah) : AS := ⟨[(2, .t (.one (.ptr 0 0))), (3, .t (.one (.ptr 1 0))), (4, .t (.one (.ptr 2 0))), (6, .t (.one (.ptr 3 0))), (9, (aY f M)), (87, .t (.one (.slc 4 0 (f.n + 1) 7)))], [(bK f M), (aW f M), (bJ f M), (nH f M), some (iE (KE f M)), none, none, none, (aW f M)], 91, [], LP.top⟩
def sG (f : aj) (M : ah) : AS := ⟨[(2, .t (.one (.ptr 0 0))), (3, .t (.one (.ptr 1 0))), (4, .t (.one (.ptr 2 0))), (6, .t (.one (.ptr 3 0))), (9, (aY f M)), (87, .t (.one (.slc 4 0 (f.n + 1) 7))), (88, .t (.one (.ptr 3 1)))], [(bK f M), (aW f M), (bJ f M), (nH f M), some (iE (KE f M)), none, none, none, (aW f M)], 91, [], LP.top⟩
def rO (f : aj) (M : ah) : AS := ⟨[(4, .t (.one (.ptr 2 0))), (6, .t (.one (.ptr 3 0)))], [(bK f M), (aW f M), (bJ f M), some [.iv (.lst 13 f.k (jq f.S)), .slc 4 0 (f.n + 1) 7], some (iE (KE f M)), none, none, none, (aW f M)], 91, [], LP.top⟩
def cO (f : aj) (M : ah) (m : Nat) : AS := if m = 0 then zQ f M else if m = 1 then FT f M else if m = 3 then G9 f M else if m = 4 then FD f M else if m = 5 then Fu f M else if m = 7 then FR f M else if m = 12 then Ci f M else if m = 13 then Ab f M else if m = 15 then CJ f M else if m = 31 then Bf f M else if m = 32 then Ad f M else if m = 33 then Bc f M else if m = 35 then BP f M else if m = 36 then z8 f M else if m = 37 then Bt f M else if m = 39 then CO f M else if m = 44 then Ac f M else if m = 45 then Dk f M else if m = 47 then Bl f M else if m = 63 then A9 f M else if m = 96 then Cb f M else if m = 97 then Ca f M else if m = 99 then Dx f M else if m = 100 then yu f M else if m = 101 then wo f M else if m = 103 then vE f M else if m = 108 then vK f M else if m = 109 then wC f M else if m = 111 then wu f M else if m = 127 then wK f M else if m = 128 then xI f M else if m = 129 then wQ f M else if m = 131 then xX f M else if m = 132 then wP f M else if m = 133 then wR f M else if m = 135 then wZ f M else if m = 140 then yg f M else if m = 141 then wN f M else if m = 143 then xW f M else if m = 159 then wT f M else if m = 160 then xJ f M else if m = 161 then yc f M else if m = 163 then xP f M else if m = 164 then xQ f M else if m = 165 then xw f M else if m = 167 then xO f M else if m = 172 then wI f M else if m = 173 then wO f M else if m = 175 then vT f M else if m = 191 then wz f M else if m = 224 then yh f M else if m = 225 then wW f M else if m = 227 then vX f M else if m = 228 then vD f M else if m = 229 then wF f M else if m = 231 then wY f M else if m = 236 then xu f M else if m = 237 then wH f M else if m = 239 then xC f M else if m = 255 then vY f M else if m = 480 then vG f M else if m = 481 then xZ f M else if m = 483 then wM f M else if m = 484 then xK f M else if m = 485 then vP f M else if m = 487 then wJ f M else if m = 492 then xU f M else if m = 493 then wD f M else if m = 495 then xG f M else if m = 511 then wX f M else if m = 1023 then rU f M else if m = 2047 then sG f M else if m = 4095 then rO f M else zQ f M
theorem adq (f : aj) (M : ah) : cO f M 0 = zQ f M := rfl
theorem acQ (f : aj) (M : ah) : cO f M 1 = FT f M := rfl
theorem adK (f : aj) (M : ah) : cO f M 3 = G9 f M := rfl
theorem afi (f : aj) (M : ah) : cO f M 4 = FD f M := rfl
theorem abK (f : aj) (M : ah) : cO f M 5 = Fu f M := rfl
theorem aaK (f : aj) (M : ah) : cO f M 7 = FR f M := rfl
theorem TY (f : aj) (M : ah) : cO f M 12 = Ci f M := rfl
theorem VB (f : aj) (M : ah) : cO f M 13 = Ab f M := rfl
theorem aak (f : aj) (M : ah) : cO f M 15 = CJ f M := rfl
theorem Vp (f : aj) (M : ah) : cO f M 31 = Bf f M := rfl
theorem Y4 (f : aj) (M : ah) : cO f M 32 = Ad f M := rfl
theorem Ud (f : aj) (M : ah) : cO f M 33 = Bc f M := rfl
theorem ZX (f : aj) (M : ah) : cO f M 35 = BP f M := rfl
theorem VR (f : aj) (M : ah) : cO f M 36 = z8 f M := rfl
theorem Tv (f : aj) (M : ah) : cO f M 37 = Bt f M := rfl
theorem V3 (f : aj) (M : ah) : cO f M 39 = CO f M := rfl
theorem ZQ (f : aj) (M : ah) : cO f M 44 = Ac f M := rfl
theorem Xt (f : aj) (M : ah) : cO f M 45 = Dk f M := rfl
theorem U3 (f : aj) (M : ah) : cO f M 47 = Bl f M := rfl
theorem ZI (f : aj) (M : ah) : cO f M 63 = A9 f M := rfl
theorem Uk (f : aj) (M : ah) : cO f M 96 = Cb f M := rfl
theorem Xv (f : aj) (M : ah) : cO f M 97 = Ca f M := rfl
theorem Y9 (f : aj) (M : ah) : cO f M 99 = Dx f M := rfl
theorem P5 (f : aj) (M : ah) : cO f M 100 = yu f M := rfl
theorem PD (f : aj) (M : ah) : cO f M 101 = wo f M := rfl
theorem QK (f : aj) (M : ah) : cO f M 103 = vE f M := rfl
theorem Rw (f : aj) (M : ah) : cO f M 108 = vK f M := rfl
theorem QC (f : aj) (M : ah) : cO f M 109 = wC f M := rfl
theorem SK (f : aj) (M : ah) : cO f M 111 = wu f M := rfl
theorem Sz (f : aj) (M : ah) : cO f M 127 = wK f M := rfl
theorem Sv (f : aj) (M : ah) : cO f M 128 = xI f M := rfl
theorem Qh (f : aj) (M : ah) : cO f M 129 = wQ f M := rfl
theorem S9 (f : aj) (M : ah) : cO f M 131 = xX f M := rfl
theorem Ra (f : aj) (M : ah) : cO f M 132 = wP f M := rfl
theorem SN (f : aj) (M : ah) : cO f M 133 = wR f M := rfl
theorem PG (f : aj) (M : ah) : cO f M 135 = wZ f M := rfl
theorem QJ (f : aj) (M : ah) : cO f M 140 = yg f M := rfl
theorem RP (f : aj) (M : ah) : cO f M 141 = wN f M := rfl
theorem QS (f : aj) (M : ah) : cO f M 143 = xW f M := rfl
theorem Rz (f : aj) (M : ah) : cO f M 159 = wT f M := rfl
theorem RG (f : aj) (M : ah) : cO f M 160 = xJ f M := rfl
theorem Rk (f : aj) (M : ah) : cO f M 161 = yc f M := rfl
theorem Qg (f : aj) (M : ah) : cO f M 163 = xP f M := rfl
theorem Qy (f : aj) (M : ah) : cO f M 164 = xQ f M := rfl
theorem Rv (f : aj) (M : ah) : cO f M 165 = xw f M := rfl
theorem QV (f : aj) (M : ah) : cO f M 167 = xO f M := rfl
theorem Qq (f : aj) (M : ah) : cO f M 172 = wI f M := rfl
theorem Q8 (f : aj) (M : ah) : cO f M 173 = wO f M := rfl
theorem RY (f : aj) (M : ah) : cO f M 175 = vT f M := rfl
theorem RZ (f : aj) (M : ah) : cO f M 191 = wz f M := rfl
theorem P8 (f : aj) (M : ah) : cO f M 224 = yh f M := rfl
theorem Qs (f : aj) (M : ah) : cO f M 225 = wW f M := rfl
theorem RS (f : aj) (M : ah) : cO f M 227 = vX f M := rfl
theorem Sq (f : aj) (M : ah) : cO f M 228 = vD f M := rfl
theorem Rp (f : aj) (M : ah) : cO f M 229 = wF f M := rfl
theorem Sb (f : aj) (M : ah) : cO f M 231 = wY f M := rfl
theorem Sy (f : aj) (M : ah) : cO f M 236 = xu f M := rfl
theorem PK (f : aj) (M : ah) : cO f M 237 = wH f M := rfl
theorem Ql (f : aj) (M : ah) : cO f M 239 = xC f M := rfl
theorem QN (f : aj) (M : ah) : cO f M 255 = vY f M := rfl
theorem Py (f : aj) (M : ah) : cO f M 480 = vG f M := rfl
theorem Rq (f : aj) (M : ah) : cO f M 481 = xZ f M := rfl
theorem Rs (f : aj) (M : ah) : cO f M 483 = wM f M := rfl
theorem PZ (f : aj) (M : ah) : cO f M 484 = xK f M := rfl
theorem QU (f : aj) (M : ah) : cO f M 485 = vP f M := rfl
theorem RD (f : aj) (M : ah) : cO f M 487 = wJ f M := rfl
theorem QD (f : aj) (M : ah) : cO f M 492 = xU f M := rfl
theorem PE (f : aj) (M : ah) : cO f M 493 = wD f M := rfl
theorem SF (f : aj) (M : ah) : cO f M 495 = xG f M := rfl
theorem Qp (f : aj) (M : ah) : cO f M 511 = wX f M := rfl
theorem Md (f : aj) (M : ah) : cO f M 1023 = rU f M := rfl
theorem M8 (f : aj) (M : ah) : cO f M 2047 = sG f M := rfl
theorem LU (f : aj) (M : ah) : cO f M 4095 = rO f M := rfl
attribute [go_sem] aY bK aW bJ bO bN gT gQ qw nH nk fJ jU abt zQ adq adi FT acQ adx G9 adK ace FD afi adH Fu abK ad5 FR aaK TT Ci TY Z9 Ab VB Uo CJ aak Uv Bf Vp ZW Ad Y4 Vl Bc Ud XD BP ZX Uy z8 VR ZB Bt Tv Xu CO V3 VZ Ac ZQ TJ Dk Xt ZJ Bl U3 WO A9 ZI aae Cb Uk TK Ca Xv UQ Dx Y9 Q9 yu P5 Qu wo PD Sg vE QK Qf vK Rw SE wC QC Rn wu SK QM wK Sz PW xI Sv Si wQ Qh P7 xX S9 Pw wP Ra QI wR SN QY wZ PG PN yg QJ QO wN RP QW xW QS R7 wT Rz Qj xJ RG Ru yc Rk RX xP Qg PI xQ Qy Q6 xw Rv QL xO QV Sc wI Qq Sd wO Q8 QZ vT RY P9 wz RZ QE yh P8 PU wW Qs Rl vX RS QH vD Sq Q5 wF Rp SG wY Sb Rm xu Sy R6 wH PK Px xC Ql SL vY QN Qr vG Py QB xZ Rq Qd wM Rs SS xK PZ RB vP QU Rj wJ RD Qz xU QD Sn wD PE P6 xG SF Sw wX Qp Lb rU Md MJ sG M8 LY rO LU
end Go.Proofs.YtcfechepbamhkaaGreat
namespace Go.Proofs.YtcfechepbamhkaaGreat
open Go.RowKit Go.Sea
open Nat renaming reduceAdd -> xA, reduceLT -> xL, reduceLeDiff -> xD, reduceEqDiff -> xE, reduceMul -> xM, reduceSub -> xS, reduceBEq -> xB
def knB (n : Nat) (N : Nat -> ah) (ch x : Int) : Bool := (List.range n).any fun i => decide ((N i).nu = x) && kD (N i) ch
end Go.Proofs.YtcfechepbamhkaaGreat
namespace Go.Proofs.YtcfechepbamhkaaGreat
open Go.RowKit Go.Sea Go.Lib
theorem lG : Tryz.prog.underlying 23 = some (.slice 28) := by kernel_rfl
theorem afG : (Tryz.prog.info? 28).map (fun i => (i.size, i.bytes, i.zero.map (·.cells.size))) = some (7, 72, some 7) := by kernel_rfl
set_option maxHeartbeats 4000000 in
set_option maxRecDepth 100000 in
set_option maxHeartbeats 2000000 in
theorem Mv (cap : Nat) (w : World) : Calls Tryz.prog 43 #[.slice none 0 cap] w fun e w' => e = .returned (.slice none 0 0) /\ w' = w := by
  have q : (binOp .eql 23 (.slice none 0 cap) (.slice none 0 0)).run Tryz.prog w = .ok (.bool true) w := run_eql_slice_nil w 23 28 none 0 cap lG
  go_enter Tryz.func43, Tryz.ntmps43
  go_wp2
  go_ret
  exact ⟨rfl, rfl⟩
set_option maxHeartbeats 4000000 in
set_option maxRecDepth 100000 in
theorem yH (p : Addr) (n cap : Nat) (w w' : World) (u : Value) (h : ∀ ty, (Builtin.append_ #[23,23] ty #[.slice (some ⟨w.heap.size, 0, none⟩) 0 0, .slice (some p) n cap]).run Tryz.prog (w.alloc (.cells #[] 28)) = .ok u w') : Calls Tryz.prog 43 #[.slice (some p) n cap] w fun e w'' => e = .returned u /\ w'' = w' := by
  have q : (binOp .eql 23 (.slice (some p) n cap) (.slice none 0 0)).run Tryz.prog w = .ok (.bool false) w := run_eql_slice_nil w 23 28 (some p) n cap lG
  go_enter Tryz.func43, Tryz.ntmps43
  go_wp2_with (at_builtin; refine Lib.wpList_append_run _ rfl _ _ _ _ rfl _ _ rfl rfl _ _ (h _) ?_)
  all_goals (go_ret; exact ⟨rfl, rfl⟩)
set_option maxHeartbeats 2000000 in
theorem WC (n : Nat) (f : Nat -> Nat -> IV) (hn : n <= 1000) : l8 Tryz.prog 43 [.one (.iv (.lst 7 n f))] (eG f 7 n 0) (fun i => .t (.one (.slc i 0 n 7))) := by
  intro H i hH w0 Z0 J Z s a w vs R hs hv
  subst hs
  obtain ⟨vs⟩ := vs
  match vs, hv with
  | [v], ⟨hv, _⟩ =>
    have hv : Rd w Z v (.lst 7 n f) := hv
    have hlen : (eG f 7 n 0).length = n * 7 := gI f 7 n 0
    have empty : ∀ (p : Addr) (cap : Nat), n = 0 -> v = .slice (some p) 0 cap -> Calls Tryz.prog 43 #[v] w fun e w' => ∃ v J' Z', e = .returned v /\ Rel w0 Z0 J' Z' { s with heap := hset s.heap i (eG f 7 n 0) } a w' /\ bD w' J' Z' v (.t (.one (.slc i 0 n 7))) := fun p cap h0 ev => by
      subst h0; subst ev
      obtain ⟨ii, h33⟩ : ∃ ii, Tryz.prog.info? 28 = some ii := by
        have := afG
        cases h : Tryz.prog.info? 28 with
        | none => rw [h] at this; cases this
        | some i => exact ⟨i, rfl⟩
      refine (yH p 0 cap w _ _ fun ty => gX lG h33 _ _ 0 0 cap (Nat.le_refl _)).mono fun e w' ⟨he, hw⟩ => ?_
      subst hw
      have R1 := R.new (nid := i) (cs := []) (c := #[]) (e := 28) (H := hset s.heap i []) hH (aG _ _ _) (fun q hq => aK _ _ _ _ hq) (by simp [aU])
      exact ⟨_, _, _, he, R1, Or.inr ⟨w.heap.size, 0, #[], 28, rfl, by simp [gy], Nat.zero_le _, Nat.zero_le _, heap_alloc_new w _, by simp⟩⟩
    have hv0 := hv
    cases hv with
    | nil p cap =>
      cases p with
      | none =>
        refine (Mv cap w).mono fun e w' ⟨he, hw⟩ => ?_
        subst hw
        exact ⟨_, J, Z, he, R.pV (nid := i) hH (by rw [aG]; rfl) (fun q hq => aK _ _ _ _ hq), Or.inl ⟨rfl, rfl⟩⟩
      | some p => exact empty p cap rfl rfl
    | lst b off _ cap _ _ X hz hc hm h1 h2 =>
      by_cases h0 : n = 0
      · exact empty ⟨b, off, none⟩ cap h0 (by rw [h0])
      · obtain ⟨hR1, G⟩ := R.call (mX w (.cells #[] 28))
        have hv1 : cu (w.alloc (.cells #[] 28)) J (fun b => Z b \/ (w.heap.size <= b /\ b < (w.alloc (.cells #[] 28)).heap.size)) (.slice (some ⟨b, off, none⟩) n cap) (.one (.iv (.lst 7 n f))) := bM.grow G (CV.bZ (.iv (.lst 7 n f))) hv0
        obtain ⟨ii, z, t1, t2, t3, t4, t5, t6, t7⟩ := gY (P := Tryz.prog) (t := 23) (e := 28) (n := 7) (b := 72) (by kernel_rfl)
        rcases ko hR1 (size := 7) (m := n) (nd := True) (x := .one (.iv (.lst 7 n f))) (ns := eG f 7 n 0) (by simp [x9]) trivial hv1 with ⟨h, _⟩ | ⟨hpos, b2, off2, cap2, news, e2, n1, n2, n3, n4⟩
        · exact absurd h h0
        · cases e2
          have hrun := fun ty => run_append_grow (P := Tryz.prog) (w.alloc (.cells #[] 28)) 23 ty 28 ii z t1 t2 t3 ⟨w.heap.size, 0, none⟩ 0 0 [] (by simp) (fun j v h => by simp at h) ⟨b, off, none⟩ n cap news (by rw [n1, t5]) n2 (by omega) (by omega) (by
            rw [t6]; exact growslice_fits (by omega) (by omega))
          simp only [Nat.zero_add] at hrun
          have hsz := grownCap_ge (w.alloc (.cells #[] 28)) n 0 28
          have hmx := grownCap_le_maxLen (w.alloc (.cells #[] 28)) n 0 28 (by unfold maxLen; omega)
          generalize grownCap (w.alloc (.cells #[] 28)) n 0 28 = G at hrun hsz hmx
          have hC : G * 7 <= (([] : List Value).toArray ++ news.toArray ++ Builtin.zeroCells z.cells (G - n)).size := by
            simp only [Array.size_append, size_zeroCells, t4, List.size_toArray, n1, List.length_nil]
            omega
          have hD : aU (bM (w.alloc (.cells #[] 28)) J (fun b => Z b \/ (w.heap.size <= b /\ b < (w.alloc (.cells #[] 28)).heap.size))) ((([] : List Value).toArray ++ news.toArray ++ Builtin.zeroCells z.cells (G - n)).toList.take (eG f 7 n 0).length) (eG f 7 n 0) := by
            rw [Array.toList_append, Array.toList_append, List.nil_append, List.take_append_of_le_length (by simp; omega), List.take_of_length_le (by simp; omega)]
            exact n4
          generalize ([] : List Value).toArray ++ news.toArray ++ Builtin.zeroCells z.cells (G - n) = C at hrun hC hD
          have cl := yH ⟨b, off, none⟩ n cap w _ _ hrun
          have R2 := (hR1.drew).new (nid := i) (cs := eG f 7 n 0) (c := C) (e := 28) (H := hset s.heap i (eG f 7 n 0)) hH (aG _ _ _) (fun q hq => aK _ _ _ _ hq) (lX hD)
          have hA := heap_alloc_new (w.alloc (.cells #[] 28)).drew (.cells C 28)
          generalize hw1 : w.alloc (.cells #[] 28) = w1 at cl R2 hA
          refine cl.mono fun e w' ⟨he, hw⟩ => ?_
          subst hw
          exact ⟨_, _, _, he, R2, Or.inr ⟨_, _, _, 28, rfl, by simp [gy], hsz, hmx, hA, by rw [Nat.zero_add]; exact hC⟩⟩
end Go.Proofs.YtcfechepbamhkaaGreat
set_option maxRecDepth 100000
namespace Go.Sea
open Go.RowKit Go.Sea
def am2 (P : Program) (o : Oper) (s s' : AS) : Prop := o.guard = none /\ ((∀ c, o.op ≠ .defer c) -> ∀ (w0 : World) (Z0 : Fr) (a : Act) (w : World) (K : Act -> World -> Prop) (Q : Exit -> Act -> World -> Prop) (n : Nat), mJ w0 Z0 s a w -> (∀ a' w', mJ w0 Z0 s' a' w' -> K a' w') -> o.wpIn (fo Z0.ro) n P a w K Q)
def Te (P : Program) : Option Oper -> AS -> AS -> Prop
  | some o, s, s' => am2 P o s s'
  | none, _, _ => False
def Ll (P : Program) (os : List Oper) (G : Nat -> AS) : List (Nat × Nat × Nat) -> Prop
  | [] => True
  | (m, i, m') :: r => Te P (kF os i) (G m) (G m') /\ Ll P os G r
theorem Sm {P : Program} {os : List Oper} {G : Nat -> AS} : Ll P os G [] := trivial
theorem KS {P : Program} {os : List Oper} {G : Nat -> AS} {m i m' : Nat} {r : List (Nat × Nat × Nat)} (h : Te P (kF os i) (G m) (G m')) (h2 : Ll P os G r) : Ll P os G ((m, i, m') :: r) := ⟨h, h2⟩
theorem Ov {P : Program} {os : List Oper} {G : Nat -> AS} {m i m' : Nat} : ∀ {Es : List (Nat × Nat × Nat)}, (m, i, m') ∈ Es -> Ll P os G Es -> Te P (kF os i) (G m) (G m')
  | (_, _, _) :: r, h, hr => by
    rcases List.mem_cons.1 h with e | h
    · cases e; exact hr.1
    · exact Ov h hr.2
theorem ahL {P : Program} {os : List Oper} {n0 i : Nat} {L : List Nat} {s s' : AS} (h : ∀ K : AS -> Prop, (∀ s2 : AS, Leaf ⟨bI s2.env L, s2.heap, s2.N, s2.gh, s2.lp⟩ s' -> K s2) -> Ml P n0 i s K (kF os i)) : Te P (kF os i) s s' := by
  have hop := h _ fun _ h => h
  cases ho : kF os i with
  | none => rw [ho] at hop; exact hop.elim
  | some o =>
    rw [ho] at hop
    obtain ⟨hg, hop⟩ := hop
    refine ⟨hg, fun hdo w0 Z0 a w K Q n R' hK => ?_⟩
    split at hop
    · rename_i nd v ef hof
      obtain ⟨hh, hdst, hnd, hrun⟩ := hop
      obtain ⟨J, Z, R'⟩ := R'
      exact d9 (dW _) hdo (qD (lW R' hh hof hnd) fun J' w' u R'' hr' => hK _ _ (tK hrun ⟨J', Z, R''.put (fun k e => by rw [Ep]; exact dO hdst k e) hr'⟩))
    · exact hop.elim
def OL (P : Program) (s : AS) (K : AS -> Prop) : Option Oper -> Prop
  | some o => o.guard = none /\ gM s o.dst /\ kJ P [] o [] s K
  | none => False
theorem LZ (P : Program) (s : AS) (K : AS -> Prop) (o : Oper) : OL P s K (some o) = (o.guard = none /\ gM s o.dst /\ kJ P [] o [] s K) := rfl
theorem Vs {P : Program} {os : List Oper} {i : Nat} {L : List Nat} {s s' : AS} (h : ∀ K : AS -> Prop, (∀ s2 : AS, Leaf ⟨bI s2.env L, s2.heap, s2.N, s2.gh, s2.lp⟩ s' -> K s2) -> OL P s K (kF os i)) : Te P (kF os i) s s' := by
  have hop := h _ fun _ h => h
  cases ho : kF os i with
  | none => rw [ho] at hop; exact hop.elim
  | some o =>
    rw [ho] at hop
    obtain ⟨hg, hd, hop⟩ := hop
    refine ⟨hg, fun hdo w0 Z0 a w K Q n R' hK => ?_⟩
    obtain ⟨J, Z, R'⟩ := R'
    refine iU (K := fun s2 => Leaf ⟨bI s2.env L, s2.heap, s2.N, s2.gh, s2.lp⟩ s') R' hd ?_ fun s2 a' w' R2 hk => hK _ _ (tK hk R2)
    exact hop
theorem abp {P : Program} {os : List Oper} {n0 : Nat} {L : Nat -> List Nat} {G : Nat -> AS} {m i m' : Nat} (h : ∀ K : AS -> Prop, (∀ s2 : AS, Leaf ⟨bI s2.env (L m'), s2.heap, s2.N, s2.gh, s2.lp⟩ (G m') -> K s2) -> Ml P n0 i (G m) K (kF os i)) : Te P (kF os i) (G m) (G m') := ahL h
theorem SC {P : Program} {os : List Oper} {L : Nat -> List Nat} {G : Nat -> AS} {m i m' : Nat} (h : ∀ K : AS -> Prop, (∀ s2 : AS, Leaf ⟨bI s2.env (L m'), s2.heap, s2.N, s2.gh, s2.lp⟩ (G m') -> K s2) -> OL P (G m) K (kF os i)) : Te P (kF os i) (G m) (G m') := Vs h
attribute [go_sem] LZ
theorem KZ {P : Program} {s : AS} {Q : Exit -> AS -> Prop} {id : Nat} {ops : Array Oper} (mf : Nat) (Ms : List Nat) (Es : List (Nat × Nat × Nat)) (L : List Nat) (G : Nat -> AS) (hm : P.follows .mixedOrders = true) (hback : pY .any ops = true) (hd : iX ops = true) (hc : (amN ops Ms Es && aou ops Ms mf) = true)
    (h0 : Leaf ⟨bI s.env L, s.heap, s.N, s.gh, s.lp⟩ (G 0)) (h : Ll P ops.toList G Es) (hq : Q .normal (G mf)) : AW P (.region id ops true) s Q := fun w0 Z0 a w n R => by
  simp only [amN, Bool.and_eq_true] at hc
  refine oJ (dW _) (fun _ D a w => ∃ m, m ∈ Ms /\ (∀ k, D k = true ↔ m.testBit k = true) /\ mJ w0 Z0 (G m) a w) hm hd hback ?_ ?_ fun D a w hD ⟨m, hmm, hDm, R'⟩ => ?_
  · obtain ⟨J, Z, R⟩ := tK h0 R
    exact ⟨0, by simpa using hc.1.1, fun k => by simp, J, Z, R.drew⟩
  · refine kE.of ops.toList 0 fun i o ho D a w ⟨m, hmm, hDm, R'⟩ hDi hpre hcl K hK => ?_
    rw [Nat.zero_add] at hDi
    simp only [Nat.zero_add] at hK
    have hoi : ops[i]? = some o := by rw [<- Array.getElem?_toList]; exact ho
    have hi : i < ops.size := (Array.getElem?_eq_some_iff.1 hoi).1
    have hid : m.testBit i = false := by
      cases hh : m.testBit i with
      | false => rfl
      | true => have := (hDm i).2 hh; rw [hDi] at this; cases this
    have hrdy : aja ops m i = true := by
      unfold aja
      rw [hid, hoi]
      simp only [Bool.not_false, Bool.true_and]
      refine List.all_eq_true.2 fun e he => ?_
      have := List.all_eq_true.1 hpre e he
      cases hb : Region.binds .any e with
      | false => rfl
      | true =>
        rw [hb] at this
        simp only [Bool.not_true, Bool.false_or] at this ⊢
        exact (hDm e.on).1 this
    have hE := List.all_eq_true.1 (List.all_eq_true.1 hc.1.2 m hmm) i (List.mem_range.2 hi)
    rw [hrdy] at hE
    simp only [Bool.not_true, Bool.false_or, Bool.and_eq_true, List.contains_iff_mem] at hE
    have hop := Ov hE.1 h
    rw [Jr, Array.getElem?_toList, hoi] at hop
    obtain ⟨hg, hop⟩ := hop
    have hw : Region.wanted o (yielded ops a.tmps) = true := by simp [Region.wanted, hg]
    rw [if_pos hw]
    refine hop (sO hd hoi) w0 Z0 a w _ _ _ R' fun a' w' R2 => hK _ _ ⟨m ||| 2 ^ i, hE.2, fun k => ?_, R2⟩
    rw [Nat.testBit_or, Nat.testBit_two_pow]
    by_cases hk : k = i
    · subst hk; simp [upd]
    · rw [upd_ne D hk, decide_eq_false (fun e => hk e.symm), Bool.or_false]; exact hDm k
  · have hf := List.all_eq_true.1 hc.2 m hmm
    simp only [Bool.or_eq_true, beq_iff_eq] at hf
    rcases hf with hf | rfl
    · obtain ⟨i, h1, h2⟩ := List.any_eq_true.1 hf
      have := (hDm i).1 (hD i (List.mem_range.1 h1))
      rw [this] at h2; cases h2
    · exact ⟨G m, R', hq⟩
end Go.Sea
namespace Go.Proofs.YtcfechepbamhkaaGreat
open Go.RowKit Go.Sea Go.Lib
theorem qR {P : Program} (E : Nat) (w : World) (dT sT ty elem : TypeId) (g o dLen dCap : Nat) (a : Addr) (sLen sCap : Nat) (cur : Array Value) (t : TypeId) (cs : List Value)
    (hu : P.underlying dT = some (.slice elem)) (hs : (P.info? elem).map (·.size) = some E) (hg : w.heap[g]? = some (.cells cur t (0, 0))) (hn : cs.length = Nat.min sLen dLen * E)
    (hsrc : ∀ j v, cs[j]? = some v -> w.cell? (a.add j) = some v) (hfit : o + cs.length <= cur.size) (h1 : ∀ v ∈ cs, v.oneCell' = true) :
    (Builtin.copy_ #[dT, sT] ty #[.slice (some ⟨g, o, none⟩) dLen dCap, .slice (some a) sLen sCap]).run P w = .ok (goInt (Nat.min sLen dLen)) (w.setRow g (cur.toList.take o ++ cs ++ cur.toList.drop (o + cs.length)).toArray) := by
  have hl := run_loadCells_list (P := P) w a cs hsrc
  have hst := run_storeCells_at P g o t cs 0 cur w hg (by simpa using hfit) h1
  cases hq : P.info? elem with
  | none => simp [hq] at hs
  | some i =>
    have hi : i.size = E := by simpa [hq] using hs
    simp [Builtin.copy_, run_underlying hu, Builtin.lenOf, Builtin.firstCells, sizeOf, typeInfo, hq, hi, <- hn, hl, hst]
theorem Pb : ∃ i z, Tryz.prog.info? 28 = some i /\ i.zero = some z /\ i.size = 7 /\ i.bytes = 72 /\ z.cells.size = 7 := by
  have h := afG
  cases hi : Tryz.prog.info? 28 with
  | none => rw [hi] at h; cases h
  | some i =>
    rw [hi] at h
    simp only [Option.map_some, Option.some.injEq, Prod.mk.injEq] at h
    cases hz : i.zero with
    | none => rw [hz] at h; simp at h
    | some z => rw [hz] at h; exact ⟨i, z, rfl, hz, h.1, h.2.1, by simpa using h.2.2⟩
theorem Ng : (Tryz.prog.info? 28).map (·.size) = some 7 := by
  obtain ⟨i, z, h, _, hs, _⟩ := Pb
  rw [h]; simp [hs]
theorem qW {l : List Value} {cs : List Value} {o k : Nat} (h : o + cs.length <= l.length) : (l.take o ++ cs ++ l.drop (o + cs.length))[k]? = if o <= k /\ k < o + cs.length then cs[k - o]? else l[k]? := by
  by_cases h1 : k < o
  · rw [if_neg (by omega), List.append_assoc, List.getElem?_append_left (by simp; omega), List.getElem?_take, if_pos h1]
  · by_cases h2 : k < o + cs.length
    · rw [if_pos (by omega), List.append_assoc, List.getElem?_append_right (by simp; omega), List.getElem?_append_left (by simp; omega)]
      congr 1; simp; omega
    · rw [if_neg (by omega), List.getElem?_append_right (by simp; omega), List.getElem?_drop]
      congr 1; simp; omega
theorem OZ {cs vs c c1 c2 : List Value} {m n p : Nat} (hc : cs.length = n) (hv : vs.length = m) (hp : p <= n) (h1 : c.length = c1.length) (h2 : c1.length = c2.length) (hn : n + m <= c2.length) (h : ∀ k, k < p -> c[k]? = cs[k]?)
    (e1 : ∀ k, c1[k]? = if p + m <= k /\ k < p + m + (n - p) then (cs.drop p)[k - (p + m)]? else c[k]?) (e2 : ∀ k, c2[k]? = if p <= k /\ k < p + m then vs[k - p]? else c1[k]?) : c2.take (n + m) = cs.take p ++ vs ++ cs.drop p := by
  refine List.ext_getElem? fun k => ?_
  rw [List.getElem?_take]
  by_cases hk : k < n + m
  · rw [if_pos hk, e2, List.append_assoc]
    by_cases k1 : k < p
    · rw [if_neg (by omega), e1, if_neg (by omega), h k k1, List.getElem?_append_left (by simp; omega), List.getElem?_take, if_pos k1]
    · by_cases k2 : k < p + m
      · rw [if_pos (by omega), List.getElem?_append_right (by simp; omega), List.getElem?_append_left (by simp; omega)]
        congr 1; simp; omega
      · rw [if_neg (by omega), e1, if_pos (by omega), List.getElem?_append_right (by simp; omega), List.getElem?_append_right (by simp; omega)]
        congr 1; simp; omega
  · rw [if_neg hk, List.getElem?_eq_none (by simp; omega)]
theorem Zf {cs vs c c1 c2 : List Value} {m n p : Nat} (hc : cs.length = n) (hv : vs.length = m) (hp : p <= n) (h1 : c.length = c1.length) (h2 : c1.length = c2.length) (hn : n + m <= c2.length) (h : ∀ k, k < p -> c[k]? = cs[k]?)
    (e1 : ∀ k, c1[k]? = if p <= k /\ k < p + m then vs[k - p]? else c[k]?) (e2 : ∀ k, c2[k]? = if p + m <= k /\ k < p + m + (n - p) then (cs.drop p)[k - (p + m)]? else c1[k]?) : c2.take (n + m) = cs.take p ++ vs ++ cs.drop p := by
  refine OZ (c1 := (c.take (p + m) ++ cs.drop p ++ c.drop (p + m + (n - p)))) hc hv hp (by simp; omega) (by simp; omega) hn h (fun k => ?_) (fun k => ?_)
  · have := qW (l := c) (cs := cs.drop p) (o := p + m) (k := k) (by simp; omega)
    simp only [List.length_drop, hc] at this
    exact this
  · have := qW (l := c) (cs := cs.drop p) (o := p + m) (k := k) (by simp; omega)
    simp only [List.length_drop, hc] at this
    rw [e2, e1, this]
    by_cases k1 : p <= k /\ k < p + m
    · rw [if_neg (by omega), if_pos k1, if_pos k1]
    · rw [if_neg k1, if_neg k1]
theorem Kj {w : World} {b : Nat} {c : Array Value} {e : TypeId} {k : Nat} (hb : w.heap[b]? = some (.cells c e (0, 0))) : w.cell? ⟨b, k, none⟩ = c[k]? := cell_of_row w b k c e _ hb
set_option maxHeartbeats 4000000 in
set_option maxRecDepth 100000 in
theorem MW (b n cap i vb vc : Nat) (c V : Array Value) (e eV : TypeId) (w : World) (hi : i < n) (hroom : n + 1 <= cap) (hc63 : cap <= 9223372036854775807) (hvb : vb ≠ b)
    (hb : w.heap[b]? = some (.cells c e (0, 0))) (hv : w.heap[vb]? = some (.cells V eV (0, 0))) (hcs : cap * 7 <= c.size) (hVs : 7 <= V.size) (h1 : ∀ v ∈ c.toList.take (n * 7), v.oneCell' = true) (h1v : ∀ v ∈ V.toList.take 7, v.oneCell' = true) :
    Calls Tryz.prog 42 #[.slice (some ⟨b, 0, none⟩) n cap, .int .i64 i, .slice (some ⟨vb, 0, none⟩) 1 vc] w fun x w' =>
      x = .returned (.slice (some ⟨b, 0, none⟩) (n + 1) cap) /\ ∃ C : Array Value, w' = w.drew.setRow b C /\ C.size = c.size /\ C.toList.take (n * 7 + 7) = (c.toList.take (n * 7)).take (i * 7) ++ V.toList.take 7 ++ (c.toList.take (n * 7)).drop (i * 7) := by
  have u0 := run_underlying lG
  have hz2 : ¬ ((i : Int) = (n : Int)) := by omega
  have mixed : Tryz.prog.follows .mixedOrders = true := by kernel_rfl
  have hov : ∀ o lb cb, (callFunc 86 #[.slice (some ⟨vb, 0, none⟩) 1 vc, .slice (some ⟨b, o, none⟩) lb cb]).run Tryz.prog w = .ok (.value (.bool false)) w := fun o lb cb => by
    rw [run_callFunc_extern Tryz.func86 (by kernel_rfl) (by kernel_rfl) (by kernel_rfl) (e := Extern.SlicesOverlaps.overlaps #[23, 23] #[4]) (by kernel_rfl),
      Lib.run_overlaps_apart w 23 4 28 lG 7 (fun w => by obtain ⟨ii, z, h, _, hs, _⟩ := Pb; simp [Go.sizeOf, typeInfo, h, hs]) ⟨vb, 0, none⟩ ⟨b, o, none⟩ 1 vc lb cb hvb eV e V.size c.size (by simp [World.shape?, hv]) (by simp [World.shape?, hb]) (by omega) (by simp [World.frozen?, hv]) (by simp [World.frozen?, hv])]
    rfl
  obtain ⟨cs, hcsd⟩ : ∃ cs, cs = c.toList.take (n * 7) := ⟨_, rfl⟩
  have hcl : cs.length = n * 7 := by rw [hcsd]; simp; omega
  obtain ⟨C1, hC1⟩ : ∃ C1 : Array Value, C1 = (c.toList.take (i * 7 + 7) ++ cs.drop (i * 7) ++ c.toList.drop (i * 7 + 7 + (cs.drop (i * 7)).length)).toArray := ⟨_, rfl⟩
  have hC1s : C1.size = c.size := by rw [hC1]; simp [hcl]; omega
  obtain ⟨C2, hC2⟩ : ∃ C2 : Array Value, C2 = (C1.toList.take (i * 7) ++ V.toList.take 7 ++ C1.toList.drop (i * 7 + (V.toList.take 7).length)).toArray := ⟨_, rfl⟩
  have hVl : (V.toList.take 7).length = 7 := by simp; omega
  have hC2s : C2.size = c.size := by rw [hC2]; simp; omega
  have hdb : w.drew.heap[b]? = some (.cells c e (0, 0)) := hb
  have hcp1 : ∀ ty o1 o2 dl dc sl sc, o1 = i * 7 + 7 -> o2 = i * 7 -> (dl = n - i /\ n - i <= sl) -> (Builtin.copy_ #[23, 23] ty #[.slice (some ⟨b, o1, none⟩) dl dc, .slice (some ⟨b, o2, none⟩) sl sc]).run Tryz.prog w.drew = .ok (goInt ((n - i : Nat) : Int)) (w.drew.setRow b C1) := fun ty o1 o2 dl dc sl sc h1' h2' h4' => by
    subst h1'; subst h2'
    have h3' : Nat.min sl dl = n - i := by rw [<- h4'.1]; exact Nat.min_eq_right (by omega)
    have := qR (P := Tryz.prog) 7 w.drew 23 23 ty 28 b (i * 7 + 7) dl dc ⟨b, i * 7, none⟩ sl sc c e (cs.drop (i * 7)) lG Ng hdb (by rw [h3', List.length_drop, hcl]; omega) (fun j v hj => by
      rw [Addr.add_lit, Kj hdb]
      rw [List.getElem?_drop, hcsd, List.getElem?_take] at hj
      split at hj
      · rw [<- Array.getElem?_toList]; exact hj
      · cases hj) (by rw [List.length_drop, hcl]; omega) (fun v hv => h1 v (by rw [<- hcsd]; exact List.mem_of_mem_drop hv))
    rw [h3'] at this
    rw [this, hC1]
  have hcp2 : ∀ (W : World), W.heap = (w.drew.setRow b C1).heap -> ∀ ty o1 dl dc, o1 = i * 7 -> 1 <= dl -> (Builtin.copy_ #[23, 23] ty #[.slice (some ⟨b, o1, none⟩) dl dc, .slice (some ⟨vb, 0, none⟩) 1 vc]).run Tryz.prog W = .ok (goInt ((1 : Nat) : Int)) (W.setRow b C2) := fun W hW ty o1 dl dc h1' h4' => by
    subst h1'
    have h3' : Nat.min 1 dl = 1 := Nat.min_eq_left h4'
    have hWb : W.heap[b]? = some (.cells C1 e (0, 0)) := by rw [hW]; exact setRow_heap w.drew b c C1 e (0, 0) hdb
    have hWv : W.heap[vb]? = some (.cells V eV (0, 0)) := by rw [hW, setRow_other w.drew b vb C1 hvb]; exact hv
    have := qR (P := Tryz.prog) 7 W 23 23 ty 28 b (i * 7) dl dc ⟨vb, 0, none⟩ 1 vc C1 e (V.toList.take 7) lG Ng hWb (by rw [h3', hVl]) (fun j v hj => by
      rw [Addr.add_lit, Kj hWv, Nat.zero_add]
      rw [List.getElem?_take] at hj
      split at hj
      · rw [<- Array.getElem?_toList]; exact hj
      · cases hj) (by rw [hVl]; omega) h1v
    rw [h3'] at this
    rw [this, hC2]
  have hw1 : IntKind.i64.wrap ((i : Int) + 1) = (i : Int) + 1 := by rw [IntKind.wrap_i64]; omega
  have hw2 : IntKind.i64.wrap ((n : Int) + 1) = (n : Int) + 1 := by rw [IntKind.wrap_i64]; omega
  have hin : i <= n := by omega
  have htn : ((i : Int) + 1).toNat = i + 1 := by omega
  have htm : ((n : Int) + 1).toNat = n + 1 := by omega
  have hb2 : ¬ (cap = i + 1) := by omega
  have hb4 : ¬ (cap = i) := by omega
  have hb3 : (i : Int) <= (n : Int) + 1 := by omega
  have hb1 : (0 : Int) <= (i : Int) + 1 := by omega
  have fin : ∃ C : Array Value, w.drew.setRow b C2 = w.drew.setRow b C /\ C.size = c.size /\ C.toList.take (n * 7 + 7) = cs.take (i * 7) ++ V.toList.take 7 ++ cs.drop (i * 7) := by
    refine ⟨C2, rfl, hC2s, OZ (c := c.toList) (c1 := C1.toList) hcl hVl (by omega) (by simp [hC1s]) (by simp [hC1s, hC2s]) (by simp [hC2s]; omega) (fun k hk => by rw [hcsd, List.getElem?_take, if_pos (by omega)]) (fun k => ?_) (fun k => ?_)⟩
    · have := qW (l := c.toList) (cs := cs.drop (i * 7)) (o := i * 7 + 7) (k := k) (by simp [hcl]; omega)
      rw [hC1, this, List.length_drop, hcl]
    · have := qW (l := C1.toList) (cs := V.toList.take 7) (o := i * 7) (k := k) (by simp [hC1s]; omega)
      rw [hC2, this, hVl]
  rw [<- hcsd]
  clear hC1 hC2 hcsd hC1s hC2s
  go_enter Tryz.func42, Tryz.ntmps42
  go_wp2_with (simp only [hov])
  go_region_law_o (refine step_copy_runI rfl _ _ 23 23 rfl (.slice (some ⟨b, (i + 1) * 7, none⟩) (n - i) (cap - (i + 1))) (.slice (some ⟨b, i * 7, none⟩) (n + 1 - i) (cap - i)) (by simp [Act.eval, Act.put]) (by simp [Act.eval, Act.put]) (hcp1 3 ((i + 1) * 7) (i * 7) (n - i) (cap - (i + 1)) (n + 1 - i) (cap - i) (by omega) rfl ⟨rfl, by omega⟩) ?_)
  go_wp2_with (refine wpList_copy_runI _ rfl _ _ 23 23 rfl (.slice (some ⟨b, i * 7, none⟩) (n + 1 - i) (cap - i)) (.slice (some ⟨vb, 0, none⟩) 1 vc) rfl rfl (hcp2 _ rfl 3 (i * 7) (n + 1 - i) (cap - i) rfl (by omega)) ?_)
  go_ret
  exact ⟨rfl, by rw [setRow_setRow]; exact fin⟩
set_option maxHeartbeats 4000000 in
set_option maxRecDepth 100000 in
theorem JA (b : Addr) (n cap vb vc : Nat) (u : Value) (w w1 : World) (h63 : cap <= 9223372036854775807) (hnc : n <= cap) (h : ∀ ty, (Builtin.append_ #[23, 23] ty #[.slice (some b) n cap, .slice (some ⟨vb, 0, none⟩) 1 vc]).run Tryz.prog w = .ok u w1) :
    Calls Tryz.prog 42 #[.slice (some b) n cap, .int .i64 n, .slice (some ⟨vb, 0, none⟩) 1 vc] w fun x w' => x = .returned u /\ w' = w1 := by
  have u0 := run_underlying lG
  have mixed : Tryz.prog.follows .mixedOrders = true := by kernel_rfl
  obtain ⟨bb, bo, bsp⟩ := b
  go_enter Tryz.func42, Tryz.ntmps42
  go_wp2_with (at_builtin; refine Lib.wpList_append_run _ rfl _ _ _ _ rfl _ _ rfl rfl _ _ (h _) ?_)
  all_goals (go_ret; exact ⟨rfl, rfl⟩)
set_option maxHeartbeats 4000000 in
set_option maxRecDepth 100000 in
theorem RN (vb vc : Nat) (u : Value) (w w1 : World) (h : ∀ ty, (Builtin.append_ #[23, 23] ty #[.slice none 0 0, .slice (some ⟨vb, 0, none⟩) 1 vc]).run Tryz.prog w = .ok u w1) :
    Calls Tryz.prog 42 #[.slice none 0 0, .int .i64 (0 : Nat), .slice (some ⟨vb, 0, none⟩) 1 vc] w fun x w' => x = .returned u /\ w' = w1 := by
  have u0 := run_underlying lG
  have mixed : Tryz.prog.follows .mixedOrders = true := by kernel_rfl
  go_enter Tryz.func42, Tryz.ntmps42
  go_wp2_with (at_builtin; refine Lib.wpList_append_run _ rfl _ _ _ _ rfl _ _ rfl rfl _ _ (h _) ?_)
  all_goals (go_ret; exact ⟨rfl, rfl⟩)
set_option maxHeartbeats 4000000 in
set_option maxRecDepth 100000 in
theorem PO (b n cap i vb vc : Nat) (cs vs : List Value) (w : World) (hi : i < n) (hnc : n <= cap) (hroom : cap < n + 1) (hbig : (n + 1) * 72 <= 140737488355328) (hcl : cs.length = n * 7) (hvl : vs.length = 7)
    (hcs : ∀ (k : Nat) u, cs[k]? = some u -> w.cell? ⟨b, k, none⟩ = some u) (hvs : ∀ (k : Nat) u, vs[k]? = some u -> w.cell? ⟨vb, k, none⟩ = some u) (h1 : ∀ v ∈ cs, v.oneCell' = true) (h1v : ∀ v ∈ vs, v.oneCell' = true) :
    Calls Tryz.prog 42 #[.slice (some ⟨b, 0, none⟩) n cap, .int .i64 i, .slice (some ⟨vb, 0, none⟩) 1 vc] w fun x w' => ∃ (G : Nat) (C : Array Value),
      x = .returned (.slice (some ⟨w.heap.size, 0, none⟩) (n + 1) G) /\ n + 1 <= G /\ G <= maxLen /\ w' = w.drew.drew.alloc (.cells C 28) /\ G * 7 <= C.size /\ C.toList.take (n * 7 + 7) = cs.take (i * 7) ++ vs ++ cs.drop (i * 7) := by
  have u0 := run_underlying lG
  have hz2 : ¬ ((i : Int) = (n : Int)) := by omega
  have hz3 : (cap : Int) < (n : Int) + 1 := by omega
  have mixed : Tryz.prog.follows .mixedOrders = true := by kernel_rfl
  obtain ⟨ii, z, t2, t3, t5, t6, t4⟩ := Pb
  have hbw : b < w.heap.size := block_lt_of_cell (hcs 0 _ (List.getElem?_eq_getElem (by omega)))
  have hvw : vb < w.heap.size := block_lt_of_cell (hvs 0 _ (List.getElem?_eq_getElem (by omega)))
  have hkk : (n : Int) + 1 - (i : Int) = ((n + 1 - i : Nat) : Int) := by omega
  have hik : i + (n + 1 - i) = n + 1 := by omega
  have hold : (Builtin.firstCells ii.size i (.slice (some ⟨b, 0, none⟩) i cap)).run Tryz.prog w.drew = .ok (cs.take (i * 7)).toArray w.drew :=
    run_firstCells_some w.drew ii.size i ⟨b, 0, none⟩ i cap (cs.take (i * 7)) (by rw [List.length_take, t5]; omega) (fun j v hj => by
      rw [Addr.add_lit, Nat.zero_add]
      rw [List.getElem?_take] at hj
      split at hj
      · exact hcs j v hj
      · cases hj)
  obtain ⟨G, hG⟩ : ∃ G, G = grownCap w (n + 1) cap 28 := ⟨_, rfl⟩
  have hGn : n + 1 <= G := by rw [hG]; exact grownCap_ge w _ _ _
  have hGm : G <= maxLen := by rw [hG]; exact grownCap_le_maxLen w (n + 1) cap 28 (by unfold maxLen; omega)
  obtain ⟨ROW, hROW⟩ : ∃ ROW : Array Value, ROW = (cs.take (i * 7)).toArray ++ Builtin.zeroCells z.cells (n + 1 - i) ++ Builtin.zeroCells z.cells (G - (n + 1)) := ⟨_, rfl⟩
  have hrz : ∀ ty, (Builtin.append_ #[23, 3] ty #[.slice (some ⟨b, 0, none⟩) i cap, .int .i64 ((n : Int) + 1 - (i : Int))]).run Tryz.prog w = .ok (.slice (some ⟨w.heap.size, 0, none⟩) (n + 1) G) (w.drew.alloc (.cells ROW 28)) := fun ty => by
    have h := Lib.run_append_grow_zeros w 23 3 ty 28 ii z .i64 .i64 lG Tryz.underlying3 t2 t3 (some ⟨b, 0, none⟩) i cap (cs.take (i * 7)) hold (n + 1 - i) (by omega) (by omega) (by omega) (by omega) (by rw [t6]; omega) (by rw [t6, hik]; exact growslice_fits hroom hbig)
    rw [hik, <- hG, <- hROW] at h
    rw [hkk]
    exact h
  have hRs : ROW.size = G * 7 := by
    rw [hROW]
    simp only [Array.size_append, size_zeroCells, t4, List.size_toArray, List.length_take, hcl]
    rw [Nat.sub_mul, Nat.sub_mul]
    omega
  obtain ⟨R1, hR1⟩ : ∃ R1 : Array Value, R1 = (ROW.toList.take (i * 7) ++ vs ++ ROW.toList.drop (i * 7 + vs.length)).toArray := ⟨_, rfl⟩
  have hR1s : R1.size = G * 7 := by rw [hR1]; simp; omega
  obtain ⟨R2, hR2⟩ : ∃ R2 : Array Value, R2 = (R1.toList.take (i * 7 + 7) ++ cs.drop (i * 7) ++ R1.toList.drop (i * 7 + 7 + (cs.drop (i * 7)).length)).toArray := ⟨_, rfl⟩
  have hR2s : R2.size = G * 7 := by rw [hR2]; simp; omega
  have hcpA : ∀ (W : World), W.heap = (w.alloc (.cells ROW 28)).heap -> ∀ ty o1 dl dc, o1 = i * 7 -> 1 <= dl -> (Builtin.copy_ #[23, 23] ty #[.slice (some ⟨w.heap.size, o1, none⟩) dl dc, .slice (some ⟨vb, 0, none⟩) 1 vc]).run Tryz.prog W = .ok (goInt ((1 : Nat) : Int)) (W.setRow w.heap.size R1) := fun W hW ty o1 dl dc h1' h4' => by
    subst h1'
    have h3' : Nat.min 1 dl = 1 := Nat.min_eq_left h4'
    have hWb : W.heap[w.heap.size]? = some (.cells ROW 28 (0, 0)) := by rw [hW]; exact heap_alloc_new w _
    have := qR (P := Tryz.prog) 7 W 23 23 ty 28 w.heap.size (i * 7) dl dc ⟨vb, 0, none⟩ 1 vc ROW 28 vs lG Ng hWb (by rw [h3', hvl]) (fun j v hj => by
      rw [Addr.add_lit, Nat.zero_add]
      have h2 := hvs j v hj
      unfold World.cell? at h2 ⊢
      rw [hW, Below.heap_alloc _ _ _ hvw]; exact h2) (by rw [hvl]; omega) h1v
    rw [h3'] at this
    rw [this, hR1]
  have hcpB : ∀ (W : World), W.heap = ((w.alloc (.cells ROW 28)).setRow w.heap.size R1).heap -> ∀ ty o1 o2 dl dc sl sc, o1 = i * 7 + 7 -> o2 = i * 7 -> (dl = n - i /\ n - i <= sl) -> (Builtin.copy_ #[23, 23] ty #[.slice (some ⟨w.heap.size, o1, none⟩) dl dc, .slice (some ⟨b, o2, none⟩) sl sc]).run Tryz.prog W = .ok (goInt ((n - i : Nat) : Int)) (W.setRow w.heap.size R2) := fun W hW ty o1 o2 dl dc sl sc h1' h2' h4' => by
    subst h1'; subst h2'
    have h3' : Nat.min sl dl = n - i := by rw [<- h4'.1]; exact Nat.min_eq_right (by omega)
    have hWb : W.heap[w.heap.size]? = some (.cells R1 28 (0, 0)) := by rw [hW]; exact setRow_heap _ _ _ _ _ _ (heap_alloc_new w _)
    have := qR (P := Tryz.prog) 7 W 23 23 ty 28 w.heap.size (i * 7 + 7) dl dc ⟨b, i * 7, none⟩ sl sc R1 28 (cs.drop (i * 7)) lG Ng hWb (by rw [h3', List.length_drop, hcl]; omega) (fun j v hj => by
      rw [Addr.add_lit]
      rw [List.getElem?_drop] at hj
      have h2 := hcs _ v hj
      unfold World.cell? at h2 ⊢
      rw [hW, setRow_other _ _ _ _ (by show b ≠ w.heap.size; omega), Below.heap_alloc _ _ _ hbw]; exact h2) (by rw [List.length_drop, hcl]; omega) (fun v hv => h1 v (List.mem_of_mem_drop hv))
    rw [h3'] at this
    rw [this, hR2]
  have hE : (w.alloc (.cells ROW 28)).drew.heap = (w.alloc (.cells ROW 28)).heap := rfl
  have hF : ((w.alloc (.cells ROW 28)).drew.setRow w.heap.size R1).drew.heap = ((w.alloc (.cells ROW 28)).setRow w.heap.size R1).heap := rfl
  have hGi : ¬ (G = i) := by omega
  have hGim : ¬ (G = i + 1) := by omega
  have hci : ¬ (cap = i) := by omega
  have hw1 : IntKind.i64.wrap ((i : Int) + 1) = (i : Int) + 1 := by rw [IntKind.wrap_i64]; omega
  have hw2 : IntKind.i64.wrap ((n : Int) + 1) = (n : Int) + 1 := by rw [IntKind.wrap_i64]; omega
  have hin : i <= n := by omega
  have htn : ((i : Int) + 1).toNat = i + 1 := by omega
  have hb3 : (i : Int) <= (n : Int) := by omega
  have hG63 : G <= 9223372036854775807 := by unfold maxLen at hGm; omega
  have hb1 : (0 : Int) <= (i : Int) + 1 := by omega
  have fin : R2.toList.take (n * 7 + 7) = cs.take (i * 7) ++ vs ++ cs.drop (i * 7) := by
    refine Zf (c := ROW.toList) (c1 := R1.toList) hcl hvl (by omega) (by simp [hR1s, hRs]) (by simp [hR1s, hR2s]) (by simp [hR2s]; omega) (fun k hk => ?_) (fun k => ?_) (fun k => ?_)
    · rw [hROW]
      simp only [Array.toList_append, List.append_assoc]
      rw [List.getElem?_append_left (by simp; omega), List.getElem?_take, if_pos hk]
    · have := qW (l := ROW.toList) (cs := vs) (o := i * 7) (k := k) (by simp [hRs]; omega)
      rw [hR1, this, hvl]
    · have := qW (l := R1.toList) (cs := cs.drop (i * 7)) (o := i * 7 + 7) (k := k) (by simp [hR1s, hcl]; omega)
      rw [hR2, this, List.length_drop, hcl]
  have hR2g : G * 7 <= R2.size := by omega
  clear hkk hik hold hROW hG hR1 hR2 hRs hR1s hR2s
  go_enter Tryz.func42, Tryz.ntmps42
  go_wp2_with (first
    | (at_builtin; refine Lib.wpList_append_run _ rfl _ _ _ _ rfl _ _ rfl rfl _ _ (hrz _) ?_)
    | (refine wpList_copy_runI (w.alloc (.cells ROW 28)).drew rfl _ _ 23 23 rfl (.slice (some ⟨w.heap.size, i * 7, none⟩) (n + 1 - i) (G - i)) (.slice (some ⟨vb, 0, none⟩) 1 vc) rfl rfl (hcpA _ hE 3 (i * 7) (n + 1 - i) (G - i) rfl (by omega)) ?_))
  go_region_law_o (refine step_copy_runI rfl _ _ 23 23 rfl (.slice (some ⟨w.heap.size, (i + 1) * 7, none⟩) (n + 1 - (i + 1)) (G - (i + 1))) (.slice (some ⟨b, i * 7, none⟩) (n - i) (cap - i)) (by simp [Act.eval, Act.put]) (by simp [Act.eval, Act.put]) (hcpB _ hF 3 ((i + 1) * 7) (i * 7) (n + 1 - (i + 1)) (G - (i + 1)) (n - i) (cap - i) (by omega) rfl ⟨by omega, by omega⟩) ?_)
  go_wp2
  go_ret
  exact ⟨G, R2, rfl, hGn, hGm, (congrArg (fun W : World => W.drew.setRow w.heap.size R2) (lT w.drew ROW R1 28)).trans (lT w.drew.drew R1 R2 28), hR2g, fin⟩
section
variable {w0 : World} {Z0 : Fr} {J : Nat -> Option Nat} {Z : Nat -> Prop} {s : AS} {a : Act} {w : World}
theorem Vx (R : Rel w0 Z0 J Z s a w) {i b : Nat} {cs l2 : List CV} {c c' : Array Value} {e : TypeId} (hi : hget s.heap i = some cs) (hj : J i = some b) (hb : w.heap[b]? = some (.cells c e (0, 0))) (hsz : c'.size = c.size) (hl : ∀ y, y ∈ l2 -> j4 y) (h : aU (bM w J Z) (c'.toList.take l2.length) l2) :
    Rel w0 Z0 J Z (s.qV 0 (.app i l2)) a (w.setRow b c') := by
  have R1 := Rel.set R hi hj hb hsz (aG s.heap i l2) (fun q hq => aK _ _ _ _ hq) h
  have R2 := R1.cZ i
  simp only [AS.cZ, kP, iw, mK i hl] at R2
  exact R2
theorem U5 (R : Rel w0 Z0 J Z s a w) {i : Nat} {cs l2 : List CV} {C : Array Value} {e : TypeId} (hi : hget s.heap i = some cs) (hl : ∀ y, y ∈ l2 -> j4 y) (h : aU (bM w J Z) (C.toList.take l2.length) l2) :
    Rel w0 Z0 (gy J i w.heap.size) Z (s.qV 0 (.app i l2)) a (w.alloc (.cells C e)) := by
  refine Rel.move (s := s.cZ i) (cs := l2) (R.cZ i) ?_ (aG _ _ _) (fun q hq => aK _ _ _ _ hq) (fun t => ?_) (fun f t => ?_) (fun q x hq y hy => ?_) h
  · simp [AS.cZ, gG, hi]
  · simp only [AS.cZ, AS.get, kM]; exact AV.kQ i _
  · simp only [AS.cZ, uj]; exact AV.kQ i _
  · by_cases hqk : q = i
    · subst hqk
      rw [aG, Option.some.injEq] at hq
      subst hq
      have := hl y hy
      cases y <;> first | trivial | exact this.elim
    · rw [aK _ _ _ _ hqk] at hq
      simp only [AS.cZ, gG, Option.map_eq_some_iff] at hq
      obtain ⟨cs0, _, rfl⟩ := hq
      exact qQ i _ y hy
end
set_option maxHeartbeats 1000000 in
theorem aiZ {w0 : World} {Z0 : Fr} {J : Nat -> Option Nat} {Z : Nat -> Prop} {s : AS} {a : Act} {w : World} (R : Rel w0 Z0 J Z s a w) {i j n p : Nat} {l x : List CV} {vs : Array Value} (hi : hget s.heap i = some l) (hl : l.length = n * 7) (hli : ∀ y, y ∈ l -> j4 y)
    (hj : hget s.heap j = some x) (hx : x.length = 7) (hxi : ∀ y, y ∈ x -> j4 y) (hij : i ≠ j) (hp : p <= n) (hz : (n + 1) * 72 <= 140737488355328) (hv : aU (cu w J Z) vs.toList [.one (.slc i 0 n 7), .one (.iv (.g (.int .i64 (p : Int)))), .one (.slc j 0 1 7)]) :
    Calls Tryz.prog 42 vs w fun e w' => ∃ v J', e = .returned v /\ Rel w0 Z0 J' Z (s.qV 0 (.app i (l.take (p * 7) ++ x ++ l.drop (p * 7)))) a w' /\ bD w' J' Z v (.t (.one (.slc i 0 (n + 1) 7))) := by
  obtain ⟨vs⟩ := vs
  match vs, hv with
  | [v1, v2, v3], ⟨h1, h2, h3, _⟩ =>
    have e2 : v2 = .int .i64 p := by cases h2; rfl
    subst e2
    have h1 : bM w J Z v1 (.slc i 0 n 7) := h1
    have h3 : bM w J Z v3 (.slc j 0 1 7) := h3
    have hne : n + 1 <= maxLen := by unfold maxLen; omega
    have hL2 : ∀ y, y ∈ l.take (p * 7) ++ x ++ l.drop (p * 7) -> j4 y := fun y hy => by
      simp only [List.mem_append] at hy
      rcases hy with (hy | hy) | hy
      · exact hli y (List.mem_of_mem_take hy)
      · exact hxi y hy
      · exact hli y (List.mem_of_mem_drop hy)
    have hLl : (l.take (p * 7) ++ x ++ l.drop (p * 7)).length = n * 7 + 7 := by simp [hl, hx]; omega
    rcases xV R h3 hj (by rw [hx]; omega) with ⟨h0, _⟩ | ⟨vb, vc, V, ev, hVl, hVc, hV1, hVr⟩
    · cases h0
    subst ev
    rcases h3 with ⟨h30, _⟩ | ⟨vb', vc', VC, eV, ev', hjv, hv1, hv2, hbv, hsv⟩
    · cases h30
    cases ev'
    have hVc' : ∀ (k : Nat) u, V[k]? = some u -> w.cell? ⟨vb, k, none⟩ = some u := fun k u h => by have := hVc k u h; rwa [Addr.add_lit, Nat.zero_add] at this
    rw [Nat.one_mul] at hVl
    have hVt : V = VC.toList.take 7 := by
      refine List.ext_getElem? fun k => ?_
      rw [List.getElem?_take]
      split
      · rename_i hk
        have := hVc' k _ (List.getElem?_eq_getElem (by omega))
        rw [cell_of_row w vb k VC eV _ hbv] at this
        rw [List.getElem?_eq_getElem (by omega), Array.getElem?_toList, this]
      · rw [List.getElem?_eq_none (by omega)]
    have hVr : aU (bM w J Z) V x := by rwa [List.drop_zero, List.take_of_length_le (by rw [hx]; omega)] at hVr
    obtain ⟨ii, z, t2, t3, t5, t6, t4⟩ := Pb
    have hgr : ∀ W : World, W.heap = w.heap -> Grow (fun _ => True) w J Z W J Z := fun W hW => ⟨fun _ _ _ h => h, fun _ h => h, fun _ _ _ => by rw [hW], fun _ _ _ _ c _ _ h => ⟨c, by rw [hW]; exact h, rfl⟩, fun _ _ h _ => by rw [hW]; exact h⟩
    have new : ∀ (e : Ending) (W : World) (G : Nat) (C : Array Value) (cs : List Value), e = .returned (.slice (some ⟨w.heap.size, 0, none⟩) (n + 1) G) -> n + 1 <= G -> G <= maxLen -> Rel w0 Z0 J Z s a W -> W.heap = w.heap -> aU (bM w J Z) cs l -> C.toList.take (n * 7 + 7) = cs.take (p * 7) ++ V ++ cs.drop (p * 7) -> G * 7 <= C.size ->
        ∃ v J', e = .returned v /\ Rel w0 Z0 J' Z (s.qV 0 (.app i (l.take (p * 7) ++ x ++ l.drop (p * 7)))) a (W.alloc (.cells C 28)) /\ bD (W.alloc (.cells C 28)) J' Z v (.t (.one (.slc i 0 (n + 1) 7))) := fun e W G C cs he g1 g2 RW hW hcs hC hsz => by
      have hAll : aU (bM W J Z) (C.toList.take (l.take (p * 7) ++ x ++ l.drop (p * 7)).length) (l.take (p * 7) ++ x ++ l.drop (p * 7)) := by
        rw [hLl, hC]
        refine aU.mono (fun _ y h => bM.grow (hgr W hW) y.bZ h) (((hcs.take (p * 7)).append hVr).append (hcs.drop (p * 7)))
      refine ⟨_, _, he, U5 RW hi hL2 hAll, ?_⟩
      refine Or.inr ⟨w.heap.size, G, C, 28, rfl, by simp [gy, hW], g1, g2, ?_, by omega⟩
      rw [<- hW]; exact heap_alloc_new W _
    rcases h1 with ⟨h0, rfl⟩ | ⟨b, cap, c, e, rfl, hjb, hc1, hc2, hb, hs⟩
    · -- nil
      subst h0
      obtain rfl : p = 0 := by omega
      have hl0 : l = [] := List.eq_nil_of_length_eq_zero (by simpa using hl)
      subst hl0
      refine (RN vb vc _ w _ fun ty => run_append_nil (P := Tryz.prog) w 23 ty 28 ii z lG t2 t3 ⟨vb, 0, none⟩ 1 vc V (by rw [t5]; exact hVl) hVc (by omega) (by omega) (by rw [t6]; omega)).mono fun e w' ⟨he, hw⟩ => ?_
      subst hw
      refine new e w.drew _ _ [] he (grownCap_ge _ _ _ _) (grownCap_le_maxLen _ _ _ _ hne) R.drew rfl (by trivial) (by simp [hVl]) (by have := grownCap_ge w 1 0 28; simp only [Array.size_append, size_zeroCells, t4, List.size_toArray, hVl]; rw [Nat.sub_mul]; omega)
    · rcases xV R (Or.inr ⟨b, cap, c, e, rfl, hjb, hc1, hc2, hb, hs⟩ : bM w J Z (.slice (some ⟨b, 0, none⟩) n cap) (.slc i 0 n 7)) hi (by omega) with ⟨h0, h00⟩ | ⟨b', cap', cs, eb, hcl, hcc, hc11, hcr⟩
      · cases h00
      cases eb
      have hcc' : ∀ (k : Nat) u, cs[k]? = some u -> w.cell? ⟨b, k, none⟩ = some u := fun k u h => by have := hcc k u h; rwa [Addr.add_lit, Nat.zero_add] at this
      replace hcr : aU (bM w J Z) cs l := by rwa [List.drop_zero, List.take_of_length_le (by omega)] at hcr
      have hct : cs = c.toList.take (n * 7) := by
        refine List.ext_getElem? fun k => ?_
        rw [List.getElem?_take]
        split
        · rename_i hk
          have := hcc' k _ (List.getElem?_eq_getElem (by omega))
          rw [cell_of_row w b k c e _ hb] at this
          rw [List.getElem?_eq_getElem (by omega), Array.getElem?_toList, this]
        · rw [List.getElem?_eq_none (by omega)]
      have h63 : cap <= 9223372036854775807 := by unfold maxLen at hc2; omega
      have hvb : vb ≠ b := by
        rintro rfl
        exact hij (R.inj _ _ _ hjb hjv)
      by_cases hroom : n + 1 <= cap
      · have hset : ∀ (W : World) (e' : Ending) (C : Array Value) , Rel w0 Z0 J Z s a W -> W.heap = w.heap -> e' = .returned (.slice (some ⟨b, 0, none⟩) (n + 1) cap) -> C.size = c.size -> C.toList.take (n * 7 + 7) = cs.take (p * 7) ++ V ++ cs.drop (p * 7) ->
            ∃ v J', e' = .returned v /\ Rel w0 Z0 J' Z (s.qV 0 (.app i (l.take (p * 7) ++ x ++ l.drop (p * 7)))) a (W.setRow b C) /\ bD (W.setRow b C) J' Z v (.t (.one (.slc i 0 (n + 1) 7))) := fun W e' C RW hW he g1 g2 => by
          have hWb : W.heap[b]? = some (.cells c e (0, 0)) := by rw [hW]; exact hb
          refine ⟨_, J, he, Vx RW hi hjb hWb g1 hL2 ?_, Or.inr ⟨b, cap, C, e, rfl, hjb, hroom, hc2, setRow_heap W b c C e (0, 0) hWb, by omega⟩⟩
          rw [hLl, g2]
          exact aU.mono (fun _ y h => bM.grow (hgr W hW) y.bZ h) (((hcr.take (p * 7)).append hVr).append (hcr.drop (p * 7)))
        rcases Nat.lt_or_ge p n with hpl | hpl
        · refine (MW b n cap p vb vc c VC e eV w hpl hroom h63 hvb hb hbv (by omega) (by omega) (by rw [<- hct]; exact hc11) (by rw [<- hVt]; exact hV1)).mono fun e' w' ⟨he, C, hw, g1, g2⟩ => ?_
          subst hw
          rw [<- hct, <- hVt] at g2
          exact hset w.drew e' C R.drew rfl he g1 g2
        · obtain rfl : p = n := by omega
          refine (JA ⟨b, 0, none⟩ p cap vb vc _ w _ h63 hc1 fun ty => run_append_room' (P := Tryz.prog) 23 ty 28 e ii lG t2 b p cap c hb ⟨vb, 0, none⟩ 1 vc V (by rw [t5]; exact hVl) hVc hV1 hroom (by rw [t5]; omega)).mono fun e' w' ⟨he, hw⟩ => ?_
          subst hw
          refine hset w e' _ R rfl he (by simp [t5]; omega) ?_
          rw [t5, hct]
          have e1 : ((c.toList.take (p * 7)).take (p * 7)) = c.toList.take (p * 7) := by rw [List.take_take, Nat.min_self]
          have e2 : ((c.toList.take (p * 7)).drop (p * 7)) = [] := List.drop_eq_nil_of_le (by simp; omega)
          rw [e1, e2, List.append_nil]
          exact List.take_left' (by rw [List.length_append, <- hct, hcl, hVl])
      · rcases Nat.lt_or_ge p n with hpl | hpl
        · refine (PO b n cap p vb vc cs V w hpl hc1 (by omega) hz hcl hVl hcc' hVc' hc11 hV1).mono fun e' w' ⟨G, C, he, g1, g2, hw, g3, g4⟩ => ?_
          subst hw
          exact new e' w.drew.drew G C cs he g1 g2 R.drew.drew rfl hcr g4 g3
        · obtain rfl : p = n := by omega
          refine (JA ⟨b, 0, none⟩ p cap vb vc _ w _ h63 hc1 fun ty => run_append_grow (P := Tryz.prog) w 23 ty 28 ii z lG t2 t3 ⟨b, 0, none⟩ p cap cs (by rw [t5]; exact hcl) hcc ⟨vb, 0, none⟩ 1 vc V (by rw [t5]; exact hVl) hVc (by omega) (by omega) (by rw [t6]; exact growslice_fits (by omega) hz)).mono fun e' w' ⟨he, hw⟩ => ?_
          subst hw
          refine new e' w.drew _ _ cs he (grownCap_ge _ _ _ _) (grownCap_le_maxLen _ _ _ _ hne) R.drew rfl hcr ?_ ?_
          · have e1 : cs.take (p * 7) = cs := List.take_of_length_le (by omega)
            have e2 : cs.drop (p * 7) = [] := List.drop_eq_nil_of_le (by omega)
            rw [e1, e2, List.append_nil]
            simp only [Array.toList_append]
            exact List.take_left' (by rw [List.length_append, hcl, hVl])
          · have := grownCap_ge w (p + 1) cap 28
            simp only [Array.size_append, size_zeroCells, t4, List.size_toArray, hVl, hcl]; rw [Nat.sub_mul]; omega
set_option maxRecDepth 100000 in
theorem Tq {os : List Oper} {q d t1 t2 t3 ty i j n p : Nat} {tys : Array TypeId} {pos : String} {aft : Array Edge} {L : List Nat} {s s' : AS} {l x : List CV} (ho : kF os q = some ⟨some d, .call ⟨.value (.func 42), #[.tmp t1, .tmp t2, .tmp t3], tys⟩, ty, pos, aft, none⟩) (e1 : s.get t1 = .t (.one (.slc i 0 n 7))) (e2 : s.get t2 = .t (.one (.iv (.g (.int .i64 (p : Int)))))) (e3 : s.get t3 = .t (.one (.slc j 0 1 7)))
    (hi : hget s.heap i = some l) (hj : hget s.heap j = some x) (hl : l.length = n * 7) (hli : ∀ y, y ∈ l -> j4 y) (hx : x.length = 7) (hxi : ∀ y, y ∈ x -> j4 y) (hij : i ≠ j) (hp : p <= n) (hz : (n + 1) * 72 <= 140737488355328) (hd : d < s.N)
    (hs' : Leaf ⟨bI (((s.qV 0 (.app i (l.take (p * 7) ++ x ++ l.drop (p * 7)))).put (some d) (.t (.one (.slc i 0 (n + 1) 7)))).env) L, ((s.qV 0 (.app i (l.take (p * 7) ++ x ++ l.drop (p * 7)))).put (some d) (.t (.one (.slc i 0 (n + 1) 7)))).heap, s.N, ((s.qV 0 (.app i (l.take (p * 7) ++ x ++ l.drop (p * 7)))).put (some d) (.t (.one (.slc i 0 (n + 1) 7)))).gh, s.lp⟩ s') : Te Tryz.prog (kF os q) s s' := by
  rw [ho]
  refine ⟨rfl, fun hdo w0 Z0 a w K Q m ⟨J, Z, R⟩ hK => d9 (dW _) hdo (jf (jh rfl (iF R (show dY (s.ev (.func 42)) = .pure 42 from rfl)) (by kernel_rfl)) ?_)⟩
  simp only [Array.empty_append, Array.append_empty]
  have hargs : aU (cu w J Z) ((#[Operand.tmp t1, Operand.tmp t2, Operand.tmp t3] : Array Operand).map a.eval).toList [.one (.slc i 0 n 7), .one (.iv (.g (.int .i64 (p : Int)))), .one (.slc j 0 1 7)] := by
    simp only [Array.toList_map]; exact mZ R (l := [.tmp t1, .tmp t2, .tmp t3]) (nd := True /\ True /\ True /\ True) (by simp only [kK, AS.ev, e1, e2, e3, AV.tv, AV.nd]) ⟨trivial, trivial, trivial, trivial⟩
  refine (aiZ R hi hl hli hj hx hxi hij hp hz hargs).mono fun e w' ⟨v, J', he, R', hr⟩ => ⟨v, he, hK _ _ ?_⟩
  have R2 := R'.put (d := some d) (fun k e => by cases e; exact hd) hr
  exact tK hs' ⟨J', Z, R2⟩
end Go.Proofs.YtcfechepbamhkaaGreat
