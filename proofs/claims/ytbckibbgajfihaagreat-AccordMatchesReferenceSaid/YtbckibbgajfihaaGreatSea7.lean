/- Abstract states, part 7: what slots and blocks of a call stand for, and how code turns them. No condition. -/
import Derived.Test.YtbckibbgajfihaaGreatSea6
set_option linter.unusedVariables false
set_option linter.unusedSimpArgs false
/- SeaAA: a small drawn region walked in every order (appends among what is drawn): the orders stand as a tree that the kernel checks. -/
namespace Go.Sea
open Go.RowKit

inductive Tr where
  | fin : Tr
  | non : Tr
  | alt (i : Nat) (t r : Tr) : Tr
def rdyO (ops : Array Oper) (d : List Nat) (i : Nat) : Bool := !(d.contains i) && match ops[i]? with
  | some o => o.after.toList.all fun e => !Region.binds .any e || d.contains e.on
  | none => false
def altH : Tr → Nat → Bool
  | .alt j _ r, i => j == i || altH r i
  | _, _ => false
def nodeOk (ops : Array Oper) (t : Tr) (d : List Nat) : Bool := match t with
  | .fin => true
  | t => ((List.range ops.size).any fun i => !(d.contains i)) && (List.range ops.size).all fun i => !(rdyO ops d i) || altH t i
def covT (ops : Array Oper) : Tr → List Nat → Bool
  | .fin, d => (List.range ops.size).all fun i => d.contains i
  | .non, _ => true
  | .alt i t r, d => nodeOk ops t (i :: d) && covT ops t (i :: d) && covT ops r d
def nthO : List Oper → Nat → Option Oper
  | [], _ => none
  | o :: _, 0 => some o
  | _ :: os, k + 1 => nthO os k
theorem nthO_get : ∀ (os : List Oper) (i : Nat), nthO os i = os[i]?
  | [], _ => by simp [nthO]
  | _ :: _, 0 => by simp [nthO]
  | _ :: os, k + 1 => by simp [nthO, nthO_get os k]
theorem nthO_0 (o : Oper) (os : List Oper) : nthO (o :: os) 0 = some o := rfl
theorem nthO_s (o : Oper) (os : List Oper) (k : Nat) : nthO (o :: os) (k + 1) = nthO os k := rfl
def opTr (P : Program) (n0 i : Nat) (s : AS) (K : AS → Prop) : Option Oper → Prop
  | some o => o.guard = none ∧ match opF P (n0 + i) s.ev (hget s.heap) o with
    | some (nd, v, ef) => hget s.heap (n0 + i) = none ∧ dstOk s o.dst ∧ nd ∧ K (s.ent o.dst (n0 + i) v ef)
    | none => False
  | none => False
def runTr (P : Program) (os : List Oper) (n0 : Nat) : Tr → AS → (AS → Prop) → Prop
  | .fin, s, K => K s
  | .non, _, _ => True
  | .alt i t r, s, K => opTr P n0 i s (fun s' => runTr P os n0 t s' K) (nthO os i) ∧ runTr P os n0 r s K
theorem runTr_nonI {P : Program} {os : List Oper} {n0 : Nat} {s : AS} {K : AS → Prop} : runTr P os n0 .non s K := trivial
theorem runTr_finI {P : Program} {os : List Oper} {n0 : Nat} {s : AS} {K : AS → Prop} (h : K s) : runTr P os n0 .fin s K := h
theorem opTr.mono {P : Program} {n0 i : Nat} {s : AS} {K K' : AS → Prop} (hk : ∀ s, K s → K' s) : ∀ {o : Option Oper}, opTr P n0 i s K o → opTr P n0 i s K' o
  | none, h => h
  | some o, ⟨hg, h⟩ => by
    refine ⟨hg, ?_⟩
    split at h
    · exact ⟨h.1, h.2.1, h.2.2.1, hk _ h.2.2.2⟩
    · exact h
theorem runTr_altI {P : Program} {os : List Oper} {n0 i : Nat} {t r : Tr} {s : AS} {K : AS → Prop} (h : ∀ K' : AS → Prop, (∀ s', runTr P os n0 t s' K → K' s') → opTr P n0 i s K' (nthO os i)) (hr : runTr P os n0 r s K) : runTr P os n0 (.alt i t r) s K := ⟨h _ fun _ h => h, hr⟩
structure Leaf (a b : AS) : Prop where
  out : a = b
theorem altH_get {P : Program} {ops : Array Oper} {n0 : Nat} {s : AS} {K : AS → Prop} {d : List Nat} {i : Nat} : ∀ t : Tr, altH t i = true → covT ops t d = true → runTr P ops.toList n0 t s K → ∃ t', opTr P n0 i s (fun s' => runTr P ops.toList n0 t' s' K) (nthO ops.toList i) ∧ nodeOk ops t' (i :: d) = true ∧ covT ops t' (i :: d) = true
  | .fin, h, _, _ => by simp [altH] at h
  | .non, h, _, _ => by simp [altH] at h
  | .alt j t r, h, hc, hr => by
    simp only [covT, Bool.and_eq_true] at hc
    simp only [altH, Bool.or_eq_true, beq_iff_eq] at h
    rcases h with h | h
    · subst h; exact ⟨t, hr.1, hc.1.1, hc.1.2⟩
    · exact altH_get r h hc.2 hr.2
theorem AW_regionA {P : Program} {s : AS} {Q : Exit → AS → Prop} {id : Nat} {ops : Array Oper} (T : Tr) (L : List Nat) (sT : AS) (hm : P.follows .mixedOrders = true) (hback : backB .any ops = true) (hd : noDefer ops = true) (hc : (nodeOk ops T [] && covT ops T []) = true)
    (h : runTr P ops.toList s.heap.length T s fun s' => Leaf ⟨keepE s'.env L, s'.heap, s'.N, s'.gh, s'.lp⟩ sT) (hq : Q .normal sT) : AW P (.region id ops true) s Q := fun w0 Z0 a w n R => by
  simp only [Bool.and_eq_true] at hc
  refine regionIn_by (free_fo _) (fun _ D a w => ∃ t s' d, (∀ k, D k = true ↔ k ∈ d) ∧ nodeOk ops t d = true ∧ covT ops t d = true ∧ runTr P ops.toList s.heap.length t s' (fun s' => Leaf ⟨keepE s'.env L, s'.heap, s'.N, s'.gh, s'.lp⟩ sT) ∧ Rep w0 Z0 s' a w) hm hd hback ?_ ?_ fun D a w hD ⟨t, s', d, hDd, hn, hcv, hr, R'⟩ => ?_
  · obtain ⟨J, Z, R⟩ := R
    exact ⟨T, s, [], fun k => by simp, hc.1, hc.2, h, J, Z, R.drew⟩
  · refine Steps.of ops.toList 0 fun i o ho D a w ⟨t, s', d, hDd, hn, hcv, hr, R'⟩ hDi hpre hcl K hK => ?_
    rw [Nat.zero_add] at hDi
    simp only [Nat.zero_add] at hK
    have hoi : ops[i]? = some o := by rw [← Array.getElem?_toList]; exact ho
    have hi : i < ops.size := (Array.getElem?_eq_some_iff.1 hoi).1
    have hid : d.contains i = false := by
      cases hh : d.contains i with
      | false => rfl
      | true =>
        have := (hDd i).2 (by simpa using hh)
        rw [hDi] at this; cases this
    have hrdy : rdyO ops d i = true := by
      unfold rdyO
      rw [hid, hoi]
      simp only [Bool.not_false, Bool.true_and]
      refine List.all_eq_true.2 fun e he => ?_
      have := List.all_eq_true.1 hpre e he
      cases hb : Region.binds .any e with
      | false => rfl
      | true =>
        rw [hb] at this
        simp only [Bool.not_true, Bool.false_or] at this ⊢
        simpa using (hDd e.on).1 this
    have halt : altH t i = true := by
      cases t with
      | fin =>
        exfalso
        simp only [covT] at hcv
        have := List.all_eq_true.1 hcv i (List.mem_range.2 hi)
        rw [hid] at this; cases this
      | non =>
        simp only [nodeOk, Bool.and_eq_true] at hn
        have := List.all_eq_true.1 hn.2 i (List.mem_range.2 hi)
        rw [hrdy] at this; simpa using this
      | alt j t' r =>
        simp only [nodeOk, Bool.and_eq_true] at hn
        have := List.all_eq_true.1 hn.2 i (List.mem_range.2 hi)
        rw [hrdy] at this; simpa using this
    obtain ⟨t', hop, hn', hc'⟩ := altH_get t halt hcv hr
    rw [nthO_get, Array.getElem?_toList, hoi] at hop
    obtain ⟨hg, hop⟩ := hop
    split at hop
    · rename_i nd v ef hof
      obtain ⟨hh, hdst, hnd, hrun⟩ := hop
      obtain ⟨J, Z, R'⟩ := R'
      have hw : Region.wanted o (yielded ops a.tmps) = true := by simp [Region.wanted, hg]
      rw [if_pos hw]
      refine does_wp (opF_sound R' hh hof hnd) fun J' w' u R'' hr' => hK _ _ ?_
      refine ⟨t', _, i :: d, fun k => ?_, hn', hc', hrun, J', Z, R''.put (fun k e => by rw [eff_N]; exact dstOk_spec hdst k e) hr'⟩
      by_cases hk : k = i
      · subst hk; simp [upd]
      · rw [upd_ne D hk]; simp only [List.mem_cons, hk, false_or]; exact hDd k
    · exact hop.elim
  · have hall : ∀ i, i < ops.size → d.contains i = true := fun i hi => by simpa using (hDd i).1 (hD i hi)
    have key : ((List.range ops.size).any fun i => !(d.contains i)) = false := by
      cases hh : (List.range ops.size).any fun i => !(d.contains i) with
      | false => rfl
      | true =>
        obtain ⟨i, h1, h2⟩ := List.any_eq_true.1 hh
        rw [hall i (List.mem_range.1 h1)] at h2; cases h2
    cases t with
    | fin =>
      have hl : Leaf ⟨keepE s'.env L, s'.heap, s'.N, s'.gh, s'.lp⟩ sT := hr
      refine ⟨sT, ?_, hq⟩
      rw [← hl.out]
      obtain ⟨J, Z, R⟩ := R'
      exact ⟨J, Z, R.nodef, R.size, R.below, R.zfrom, R.zlt, R.jlt, R.inj, R.hole, R.blk, fun t => by
        rcases lk_keepE s'.env t L with e | e
        · show ARel _ _ _ _ (lk (keepE s'.env L) t); rw [e]; trivial
        · show ARel _ _ _ _ (lk (keepE s'.env L) t); rw [e]; exact R.slots t, R.ghost, R.loops, R.lnd, R.ro⟩
    | non => simp only [nodeOk, key, Bool.false_and] at hn; cases hn
    | alt j t' r => simp only [nodeOk, key, Bool.false_and] at hn; cases hn
theorem opTr_some (P : Program) (n0 i : Nat) (s : AS) (K : AS → Prop) (o : Oper) : opTr P n0 i s K (some o) = (o.guard = none ∧ match opF P (n0 + i) s.ev (hget s.heap) o with
    | some (nd, v, ef) => hget s.heap (n0 + i) = none ∧ dstOk s o.dst ∧ nd ∧ K (s.ent o.dst (n0 + i) v ef)
    | none => False) := rfl
end Go.Sea
namespace Go.Sea
open Go.RowKit Go.Sea
attribute [go_sem] callK_N gf gk gdrop lkL setL lsF ltAll rdyL bodyF roundQ roundS loopQ loopS jumpOf inLs yV yA bAV zipPut purgeG List.tail_cons Option.isNone_none Option.isNone_some callGK_f callDK_f callDGK_f retN retHN blockA arun_nil arun_plain arun_guard plainF guardF guardB arunD_nil arunD_plain arunD_guard plainDF guardDF guardDB AS.ent Eff.noApp Eff.tgt ftF AV.refs TV.refs CV.refs LV.refs Op.operands Call.operands List.append_toArray List.push_toArray List.flatMap_cons List.flatMap_nil List.toList_toArray Option.toArray nidF nidA List.reverse_cons List.reverse_nil opF AS.ev constA lk AS.get AV.tv AV.nd AS.eff AS.put argEnv PT.tv PV.av AV.mbOf hset hget TV.cells dstOk thenA gB isB toB TV.bool? TV.int? intF loadF storeF fieldF indexF lenF sliceF optI appF minmaxF ipCells fillF repC partsF lvsF TV.lv LV.tv purgeE purgeC purgeH AV.purge CV.purge AV.has TV.has CV.has LV.has calleeF argsF tvsF toPT toIV toIVs toPTs toPV civ isIv iA bA List.map_cons List.map_nil List.length_nil List.length_cons List.getElem?_cons_zero List.getElem?_cons_succ List.getElem?_nil Option.getD_some Option.getD_none Option.bind_some Option.bind_none List.take_succ_cons List.take_zero List.drop_succ_cons List.drop_zero List.take_nil List.drop_nil List.cons_append List.nil_append List.append_nil List.getD_cons_zero List.getD_cons_succ Option.map_some Option.map_none Option.isSome_some Option.isSome_none List.size_toArray List.any_cons List.any_nil List.mem_cons if_true if_false ite_true ite_false cond_true cond_false Nat.zero_add Nat.add_zero Nat.sub_zero Nat.le_refl Nat.zero_mul Nat.mul_zero Nat.one_mul Nat.mul_one Int.toNat_zero Int.toNat_natCast Bool.or_false Bool.false_or Bool.or_true Bool.true_or Bool.and_true Bool.true_and Bool.and_false Bool.false_and beq_self_eq_true beq_true beq_false Bool.not_true Bool.not_false and_true true_and and_false false_and and_self imp_self Bool.cond_false_right Bool.cond_true_left implies_true forall_const true_implies false_implies Option.some.injEq Prod.mk.injEq ne_eq not_false_eq_true not_true_eq_false eq_self Nat.lt_irrefl Nat.not_lt_zero opTr_some nthO_0 nthO_s scopeA yOp op3F lookF lookR putF delF mlenF i64? tvPT ivsF findM op2F ncF slice3F offF slArrF copyF clearF toArrF callDK_t calleeT eqN barOp boF seaMin seaMax seaNat1 seaNat2 Value.bool.injEq Value.int.injEq srcF lstC TV.dp IV.eqv PT.eqv PV.eqv All2 keepE hupd callZ_N AS.frz AS.frzW frzs frzsOk frzOk frzE frzA frzT frzC frzG frzH hdel cmpS eqF eqC gvs eqVs eqV decide_true resF tupA inlQ okL okGL okG nextL barOpN wkH wkC wkV nilA nilC AV.ok TV.ok CV.ok LV.ok okB forall_eq_or_imp forall_eq List.not_mem_nil List.mem_singleton true_or or_true or_false false_or or_self exists_prop AV.t.injEq TV.one.injEq CV.iv.injEq IV.g.injEq TV.agg.injEq List.cons.injEq

end Go.Sea
