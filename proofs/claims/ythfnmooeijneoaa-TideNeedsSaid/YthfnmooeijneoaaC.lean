/- C: walks on abstract states. -/
import Derived.Test.YthfnmooeijneoaaB
import Derived.Test.YthfnmooeijneoaaSeaV
set_option linter.unusedVariables false
set_option linter.unusedSimpArgs false
namespace Go.Proofs.Ythfnmooeijneoaa
open Go.RowKit Go.Sea
attribute [local go_sem] callK_N gf gk gdrop lkL setL lsF ltAll rdyL bodyF roundQ roundS loopQ loopS jumpOf inLs yV yA bAV zipPut purgeG List.tail_cons Option.isNone_none Option.isNone_some callGK_f callDK_f callDGK_f retN retHN blockA arun_nil arun_plain arun_guard plainF guardF guardB arunD_nil arunD_plain arunD_guard plainDF guardDF guardDB AS.ent Eff.noApp Eff.tgt ftF AV.refs TV.refs CV.refs LV.refs Op.operands Call.operands List.append_toArray List.push_toArray List.flatMap_cons List.flatMap_nil List.toList_toArray Option.toArray List.reverse_cons List.reverse_nil opF AS.ev constA lk AS.get AV.tv AV.nd AS.eff AS.put argEnv PT.tv PV.av AV.mbOf hset hget TV.cells dstOk thenA gB isB toB TV.bool? TV.int? intF loadF storeF fieldF indexF lenF sliceF optI appF minmaxF ipCells fillF repC partsF lvsF TV.lv LV.tv purgeE purgeC purgeH AV.purge CV.purge AV.has TV.has CV.has LV.has calleeF argsF tvsF toPT toIV toIVs toPTs toPV civ isIv iA bA List.map_cons List.map_nil List.length_nil List.length_cons List.getElem?_cons_zero List.getElem?_cons_succ List.getElem?_nil Option.getD_some Option.getD_none Option.bind_some Option.bind_none List.take_succ_cons List.take_zero List.drop_succ_cons List.drop_zero List.take_nil List.drop_nil List.cons_append List.nil_append List.append_nil List.getD_cons_zero List.getD_cons_succ Option.map_some Option.map_none Option.isSome_some Option.isSome_none List.size_toArray List.any_cons List.any_nil List.mem_cons if_true if_false ite_true ite_false cond_true cond_false Nat.zero_add Nat.add_zero Nat.sub_zero Nat.le_refl Nat.zero_mul Nat.mul_zero Nat.one_mul Nat.mul_one Int.toNat_zero Int.toNat_natCast Bool.or_false Bool.false_or Bool.or_true Bool.true_or Bool.and_true Bool.true_and Bool.and_false Bool.false_and beq_self_eq_true beq_true beq_false Bool.not_true Bool.not_false and_true true_and and_false false_and and_self imp_self Bool.cond_false_right Bool.cond_true_left implies_true forall_const true_implies false_implies Option.some.injEq Prod.mk.injEq ne_eq not_false_eq_true not_true_eq_false eq_self Nat.lt_irrefl Nat.not_lt_zero boF seaMin seaMax seaNat1 seaNat2 Value.bool.injEq Value.int.injEq srcF lstC TV.dp IV.eqv PT.eqv PV.eqv All2 keepE hupd callZ_N AS.frz AS.frzW frzs frzsOk frzOk frzE frzA frzT frzC frzG frzH hdel cmpS eqF eqC gvs eqVs eqV decide_true resF tupA inlQ okL okGL okG nextL wkH wkC wkV nilA nilC AV.ok TV.ok CV.ok LV.ok okB forall_eq_or_imp forall_eq List.not_mem_nil List.mem_singleton true_or or_true or_false false_or exists_prop AV.t.injEq TV.one.injEq CV.iv.injEq IV.g.injEq TV.agg.injEq List.cons.injEq


def rowW (ws : List (Int × Int)) : List CV := ws.flatMap fun p => [.iv (.g (.int .i64 p.1)), .iv (.g (.int .i64 p.2))]
theorem rowW_len (ws : List (Int × Int)) : (rowW ws).length = ws.length * 2 := by
  induction ws with
  | nil => rfl
  | cons w ws ih => simp only [rowW, List.flatMap_cons, List.length_append, List.length_cons, List.length_nil] at ih ⊢; omega
theorem rowW_iv (ws : List (Int × Int)) : ∀ c, c ∈ rowW ws → isIv c := by
  intro c hc
  simp only [rowW, List.mem_flatMap] at hc
  obtain ⟨w, _, hc⟩ := hc
  simp at hc
  rcases hc with rfl | rfl <;> trivial
theorem rowW_app (a b : List (Int × Int)) : rowW (a ++ b) = rowW a ++ rowW b := by simp [rowW]
theorem rowW_get (ws : List (Int × Int)) : ∀ i, i < ws.length → (rowW ws).getD (i * 2) .any = .iv (.g (.int .i64 (L1 ws i))) ∧ (rowW ws).getD (i * 2 + 1) .any = .iv (.g (.int .i64 (L2 ws i))) := by
  induction ws with
  | nil => intro i hi; simp at hi
  | cons w ws ih =>
    intro i hi
    cases i with
    | zero => simp [rowW, L1, L2]
    | succ i =>
      have := ih i (by simpa using hi)
      simp only [rowW, List.flatMap_cons, L1, L2, List.getElem?_cons_succ] at this ⊢
      have e1 : (i + 1) * 2 = i * 2 + 2 := by omega
      rw [e1]
      simpa using this
theorem rowW_eqv (ws : List (Int × Int)) (i o : Nat) (hi : i < ws.length) (ho : o < 2) : (civ ((rowW ws).getD (0 + i * 2 + o) .any)).eqv (spanF (L1 ws) (L2 ws) i o) := by
  obtain ⟨h1, h2⟩ := rowW_get ws i hi
  match o, ho with
  | 0, _ => rw [show 0 + i * 2 + 0 = i * 2 by omega, h1]; exact IV.eqv_refl _
  | 1, _ => rw [show 0 + i * 2 + 1 = i * 2 + 1 by omega, h2]; exact IV.eqv_refl _
theorem rowW_set {f : List (Int × Int)} {l1 l2 x : Int} : (rowW (f ++ [(l1, l2)])).take ((f ++ [(l1, l2)]).length * 2 - 1) ++ [CV.iv (.g (.int .i64 x))] ++ (rowW (f ++ [(l1, l2)])).drop ((f ++ [(l1, l2)]).length * 2 - 1 + 1) = rowW (f ++ [(l1, x)]) := by
  have e : (f ++ [(l1, l2)]).length * 2 - 1 = (rowW f ++ [CV.iv (.g (.int .i64 l1))]).length := by
    simp only [List.length_append, rowW_len, List.length_singleton]; omega
  rw [rowW_app, rowW_app]
  have e1 : rowW [(l1, l2)] = [CV.iv (.g (.int .i64 l1))] ++ [CV.iv (.g (.int .i64 l2))] := rfl
  have e2 : rowW [(l1, x)] = [CV.iv (.g (.int .i64 l1))] ++ [CV.iv (.g (.int .i64 x))] := rfl
  rw [e1, e2, ← List.append_assoc, e, List.take_left', List.drop_append]
  · simp
  · rfl

theorem rowW_eqv2 (ws : List (Int × Int)) (i o : Nat) (hi : i < ws.length) (ho : o < 2) : (civ ((rowW ws).getD (i * 2 + o) .any)).eqv (spanF (L1 ws) (L2 ws) i o) := by
  have := rowW_eqv ws i o hi ho
  rwa [Nat.zero_add] at this
def setLast (ws : List (Int × Int)) (x : Int) : List (Int × Int) := ws.dropLast ++ [(L1 ws (ws.length - 1), x)]
def lastE (ws : List (Int × Int)) : Int := L2 ws (ws.length - 1)
theorem ws_split {ws : List (Int × Int)} (h : 0 < ws.length) : ws = ws.dropLast ++ [(L1 ws (ws.length - 1), lastE ws)] := by
  rcases List.eq_nil_or_concat ws with rfl | ⟨f, ⟨l1, l2⟩, rfl⟩
  · simp at h
  · simp [lastE, L1, L2]
theorem setLast_len {ws : List (Int × Int)} {x : Int} (h : 0 < ws.length) : (setLast ws x).length = ws.length := by
  simp [setLast]; omega
theorem rowW_last {ws : List (Int × Int)} (h : 0 < ws.length) : (rowW ws).getD ((ws.length - 1) * 2 + 1) .any = .iv (.g (.int .i64 (lastE ws))) := (rowW_get ws (ws.length - 1) (by omega)).2
theorem rowW_last_push {ws : List (Int × Int)} {a b : Int} : (rowW (ws ++ [(a, b)])).getD ((ws.length + 1 - 1) * 2 + 1) .any = .iv (.g (.int .i64 b)) := by
  have := rowW_last (ws := ws ++ [(a, b)]) (by simp)
  simp only [List.length_append, List.length_singleton] at this
  rw [this]; simp [lastE, L2]
theorem rowW_last_set {ws : List (Int × Int)} {x : Int} (h : 0 < ws.length) : (rowW (setLast ws x)).getD ((ws.length - 1) * 2 + 1) .any = .iv (.g (.int .i64 x)) := by
  have := rowW_last (ws := setLast ws x) (by rw [setLast_len h]; exact h)
  rw [setLast_len h] at this
  rw [this]; simp [lastE, L2, setLast]
theorem rowW_set0 {f : List (Int × Int)} {l1 l2 x : Int} {j : Nat} (hj : j = f.length * 2 + 1) : (rowW (f ++ [(l1, l2)])).take j ++ [CV.iv (.g (.int .i64 x))] ++ (rowW (f ++ [(l1, l2)])).drop (j + 1) = rowW (f ++ [(l1, x)]) := by
  have := rowW_set (f := f) (l1 := l1) (l2 := l2) (x := x)
  rw [show (f ++ [(l1, l2)]).length * 2 - 1 = j by simp; omega] at this
  exact this
theorem rowW_setL {ws : List (Int × Int)} {x : Int} (h : 0 < ws.length) : (rowW ws).take ((ws.length - 1) * 2 + 1) ++ [CV.iv (.g (.int .i64 x))] ++ (rowW ws).drop ((ws.length - 1) * 2 + 1 + 1) = rowW (setLast ws x) := by
  have e := rowW_set0 (f := ws.dropLast) (l1 := L1 ws (ws.length - 1)) (l2 := lastE ws) (x := x) (j := (ws.length - 1) * 2 + 1) (by simp)
  rw [← ws_split h] at e
  exact e
theorem rowW_setP {ws : List (Int × Int)} {a b x : Int} : (rowW (ws ++ [(a, b)])).take ((ws.length + 1 - 1) * 2 + 1) ++ [CV.iv (.g (.int .i64 x))] ++ (rowW (ws ++ [(a, b)])).drop ((ws.length + 1 - 1) * 2 + 1 + 1) = rowW (ws ++ [(a, x)]) := rowW_set0 (by omega)
theorem rowW_setS {ws : List (Int × Int)} {x y : Int} (h : 0 < ws.length) : (rowW (setLast ws y)).take ((ws.length - 1) * 2 + 1) ++ [CV.iv (.g (.int .i64 x))] ++ (rowW (setLast ws y)).drop ((ws.length - 1) * 2 + 1 + 1) = rowW (setLast ws x) := rowW_set0 (by simp)
theorem rowW_push (i : Nat) (ws : List (Int × Int)) (a b : Int) : List.map (CV.purge i) (rowW ws ++ [CV.iv (.g (.int .i64 a)), CV.iv (.g (.int .i64 b))]) = rowW (ws ++ [(a, b)]) := by
  rw [rowW_app, show rowW [(a, b)] = [CV.iv (.g (.int .i64 a)), CV.iv (.g (.int .i64 b))] from rfl]
  exact (List.map_congr_left fun c hc => by
    rcases List.mem_append.1 hc with h | h
    · have := rowW_iv ws c h
      cases c <;> first | rfl | exact this.elim
    · simp at h; rcases h with rfl | rfl <;> rfl).trans (List.map_id _)
theorem rowW_purge (i : Nat) (ws : List (Int × Int)) : List.map (CV.purge i) (rowW ws) = rowW ws :=
  (List.map_congr_left fun c hc => by
    have := rowW_iv ws c hc
    cases c <;> first | rfl | exact this.elim).trans (List.map_id _)
theorem addW_set {need : Int} {ws : List (Int × Int)} {xa xc xl xh : Int} (h : need ≤ xl) (h0 : 0 < ws.length) (h2 : lastE ws + 1 = xa) : addW need ws (xa, xc, xl, xh) = setLast ws xc := by
  have e := addW_ext (need := need) (f := ws.dropLast) (l1 := L1 ws (ws.length - 1)) (l2 := lastE ws) (xa := xa) (xc := xc) (xl := xl) (xh := xh) (by omega) h2
  rw [← ws_split h0] at e
  exact e
theorem addW_setS {need : Int} {ws : List (Int × Int)} {x xa xc xl xh : Int} (h : need ≤ xl) (h2 : x + 1 = xa) : addW need (setLast ws x) (xa, xc, xl, xh) = setLast ws xc :=
  addW_ext (need := need) (f := ws.dropLast) (l1 := L1 ws (ws.length - 1)) (l2 := x) (xa := xa) (xc := xc) (xl := xl) (xh := xh) (by omega) h2
theorem addW_setP {need : Int} {ws : List (Int × Int)} {a b xa xc xl xh : Int} (h : need ≤ xl) (h2 : b + 1 = xa) : addW need (ws ++ [(a, b)]) (xa, xc, xl, xh) = ws ++ [(a, xc)] := addW_ext (by omega) h2
theorem addW_push {need : Int} {ws : List (Int × Int)} {xa xc xl xh : Int} (h : need ≤ xl) (h2 : ws.length = 0 ∨ lastE ws + 1 ≠ xa) : addW need ws (xa, xc, xl, xh) = ws ++ [(xa, xc)] := by
  rcases Nat.eq_zero_or_pos ws.length with h0 | h0
  · have := List.eq_nil_of_length_eq_zero h0; subst this; exact addW_nil (by omega)
  · have e := addW_new (need := need) (f := ws.dropLast) (l1 := L1 ws (ws.length - 1)) (l2 := lastE ws) (xa := xa) (xc := xc) (xl := xl) (xh := xh) (by omega) (by omega)
    rw [← ws_split h0] at e
    exact e
theorem wn_facts {s st : Int} {n : Nat} {lo hi : Nat → Int} (hv : Tv s st n lo hi) (need : Int) {k : Nat} (hk : k ≤ n) : ∃ ws, win need (strs s st lo hi k) = ws ∧ ws.length ≤ 400 ∧ (0 < ws.length → 0 ≤ lastE ws ∧ lastE ws ≤ 10000000) := by
  refine ⟨_, rfl, ?_, fun h => ?_⟩
  · have : ∀ l : List Q4, ∀ w : List (Int × Int), (l.foldl (addW need) w).length ≤ w.length + l.length := by
      intro l
      induction l with
      | nil => intro w; simp
      | cons x l ih => intro w; have := ih (addW need w x); have := addW_len need w x; simp only [List.foldl_cons, List.length_cons]; omega
    have h1 := this (strs s st lo hi k) []
    have h2 := strs_len s st lo hi k
    have := hv.n1
    simp only [List.length_nil] at h1
    unfold win; omega
  · obtain ⟨j, rfl⟩ : ∃ j, k = j + 1 := ⟨k - 1, by rcases k with _ | k; · simp [strs, win] at h
                                                   · rfl⟩
    have hr := run_ok (strs_run (s := s) lo hi hv.st0 j) hv.s0 (by have := (hv.at (k := j) (by omega)).2.1; omega) need
    have := ws_at hr (i := (win need (strs s st lo hi (j + 1))).length - 1) (by omega)
    exact ⟨by unfold lastE; omega, by unfold lastE; omega⟩

theorem callDGK_f0 {P : Program} {gs : List (Option Nat)} {n0 i : Nat} {d : Option Tmp} {op : BinOp} {t t' : TypeId} {x y : Operand} {ty : TypeId} {pos : String} {aft : Array Edge} {g : Option (Nat × Bool)} {os : List Oper} {s : AS} {lg : Lg} {K : Lg → AS → Prop} (h : arunD P gs n0 (i + 1) os (s.put d .any) ((none, ftF s ⟨d, .binOp op t x y t', ty, pos, aft, g⟩) :: lg) K) :
    callDGK P gs n0 i false ⟨d, .binOp op t x y t', ty, pos, aft, g⟩ os s lg K := by
  unfold callDGK callDG
  exact ⟨fun h => (by cases h), fun _ => h⟩

theorem wsx {ws : List (Int × Int)} (h : ws.length ≤ 400) : (0 < ws.length ∧ (((ws.length : Int) > 0) = True ∧ IntKind.i64.wrap ((ws.length : Int) - 1) = (ws.length : Int) - 1 ∧ (((ws.length + 1 : Nat) : Int) > 0) = True ∧ IntKind.i64.wrap (((ws.length + 1 : Nat) : Int) - 1) = ((ws.length + 1 : Nat) : Int) - 1 ∧
    (rowW ws).getD ((ws.length - 1) * 2 + 1) .any = .iv (.g (.int .i64 (lastE ws))) ∧ (∀ x, (rowW ws).take ((ws.length - 1) * 2 + 1) ++ [CV.iv (.g (.int .i64 x))] ++ (rowW ws).drop ((ws.length - 1) * 2 + 1 + 1) = rowW (setLast ws x)) ∧
    (∀ x, (rowW (setLast ws x)).getD ((ws.length - 1) * 2 + 1) .any = .iv (.g (.int .i64 x))) ∧ (∀ x y, (rowW (setLast ws y)).take ((ws.length - 1) * 2 + 1) ++ [CV.iv (.g (.int .i64 x))] ++ (rowW (setLast ws y)).drop ((ws.length - 1) * 2 + 1 + 1) = rowW (setLast ws x)) ∧ (∀ x, (setLast ws x).length = ws.length))) ∨
    (ws.length = 0 ∧ (((ws.length : Int) > 0) = False ∧ IntKind.i64.wrap ((ws.length : Int) - 1) = (ws.length : Int) - 1 ∧ (rowW ws).getD ((ws.length - 1) * 2 + 1) .any = .any ∧ (((ws.length + 1 : Nat) : Int) > 0) = True ∧ IntKind.i64.wrap (((ws.length + 1 : Nat) : Int) - 1) = ((ws.length + 1 : Nat) : Int) - 1)) := by
  have e2 : IntKind.i64.wrap (((ws.length + 1 : Nat) : Int) - 1) = ((ws.length + 1 : Nat) : Int) - 1 := seaWrap (by omega) (by omega)
  have e3 : (((ws.length + 1 : Nat) : Int) > 0) = True := eq_true (by omega)
  rcases Nat.eq_zero_or_pos ws.length with h0 | h0
  · refine Or.inr ⟨h0, eq_false (by omega), seaWrap (by omega) (by omega), ?_, e3, e2⟩
    have := List.eq_nil_of_length_eq_zero h0; subst this; rfl
  · exact Or.inl ⟨h0, eq_true (by omega), seaWrap (by omega) (by omega), e3, e2, rowW_last h0, fun x => rowW_setL h0, fun x => rowW_last_set h0, fun x y => rowW_setS h0, fun x => setLast_len h0⟩

end Go.Proofs.Ythfnmooeijneoaa
