/- TideTrue: the walk on abstract states. -/
import Derived.Test.YtmljnelmnagfoaaSeaR
import Derived.Test.YtmljnelmnagfoaaJ
import Derived.Test.YtmljnelmnagfoaaE2
import Derived.Test.YtmljnelmnagfoaaU
set_option linter.unusedVariables false
set_option linter.unusedSimpArgs false
namespace Go.Proofs.Ytmljnelmnagfoaa
open Go.RowKit Go.Sea
theorem ar_22 : arD Try.prog 22 = none := by kernel_rfl
theorem ar_25 : arD Try.prog 25 = none := by kernel_rfl
theorem in_3 : inD Try.prog 3 = some .i64 := by kernel_rfl
theorem le_22 : lenD Try.prog 22 = some true := by kernel_rfl
theorem of_24_0 : offOf Try.prog 24 0 = some 0 := by kernel_rfl
theorem of_24_1 : offOf Try.prog 24 1 = some 1 := by kernel_rfl
theorem of_24_2 : offOf Try.prog 24 2 = some 2 := by kernel_rfl
theorem of_30_0 : offOf Try.prog 30 0 = some 0 := by kernel_rfl
theorem of_30_1 : offOf Try.prog 30 1 = some 1 := by kernel_rfl
theorem sl_22 : slD Try.prog 22 = some (2, 16, 30) := by kernel_rfl
theorem sl_25 : slD Try.prog 25 = some (1, 2, 34) := by kernel_rfl
theorem ty_22 : tyD Try.prog 22 = some (false, 1) := by kernel_rfl
theorem ty_25 : tyD Try.prog 25 = some (false, 1) := by kernel_rfl
theorem ty_3 : tyD Try.prog 3 = some (false, 1) := by kernel_rfl
theorem ty_30 : tyD Try.prog 30 = some (true, 2) := by kernel_rfl
theorem ty_34 : tyD Try.prog 34 = some (false, 1) := by kernel_rfl
theorem zc_30 : zeroC Try.prog 30 = some [.iv (.g (.int .i64 0)), .iv (.g (.int .i64 0))] := by kernel_rfl

def spanF (lo hi : Nat → Int) : Nat → Nat → IV
  | i, 0 => .g (.int .i64 (lo i))
  | i, _ + 1 => .g (.int .i64 (hi i))
theorem spanF0 (lo hi : Nat → Int) (i : Nat) : spanF lo hi i 0 = .g (.int .i64 (lo i)) := rfl
theorem spanF1 (lo hi : Nat → Int) (i : Nat) : spanF lo hi i 1 = .g (.int .i64 (hi i)) := rfl
def partF (pt : Nat → Int) : Nat → Nat → IV := fun i _ => .g (.int .u16 (pt i))
theorem partF0 (pt : Nat → Int) (i o : Nat) : partF pt i o = .g (.int .u16 (pt i)) := rfl
abbrev tideP (s st : Int) (n : Nat) (lo hi : Nat → Int) : PT := .agg [.g (.int .i64 s), .g (.int .i64 st), .lst 2 n (spanF lo hi)]
theorem rd_int {w : World} {Z : Nat → Prop} {v : Value} {k : IntKind} {a : Int} (h : Rd w Z v (.g (.int k a))) : v = .int k a := by cases h; rfl
theorem rd_lie {w : World} {Z : Nat → Prop} {v : Value} {n : Nat} {lo hi : Nat → Int} (h : Rd w Z v (.lst 2 n (spanF lo hi))) : ∃ p c, v = .slice p n c ∧ Lie w p n lo hi := by
  generalize hf : spanF lo hi = f at h
  cases h with
  | nil p cap => exact ⟨p, cap, rfl, Or.inl rfl⟩
  | lst b off _ cap _ _ X hz hn hm h1 h2 =>
    refine ⟨_, cap, rfl, Or.inr ⟨b, off, rfl, fun i hi' => ?_⟩⟩
    have a0 := h1 i 0 hi' (by omega)
    have a1 := h1 i 1 hi' (by omega)
    have b0 := h2 i 0 hi' (by omega)
    have b1 := h2 i 1 hi' (by omega)
    subst hf
    rw [rd_int b0] at a0
    rw [rd_int b1] at a1
    exact ⟨a0, a1⟩
theorem tide_rel {w : World} {Z : Nat → Prop} {v : Value} {s st : Int} {n : Nat} {lo hi : Nat → Int} (h : PTRel w Z v (tideP s st n lo hi)) : ∃ p c, v = tv s st p n c ∧ Lie w p n lo hi := by
  obtain ⟨A, rfl, h⟩ := h
  obtain ⟨l⟩ := A
  match l, h with
  | [x, y, z], ⟨h1, h2, h3, _⟩ =>
    obtain ⟨p, c, rfl, hl⟩ := rd_lie h3
    exact ⟨p, c, by rw [rd_int h1, rd_int h2], hl⟩
theorem arr1 {w : World} {Z : Nat → Prop} {vs : Array Value} {x : PT} (h : All2 (PTRel w Z) vs.toList [x]) : ∃ v, vs = #[v] ∧ PTRel w Z v x := by
  obtain ⟨l⟩ := vs
  match l, h with
  | [v], ⟨h1, _⟩ => exact ⟨v, rfl, h1⟩
theorem arr3 {w : World} {Z : Nat → Prop} {vs : Array Value} {x y z : PT} (h : All2 (PTRel w Z) vs.toList [x, y, z]) : ∃ v u t, vs = #[v, u, t] ∧ PTRel w Z v x ∧ PTRel w Z u y ∧ PTRel w Z t z := by
  obtain ⟨l⟩ := vs
  match l, h with
  | [v, u, t], ⟨h1, h2, h3, _⟩ => exact ⟨v, u, t, rfl, h1, h2, h3⟩
theorem head_p : CallsP Try.prog 11 [] (.t (.one (.g (.bool true)))) := CallsP_vals (vs := []) (V := .bool true) rfl rfl head_any
theorem few_p (s st : Int) (n : Nat) (lo hi : Nat → Int) : CallsP Try.prog 12 [tideP s st n lo hi] (.t (.one (.g (.bool (decide (n ≤ 12 ∧ st ≤ 60)))))) := fun w Z vs hZ ha => by
  obtain ⟨v, rfl, h⟩ := arr1 ha
  obtain ⟨p, c, rfl, hl⟩ := tide_rel h
  exact (few_any s st p n c w).mono fun e w' ⟨he, hb⟩ => ⟨_, he, hb, Rd.g _ rfl⟩
theorem rvalid_p (s st : Int) (n : Nat) (lo hi : Nat → Int) : CallsP Try.prog 13 [tideP s st n lo hi] (.t (.one (.g (.bool (tval s st n lo hi))))) := fun w Z vs hZ ha => by
  obtain ⟨v, rfl, h⟩ := arr1 ha
  obtain ⟨p, c, rfl, hl⟩ := tide_rel h
  exact (rvalid_any s st p n c lo hi w hl).mono fun e w' ⟨he, hb⟩ => ⟨_, he, hb, Rd.g _ rfl⟩
theorem height_p (s st : Int) (n : Nat) (lo hi : Nat → Int) (f u : Int) : CallsP Try.prog 15 [tideP s st n lo hi, .one (.g (.int .i64 f)), .one (.g (.int .i64 u))]
    (.tup [.agg [.g (.int .i64 (HL s st n lo hi f u)), .g (.int .i64 (HH s st n lo hi f u))], .one (.g (.int .i64 (HE s st n lo hi f u)))]) := fun w Z vs hZ ha => by
  obtain ⟨v, x, y, rfl, h, hx, hy⟩ := arr3 ha
  obtain ⟨p, c, rfl, hl⟩ := tide_rel h
  obtain rfl := rd_int hx
  obtain rfl := rd_int hy
  exact (height_any s st p n c lo hi f u w hl).mono fun e w' ⟨he, hb⟩ => ⟨_, he, hb, PV.val_rel (v := se (HL s st n lo hi f u) (HH s st n lo hi f u) (HE s st n lo hi f u)) rfl⟩

set_option maxRecDepth 100000 in
set_option maxHeartbeats 4000000 in
theorem rlast_p (s st : Int) (n : Nat) (lo hi : Nat → Int) : CallsP Try.prog 14 [tideP s st n lo hi] (.t (.one (.g (.int .i64 (IntKind.i64.wrap (s + IntKind.i64.wrap (IntKind.i64.wrap ((n : Int) - 1) * st))))))) := by
  refine CallsP_of Try.func14 rfl (by rw [Try.ntmps14]; simp) ?_
  simp only [Try.ntmps14, List.map_cons, List.map_nil, PT.tv, argEnv, Nat.zero_add, Nat.reduceAdd]
  repeat' (first
    | (with_reducible refine AW_seq_k fun K hK => ?_)
    | ((with_reducible refine And.intro ?_ ?_); focus (first | exact True.intro | (with_reducible assumption) | omega | (refine ⟨?_, ?_⟩ <;> omega) | (intro _; first | exact True.intro | (with_reducible assumption) | omega) | (simp (disch := omega) only [Bool.and_eq_true, Bool.or_eq_true, decide_eq_true_eq, bne_iff_ne, ne_eq] at *; first | done | omega | (intros; omega)) | (simp; done) | (simp; omega)))
    | (with_reducible refine AW_skip ?_)
    | (with_reducible refine AW_exit ?_)
    | (with_reducible refine AW_ret ?_)
    | (with_reducible refine retK_n ?_)
    | (with_reducible refine retK_n' ?_)
    | (with_reducible refine retH_n rfl rfl ?_)
    | (with_reducible refine retH_n' rfl rfl ?_)
    | (with_reducible refine AW_condI ?_)
    | ((with_reducible refine condN_t ?_ ?_) <;> (intro hc; (try simp only [Bool.and_eq_true, Bool.or_eq_true, Bool.not_eq_true', Bool.and_eq_false_iff, Bool.or_eq_false_iff, decide_eq_true_eq, decide_eq_false_iff_not, bne_iff_ne, beq_iff_eq, reduceCtorEq, bne_eq_false_iff_eq, beq_eq_false_iff_ne, Bool.not_eq_false', Int.not_le, Int.not_lt, Bool.not_not] at hc); (try (exfalso; first | contradiction | omega))))
    | (with_reducible refine AW_block ?_)
    | (with_reducible refine AW_region ?_)
    | ((with_reducible refine AW_regionD ?_ ?_ ?_); (focus kernel_rfl); (focus kernel_rfl))
    | ((with_reducible refine And.intro ?_ ?_); focus ((with_reducible show chkR _ _ _ = true); kernel_rfl))
    | ((fail_if_success (with_reducible show AW _ _ _ _)); simp only [callK_N, callGK_f, callDK_f, callDGK_f, retN, retHN, blockA, arun_nil, arun_plain, arun_guard, plainF, guardF, guardB, arunD_nil, arunD_plain, arunD_guard, plainDF, guardDF, guardDB, AS.ent, Eff.noApp, Eff.tgt, ftF, AV.refs, TV.refs, CV.refs, LV.refs, Op.operands, Call.operands, List.append_toArray, List.push_toArray, List.flatMap_cons, List.flatMap_nil, List.toList_toArray, Option.toArray, List.reverse_cons, List.reverse_nil, opF, AS.ev, constA, lk, AS.get, AV.tv, AV.nd, AS.eff, AS.put, argEnv, PT.tv, PV.av, AV.mbOf, hset, hget, TV.cells, dstOk, thenA, gB, isB, toB, TV.bool?, TV.int?, intF, loadF, storeF, fieldF, indexF, lenF, sliceF, optI, appF, minmaxF, ipCells, fillF, repC, partsF, lvsF, TV.lv, LV.tv, purgeE, purgeC, purgeH, AV.purge, CV.purge, AV.has, TV.has, CV.has, LV.has, calleeF, argsF, tvsF, toPT, toIV, toIVs, toPTs, toPV, civ, isIv, iA, bA, minmaxF, blockA, List.map_cons, List.map_nil, List.length_nil, List.length_cons, List.getElem?_cons_zero, List.getElem?_cons_succ, List.getElem?_nil, Option.getD_some, Option.getD_none, Option.bind_some, Option.bind_none, List.take_succ_cons, List.take_zero, List.drop_succ_cons, List.drop_zero, List.take_nil, List.drop_nil, List.cons_append, List.nil_append, List.append_nil, List.getD_cons_zero, List.getD_cons_succ, Option.map_some, Option.map_none, Option.isSome_some, Option.isSome_none, List.size_toArray, List.any_cons, List.any_nil, List.mem_cons, if_true, if_false, ite_true, ite_false, reduceIte, reduceCtorEq, cond_true, cond_false, Nat.reduceAdd, Nat.reduceLT, Nat.reduceLeDiff, Nat.reduceEqDiff, Nat.reduceMul, Nat.reduceSub, Nat.reduceBEq, Nat.zero_add, Nat.add_zero, Nat.sub_zero, Nat.le_refl, Nat.zero_mul, Nat.mul_zero, Nat.one_mul, Nat.mul_one, Int.toNat_zero, Int.toNat_natCast, Bool.or_false, Bool.false_or, Bool.or_true, Bool.true_or, Bool.and_true, Bool.true_and, Bool.and_false, Bool.false_and, beq_self_eq_true, beq_true, beq_false, Bool.not_true, Bool.not_false, and_true, true_and, and_false, false_and, and_self, imp_self, Bool.cond_false_right, Bool.cond_true_left, implies_true, forall_const, true_implies, false_implies, Option.some.injEq, Prod.mk.injEq, ne_eq, not_false_eq_true, not_true_eq_false, eq_self, Nat.lt_irrefl, Nat.not_lt_zero, resF, tupA, Try.f14, of_24_0, ty_3, of_24_2, ty_22, le_22, of_24_1, spanF0, spanF1, partF0])
    | ((fail_if_success (with_reducible show AW _ _ _ _)); simp (disch := omega) only [seaWrap, seaDiv, seaMod])
    | ((with_reducible refine hK _ ?_); clear hK K))

set_option maxRecDepth 100000 in
set_option maxHeartbeats 4000000 in
theorem value_h (s st : Int) (n : Nat) (lo hi : Nat → Int) (m : Nat) (pt : Nat → Int) (a b k : Int) (h0 : 0 ≤ k) (h1 : k < n) (h2 : k < m) (h3 : -100000 ≤ lo k.toNat ∧ lo k.toNat ≤ hi k.toNat ∧ hi k.toNat ≤ 100000) (h4 : 0 ≤ pt k.toNat ∧ pt k.toNat ≤ 65535)
    (hm : 0 ≤ pt k.toNat % (hi k.toNat - lo k.toNat + 1) ∧ pt k.toNat % (hi k.toNat - lo k.toNat + 1) < hi k.toNat - lo k.toNat + 1) :
    CallsH Try.prog 16 [.one (.iv (.g (.int .i64 k))), .one (.ptr 0 0), .one (.ptr 1 0)] ([some [.iv (.g (.int .i64 s)), .iv (.g (.int .i64 st)), .iv (.lst 2 n (spanF lo hi))], some [.iv (.lst 1 m (partF pt))], some [.iv (.g (.int .i64 a)), .iv (.g (.int .i64 b))]]) (iA .i64 (lo k.toNat + pt k.toNat % (hi k.toNat - lo k.toNat + 1))) ([some [.iv (.g (.int .i64 s)), .iv (.g (.int .i64 st)), .iv (.lst 2 n (spanF lo hi))], some [.iv (.lst 1 m (partF pt))], some [.iv (.g (.int .i64 a)), .iv (.g (.int .i64 b))], some [.iv (.g (.int .i64 (lo k.toNat))), .iv (.g (.int .i64 (hi k.toNat)))]]) := by
  refine CallsH_of Try.func16 rfl (by rw [Try.ntmps16]; simp) fun g => ?_
  simp only [Try.ntmps16, argEnv, Nat.zero_add, Nat.reduceAdd]
  repeat' (first
    | (with_reducible refine AW_seq_k fun K hK => ?_)
    | ((with_reducible refine And.intro ?_ ?_); focus (first | exact True.intro | (with_reducible assumption) | omega | (refine ⟨?_, ?_⟩ <;> omega) | (intro _; first | exact True.intro | (with_reducible assumption) | omega) | (simp (disch := omega) only [Bool.and_eq_true, Bool.or_eq_true, decide_eq_true_eq, bne_iff_ne, ne_eq] at *; first | done | omega | (intros; omega)) | (simp; done) | (simp; omega)))
    | (with_reducible refine AW_skip ?_)
    | (with_reducible refine AW_exit ?_)
    | (with_reducible refine AW_ret ?_)
    | (with_reducible refine retK_n ?_)
    | (with_reducible refine retK_n' ?_)
    | (with_reducible refine retH_n rfl rfl ?_)
    | (with_reducible refine retH_n' rfl rfl ?_)
    | (with_reducible refine AW_condI ?_)
    | ((with_reducible refine condN_t ?_ ?_) <;> (intro hc; (try simp only [Bool.and_eq_true, Bool.or_eq_true, Bool.not_eq_true', Bool.and_eq_false_iff, Bool.or_eq_false_iff, decide_eq_true_eq, decide_eq_false_iff_not, bne_iff_ne, beq_iff_eq, reduceCtorEq, bne_eq_false_iff_eq, beq_eq_false_iff_ne, Bool.not_eq_false', Int.not_le, Int.not_lt, Bool.not_not] at hc); (try (exfalso; first | contradiction | omega))))
    | (with_reducible refine AW_block ?_)
    | (with_reducible refine AW_region ?_)
    | ((with_reducible refine AW_regionD ?_ ?_ ?_); (focus kernel_rfl); (focus kernel_rfl))
    | ((with_reducible refine And.intro ?_ ?_); focus ((with_reducible show chkR _ _ _ = true); kernel_rfl))
    | ((fail_if_success (with_reducible show AW _ _ _ _)); simp only [callK_N, callGK_f, callDK_f, callDGK_f, retN, retHN, blockA, arun_nil, arun_plain, arun_guard, plainF, guardF, guardB, arunD_nil, arunD_plain, arunD_guard, plainDF, guardDF, guardDB, AS.ent, Eff.noApp, Eff.tgt, ftF, AV.refs, TV.refs, CV.refs, LV.refs, Op.operands, Call.operands, List.append_toArray, List.push_toArray, List.flatMap_cons, List.flatMap_nil, List.toList_toArray, Option.toArray, List.reverse_cons, List.reverse_nil, opF, AS.ev, constA, lk, AS.get, AV.tv, AV.nd, AS.eff, AS.put, argEnv, PT.tv, PV.av, AV.mbOf, hset, hget, TV.cells, dstOk, thenA, gB, isB, toB, TV.bool?, TV.int?, intF, loadF, storeF, fieldF, indexF, lenF, sliceF, optI, appF, minmaxF, ipCells, fillF, repC, partsF, lvsF, TV.lv, LV.tv, purgeE, purgeC, purgeH, AV.purge, CV.purge, AV.has, TV.has, CV.has, LV.has, calleeF, argsF, tvsF, toPT, toIV, toIVs, toPTs, toPV, civ, isIv, iA, bA, minmaxF, blockA, List.map_cons, List.map_nil, List.length_nil, List.length_cons, List.getElem?_cons_zero, List.getElem?_cons_succ, List.getElem?_nil, Option.getD_some, Option.getD_none, Option.bind_some, Option.bind_none, List.take_succ_cons, List.take_zero, List.drop_succ_cons, List.drop_zero, List.take_nil, List.drop_nil, List.cons_append, List.nil_append, List.append_nil, List.getD_cons_zero, List.getD_cons_succ, Option.map_some, Option.map_none, Option.isSome_some, Option.isSome_none, List.size_toArray, List.any_cons, List.any_nil, List.mem_cons, if_true, if_false, ite_true, ite_false, reduceIte, reduceCtorEq, cond_true, cond_false, Nat.reduceAdd, Nat.reduceLT, Nat.reduceLeDiff, Nat.reduceEqDiff, Nat.reduceMul, Nat.reduceSub, Nat.reduceBEq, Nat.zero_add, Nat.add_zero, Nat.sub_zero, Nat.le_refl, Nat.zero_mul, Nat.mul_zero, Nat.one_mul, Nat.mul_one, Int.toNat_zero, Int.toNat_natCast, Bool.or_false, Bool.false_or, Bool.or_true, Bool.true_or, Bool.and_true, Bool.true_and, Bool.and_false, Bool.false_and, beq_self_eq_true, beq_true, beq_false, Bool.not_true, Bool.not_false, and_true, true_and, and_false, false_and, and_self, imp_self, Bool.cond_false_right, Bool.cond_true_left, implies_true, forall_const, true_implies, false_implies, Option.some.injEq, Prod.mk.injEq, ne_eq, not_false_eq_true, not_true_eq_false, eq_self, Nat.lt_irrefl, Nat.not_lt_zero, resF, tupA, Try.f16, of_24_2, ty_22, sl_22, ar_22, ty_30, zc_30, of_30_0, ty_3, ty_25, sl_25, ar_25, ty_34, in_3, of_30_1, spanF0, spanF1, partF0])
    | ((fail_if_success (with_reducible show AW _ _ _ _)); simp (disch := omega) only [seaWrap, seaDiv, seaMod])
    | ((with_reducible refine hK _ ?_); clear hK K))

set_option maxRecDepth 100000 in
set_option maxHeartbeats 4000000 in
theorem value_h2 (s st : Int) (n : Nat) (lo hi : Nat → Int) (m : Nat) (pt : Nat → Int) (a b c d k : Int) (h0 : 0 ≤ k) (h1 : k < n) (h2 : k < m) (h3 : -100000 ≤ lo k.toNat ∧ lo k.toNat ≤ hi k.toNat ∧ hi k.toNat ≤ 100000) (h4 : 0 ≤ pt k.toNat ∧ pt k.toNat ≤ 65535)
    (hm : 0 ≤ pt k.toNat % (hi k.toNat - lo k.toNat + 1) ∧ pt k.toNat % (hi k.toNat - lo k.toNat + 1) < hi k.toNat - lo k.toNat + 1) :
    CallsH Try.prog 16 [.one (.iv (.g (.int .i64 k))), .one (.ptr 0 0), .one (.ptr 1 0)] ([some [.iv (.g (.int .i64 s)), .iv (.g (.int .i64 st)), .iv (.lst 2 n (spanF lo hi))], some [.iv (.lst 1 m (partF pt))], some [.iv (.g (.int .i64 a)), .iv (.g (.int .i64 b))], some [.iv (.g (.int .i64 c)), .iv (.g (.int .i64 d))]]) (iA .i64 (lo k.toNat + pt k.toNat % (hi k.toNat - lo k.toNat + 1))) ([some [.iv (.g (.int .i64 s)), .iv (.g (.int .i64 st)), .iv (.lst 2 n (spanF lo hi))], some [.iv (.lst 1 m (partF pt))], some [.iv (.g (.int .i64 a)), .iv (.g (.int .i64 b))], some [.iv (.g (.int .i64 c)), .iv (.g (.int .i64 d))], some [.iv (.g (.int .i64 (lo k.toNat))), .iv (.g (.int .i64 (hi k.toNat)))]]) := by
  refine CallsH_of Try.func16 rfl (by rw [Try.ntmps16]; simp) fun g => ?_
  simp only [Try.ntmps16, argEnv, Nat.zero_add, Nat.reduceAdd]
  repeat' (first
    | (with_reducible refine AW_seq_k fun K hK => ?_)
    | ((with_reducible refine And.intro ?_ ?_); focus (first | exact True.intro | (with_reducible assumption) | omega | (refine ⟨?_, ?_⟩ <;> omega) | (intro _; first | exact True.intro | (with_reducible assumption) | omega) | (simp (disch := omega) only [Bool.and_eq_true, Bool.or_eq_true, decide_eq_true_eq, bne_iff_ne, ne_eq] at *; first | done | omega | (intros; omega)) | (simp; done) | (simp; omega)))
    | (with_reducible refine AW_skip ?_)
    | (with_reducible refine AW_exit ?_)
    | (with_reducible refine AW_ret ?_)
    | (with_reducible refine retK_n ?_)
    | (with_reducible refine retK_n' ?_)
    | (with_reducible refine retH_n rfl rfl ?_)
    | (with_reducible refine retH_n' rfl rfl ?_)
    | (with_reducible refine AW_condI ?_)
    | ((with_reducible refine condN_t ?_ ?_) <;> (intro hc; (try simp only [Bool.and_eq_true, Bool.or_eq_true, Bool.not_eq_true', Bool.and_eq_false_iff, Bool.or_eq_false_iff, decide_eq_true_eq, decide_eq_false_iff_not, bne_iff_ne, beq_iff_eq, reduceCtorEq, bne_eq_false_iff_eq, beq_eq_false_iff_ne, Bool.not_eq_false', Int.not_le, Int.not_lt, Bool.not_not] at hc); (try (exfalso; first | contradiction | omega))))
    | (with_reducible refine AW_block ?_)
    | (with_reducible refine AW_region ?_)
    | ((with_reducible refine AW_regionD ?_ ?_ ?_); (focus kernel_rfl); (focus kernel_rfl))
    | ((with_reducible refine And.intro ?_ ?_); focus ((with_reducible show chkR _ _ _ = true); kernel_rfl))
    | ((fail_if_success (with_reducible show AW _ _ _ _)); simp only [callK_N, callGK_f, callDK_f, callDGK_f, retN, retHN, blockA, arun_nil, arun_plain, arun_guard, plainF, guardF, guardB, arunD_nil, arunD_plain, arunD_guard, plainDF, guardDF, guardDB, AS.ent, Eff.noApp, Eff.tgt, ftF, AV.refs, TV.refs, CV.refs, LV.refs, Op.operands, Call.operands, List.append_toArray, List.push_toArray, List.flatMap_cons, List.flatMap_nil, List.toList_toArray, Option.toArray, List.reverse_cons, List.reverse_nil, opF, AS.ev, constA, lk, AS.get, AV.tv, AV.nd, AS.eff, AS.put, argEnv, PT.tv, PV.av, AV.mbOf, hset, hget, TV.cells, dstOk, thenA, gB, isB, toB, TV.bool?, TV.int?, intF, loadF, storeF, fieldF, indexF, lenF, sliceF, optI, appF, minmaxF, ipCells, fillF, repC, partsF, lvsF, TV.lv, LV.tv, purgeE, purgeC, purgeH, AV.purge, CV.purge, AV.has, TV.has, CV.has, LV.has, calleeF, argsF, tvsF, toPT, toIV, toIVs, toPTs, toPV, civ, isIv, iA, bA, minmaxF, blockA, List.map_cons, List.map_nil, List.length_nil, List.length_cons, List.getElem?_cons_zero, List.getElem?_cons_succ, List.getElem?_nil, Option.getD_some, Option.getD_none, Option.bind_some, Option.bind_none, List.take_succ_cons, List.take_zero, List.drop_succ_cons, List.drop_zero, List.take_nil, List.drop_nil, List.cons_append, List.nil_append, List.append_nil, List.getD_cons_zero, List.getD_cons_succ, Option.map_some, Option.map_none, Option.isSome_some, Option.isSome_none, List.size_toArray, List.any_cons, List.any_nil, List.mem_cons, if_true, if_false, ite_true, ite_false, reduceIte, reduceCtorEq, cond_true, cond_false, Nat.reduceAdd, Nat.reduceLT, Nat.reduceLeDiff, Nat.reduceEqDiff, Nat.reduceMul, Nat.reduceSub, Nat.reduceBEq, Nat.zero_add, Nat.add_zero, Nat.sub_zero, Nat.le_refl, Nat.zero_mul, Nat.mul_zero, Nat.one_mul, Nat.mul_one, Int.toNat_zero, Int.toNat_natCast, Bool.or_false, Bool.false_or, Bool.or_true, Bool.true_or, Bool.and_true, Bool.true_and, Bool.and_false, Bool.false_and, beq_self_eq_true, beq_true, beq_false, Bool.not_true, Bool.not_false, and_true, true_and, and_false, false_and, and_self, imp_self, Bool.cond_false_right, Bool.cond_true_left, implies_true, forall_const, true_implies, false_implies, Option.some.injEq, Prod.mk.injEq, ne_eq, not_false_eq_true, not_true_eq_false, eq_self, Nat.lt_irrefl, Nat.not_lt_zero, resF, tupA, Try.f16, of_24_2, ty_22, sl_22, ar_22, ty_30, zc_30, of_30_0, ty_3, ty_25, sl_25, ar_25, ty_34, in_3, of_30_1, spanF0, spanF1, partF0])
    | ((fail_if_success (with_reducible show AW _ _ _ _)); simp (disch := omega) only [seaWrap, seaDiv, seaMod])
    | ((with_reducible refine hK _ ?_); clear hK K))

end Go.Proofs.Ytmljnelmnagfoaa
