/- AB: walks on abstract states. -/
import Derived.Test.YtifoncmlelinjaaZ
set_option linter.unusedVariables false
set_option linter.unusedSimpArgs false
namespace Go.Proofs.Ytifoncmlelinjaa
open Go.RowKit Go.Sea
attribute [local go_sem] callK_N gf gk gdrop lkL setL lsF ltAll rdyL bodyF roundQ roundS loopQ loopS jumpOf inLs yV yA bAV zipPut purgeG_nil purgeG_cons List.tail_cons Option.isNone_none Option.isNone_some callGK_f callDK_f callDGK_f retN retHN blockA arun_nil arun_plain arun_guard plainF guardF guardB arunD_nil arunD_plain arunD_guard plainDF guardDF guardDB AS.ent Eff.noApp Eff.tgt ftF AV.refs TV.refs CV.refs LV.refs Op.operands Call.operands List.append_toArray List.push_toArray List.flatMap_cons List.flatMap_nil List.toList_toArray Option.toArray nidF nidA List.reverse_cons List.reverse_nil opF AS.ev constA lk AS.get AV.tv AV.nd AS.eff AS.put argEnv PT.tv PV.av AV.mbOf hset hget TV.cells dstOk thenA gB isB toB TV.bool? TV.int? intF loadF storeF fieldF indexF lenF sliceF optI appF minmaxF fillF partsF lvsF TV.lv LV.tv purgeE purgeC purgeH AV.purge CV.purge AV.has TV.has CV.has LV.has calleeF argsF tvsF toPT toIV toIVs toPTs toPV iA bA List.map_cons List.map_nil List.length_nil List.length_cons List.getElem?_cons_zero List.getElem?_cons_succ List.getElem?_nil Option.getD_some Option.getD_none Option.bind_some Option.bind_none List.take_succ_cons List.take_zero List.drop_succ_cons List.drop_zero List.take_nil List.drop_nil List.cons_append List.nil_append List.append_nil List.getD_cons_zero List.getD_cons_succ Option.map_some Option.map_none Option.isSome_some Option.isSome_none List.size_toArray List.any_cons List.any_nil List.mem_cons if_true if_false ite_true ite_false cond_true cond_false Nat.zero_add Nat.add_zero Nat.sub_zero Nat.le_refl Nat.zero_mul Nat.mul_zero Nat.one_mul Nat.mul_one Int.toNat_zero Int.toNat_natCast Bool.or_false Bool.false_or Bool.or_true Bool.true_or Bool.and_true Bool.true_and Bool.and_false Bool.false_and beq_self_eq_true beq_true beq_false Bool.not_true Bool.not_false and_true true_and and_false false_and and_self imp_self Bool.cond_false_right Bool.cond_true_left implies_true forall_const true_implies false_implies Option.some.injEq Prod.mk.injEq ne_eq not_false_eq_true not_true_eq_false eq_self Nat.lt_irrefl Nat.not_lt_zero op2F ncF slice3F offF slArrF copyF clearF toArrF callDK_t calleeT eqN barOp boF seaMin seaMax seaNat1 seaNat2 Value.bool.injEq Value.int.injEq srcF TV.dp IV.eqv PT.eqv PV.eqv All2 keepE hupd callZ_N AS.frz AS.frzW frzs frzsOk frzOk frzE frzA frzT frzC frzG frzH hdel cmpS eqF eqC gvs eqVs eqV decide_true resF tupA inlQ okL okGL okG nextL nextF barOpN AS.mv mvE mvG_nil mvG_cons mvH mvO AV.mv TV.mv CV.mv LV.mv famL_mv famL_purge famL_snoc famL_zero wkH wkC wkV nilA nilC AV.ok TV.ok CV.ok LV.ok okB forall_eq_or_imp forall_eq List.not_mem_nil List.mem_singleton true_or or_true or_false false_or or_self exists_prop AV.t.injEq TV.one.injEq CV.iv.injEq IV.g.injEq TV.agg.injEq List.cons.injEq repC_0 repC_1 repC_2 repC_3 rowV_len rowV_pur rowV_has rowV_frz frzC isIv_iv civ_iv rowV_all List.map_append retON AV.to TV.to CV.to
theorem ar_48 : arD Try.prog 48 = none := by kernel_rfl
theorem le_48 : lenD Try.prog 48 = some true := by kernel_rfl
theorem sl_48 : slD Try.prog 48 = some (1, 2, 49) := by kernel_rfl
theorem ty_49 : tyD Try.prog 49 = some (false, 1) := by kernel_rfl

def u16I (C : Nat → Int) (i _ : Nat) : IV := .g (.int .u16 (C i))
theorem Has.of_recs {n : Nat} {m : Nat → Nat} {D : Nat → Nat → Int} {q : Nat} {M : Nat → Nat} {F : Nat → Nat → Int} (h : vB n m D = true) (hr : recsB (readN n m D) (recL (hv n D)) (recF (hv n D)) q M F = true) : Has n m D q M F := by
  obtain ⟨h1, h2⟩ := of_decide_eq_true hr
  have h3 := (Has.self h).e
  rw [h1] at h2 h3
  refine ⟨h, h1, fun i hi => ⟨(h2 i hi).1, fun j hj => (h2 i hi).2 j (by rw [(h2 i hi).1]; exact hj)⟩, ?_⟩
  rw [h3]
  exact encP_congr q fun i hi => (h2 i hi).1
theorem Has.congr {n : Nat} {m : Nat → Nat} {D : Nat → Nat → Int} {q : Nat} {M : Nat → Nat} {F : Nat → Nat → Int} {D' : Nat → Nat → Int} (h : Has n m D q M F) (h' : Has n m D' (readN n m D) (recL (hv n D)) (recF (hv n D))) : Has n m D' q M F := by
  have e := h.c
  refine ⟨h'.v, h'.c.trans e, fun i hi => ?_, ?_⟩
  · obtain ⟨a, b⟩ := h'.r i (by rw [e]; exact hi)
    obtain ⟨c, d⟩ := h.r i hi
    exact ⟨a.trans c, fun j hj => (b j (by rw [c]; exact hj)).trans (d j hj)⟩
  · rw [h'.e, e]
    exact encP_congr q fun i hi => (h.r i hi).1
theorem snoc_has {n : Nat} {m : Nat → Nat} {D : Nat → Nat → Int} {q : Nat} {M : Nat → Nat} {F : Nat → Nat → Int} {D' : Nat → Nat → Int} {r : Nat} {R : Nat → Int} (h : Has n m D q M F) (h' : Has n m D' (readN n m D + 1) (snocM (readN n m D) (recL (hv n D)) r) (snocD (readN n m D) (recF (hv n D)) R)) : Has n m D' (q + 1) (snocM q M r) (snocD q F R) := by
  have e := h.c
  rw [e] at h'
  refine ⟨h'.v, h'.c, fun i hi => ?_, ?_⟩
  · obtain ⟨a, b⟩ := h'.r i hi
    unfold snocM snocD at *
    by_cases hq : i < q
    · rw [if_pos hq] at a b ⊢
      rw [if_pos hq] at b ⊢
      obtain ⟨c, d⟩ := h.r i hq
      exact ⟨a.trans c, fun j hj => (b j (by rw [c]; exact hj)).trans (d j hj)⟩
    · rw [if_neg hq] at a b ⊢
      rw [if_neg hq] at b ⊢
      exact ⟨a, b⟩
  · rw [h'.e, encP_snoc, encP_snoc, encP_congr q fun i hi => (h.r i hi).1]
/-- The state of a script: the disk's bytes, and the records that it has to have. -/
structure Scr (n i : Nat) (D : Nat → Nat → Int) (q : Nat) (M : Nat → Nat) (F : Nat → Nat → Int) : Prop where
  h : Has n c64 D q M F
  d : BytD D
  f : BytD F
  qi : q ≤ i
  m : ∀ j, j < q → M j ≤ 600
def Rst (n i : Nat) (E : Nat → Nat → Int) (q : Nat) (M : Nat → Nat) (F : Nat → Nat → Int) (q' : Nat) (M' : Nat → Nat) (F' : Nat → Nat → Int) (af : Int) : Prop :=
  vB n c64 E = true ∧ rdE n c64 E = 0 ∧ BytD E ∧ readN n c64 E ≤ 1000000 ∧
    ((recsB (readN n c64 E) (recL (hv n E)) (recF (hv n E)) q' M' F' = true ∧ Scr n (i + 1) E q' M' F') ∨
     (recsB (readN n c64 E) (recL (hv n E)) (recF (hv n E)) q' M' F' = false ∧ recsB (readN n c64 E) (recL (hv n E)) (recF (hv n E)) q M F = true ∧ (af < 10000) = True ∧ Scr n (i + 1) E q M F))
theorem rst_of {n i : Nat} {E : Nat → Nat → Int} {q : Nat} {M : Nat → Nat} {F : Nat → Nat → Int} {q' : Nat} {M' : Nat → Nat} {F' : Nat → Nat → Int} {af : Int} (hn : n ≤ 63) (hE : BytD E) (hF : BytD F) (hF' : BytD F') (hq : q ≤ i) (hq' : q' ≤ i + 1) (hm : ∀ j, j < q → M j ≤ 600) (hm' : ∀ j, j < q' → M' j ≤ 600)
    (h : Has n c64 E q' M' F' ∨ (Has n c64 E q M F ∧ af < 10000)) : Rst n i E q M F q' M' F' af := by
  have le := readN_le (n := n) (m := c64) (D := E)
  have hh : hlf n ≤ 31 := by unfold hlf; omega
  have hv_ : vB n c64 E = true := by rcases h with h | h; exact h.v; exact h.1.v
  refine ⟨hv_, rdE_has hv_, hE, by omega, ?_⟩
  cases hb : recsB (readN n c64 E) (recL (hv n E)) (recF (hv n E)) q' M' F' with
  | true => exact Or.inl ⟨rfl, Has.of_recs hv_ hb, hE, hF', hq', hm'⟩
  | false =>
    rcases h with h | ⟨h, hl⟩
    · rw [h.recs] at hb; cases hb
    · exact Or.inr ⟨rfl, h.recs, eq_true hl, h, hE, hF, by omega, hm⟩
theorem scr_cut {n i : Nat} {D : Nat → Nat → Int} {q : Nat} {M : Nat → Nat} {F : Nat → Nat → Int} (hs : Scr n i D q M F) (hn : n ≤ 17) {r : Nat} {R : Nat → Int} (hr : r ≤ 600) (hR : Byt R) {af : Int} (h0 : 0 ≤ af) :
    cutE n c64 D r af = 17 ∨ ∃ E, apH n D r R af.toNat = E ∧ cutE n c64 D r af = 0 ∧ cutN n c64 D r af = n ∧ Rst n i E q M F (q + 1) (snocM q M r) (snocD q F R) af := by
  obtain ⟨c1, c2⟩ := cut_val (n := n) (m := c64) (D := D) (r := r) (af := af) hs.h.v (by omega) h0
  cases hfit : fitB n D r with
  | false => exact Or.inl (c2 hfit)
  | true =>
    refine Or.inr ⟨_, rfl, (c1 hfit).1, (c1 hfit).2, ?_⟩
    have hl := lim_lt (n := n) (m := c64) (D := D) (r := r) (by omega)
    refine rst_of (by omega) (apH_b hs.d hR) hs.f (fun j => by unfold snocD; split; exact hs.f j; exact hR) hs.qi (by have := hs.qi; omega) hs.m (fun j hj => ?_) ?_
    · unfold snocM
      by_cases h : j < q
      · rw [if_pos h]; exact hs.m j h
      · rw [if_neg h]; exact hr
    · by_cases h : lim n D r < af.toNat
      · exact Or.inl (snoc_has hs.h (cut_new hs.d R (by omega) hs.h.v hfit h))
      · exact Or.inr ⟨hs.h.congr (cut_old hs.d R hs.h.v hfit (by omega)), by omega⟩
def hM (q : Nat) (M : Nat → Nat) (j : Nat) : Nat := M (q / 2 + j)
def hF (q : Nat) (F : Nat → Nat → Int) (j : Nat) : Nat → Int := F (q / 2 + j)
theorem scr_cmp {n i : Nat} {D : Nat → Nat → Int} {q : Nat} {M : Nat → Nat} {F : Nat → Nat → Int} (hs : Scr n i D q M F) (hn : n ≤ 17) {af : Int} (h0 : 0 ≤ af) :
    cmpE n c64 D (q - q / 2) (hM q M) af = 17 ∨ ∃ E, cmpD n D (q - q / 2) (hM q M) (hF q F) af.toNat = E ∧ cmpE n c64 D (q - q / 2) (hM q M) af = 0 ∧ cmpN n c64 D (q - q / 2) (hM q M) af = n ∧ Rst n i E q M F (q - q / 2) (hM q M) (hF q F) af := by
  have hm : ∀ j, j < q - q / 2 → hM q M j ≤ 600 := fun j hj => hs.m _ (by omega)
  obtain ⟨c1, c2⟩ := cmp_val (n := n) (m := c64) (D := D) (n' := q - q / 2) (m' := hM q M) (af := af) hs.h.v (fun j hj => by have := hm j hj; omega) h0
  by_cases hfit : encP (hM q M) (q - q / 2) ≤ hlf n * 64
  · refine Or.inr ⟨_, rfl, (c1 hfit).1, (c1 hfit).2, ?_⟩
    obtain ⟨k, hsz, hk1, hk, hok⟩ := vB_parts hs.d hs.h.v
    have hh : hlf n ≤ 8 := by unfold hlf; omega
    refine rst_of (by omega) (cmpD_b hs.d (by omega) (fun j => hs.f _)) hs.f (fun j => hs.f _) hs.qi (by have := hs.qi; omega) hs.m hm ?_
    by_cases h : hlf n * 64 < af.toNat
    · exact Or.inl (cmp_new hs.d _ _ _ hs.h.v (fun j hj => by have := hm j hj; omega) hfit h)
    · exact Or.inr ⟨hs.h.congr (cmp_old hs.d _ _ _ hs.h.v (by omega)), by omega⟩
  · exact Or.inl (c2 hfit)

theorem cnt_zero (L : Nat) : cnt (fun _ => 0) L = 0 := cnt_eq (fun i hi => absurd hi (Nat.not_lt_zero _)) fun h => by have := h.2.1; simp at this
theorem new_has {n : Nat} (h3 : 3 ≤ n) (h63 : n ≤ 63) (ho : n % 2 = 1) (M : Nat → Nat) (F : Nat → Nat → Int) : Has n c64 zD 0 M F := by
  have hb : hv n zD = fun _ => 0 := rfl
  have hz : vB n c64 zD = true := by
    unfold vB
    rw [(show Szd n c64 from ⟨h3, h63, ho, fun _ _ => rfl⟩).b, decide_eq_true (show zD 0 0 ≤ 1 by decide)]
    show okP (hv n zD) (hlf n * 64) = true
    rw [hb]
    unfold okP endP
    rw [cnt_zero]
    exact decide_eq_true (by show (0 : Nat) = _ ∨ ((0 : Nat) < _ ∧ (0 : Int) = 0); unfold hlf; omega)
  refine ⟨hz, ?_, fun i hi => absurd hi (Nat.not_lt_zero _), ?_⟩
  · unfold readN; rw [if_pos hz, hb, cnt_zero]
  · rw [hb]; unfold endP; rw [cnt_zero]; rfl
theorem few_0 {n' : Nat} {m' : Nat → Nat} {D' : Nat → Nat → Int} (hn' : n' ≤ 9223372036854775807) (hm' : ∀ i, i < n' → m' i ≤ 9223372036854775807) : CallsP Try.prog 12 [.agg [.g (.slice none 0 0)], .one (.lst 1 n' (rowsI m' D'))] (.t (.one (.g (.bool (fewB 0 c64 n' m'))))) :=
  (few_p 0 c64 zD n' m' D' (by omega) hn' (fun _ h => absurd h (Nat.not_lt_zero _)) hm').eqv ⟨⟨⟨rfl, rfl⟩, trivial⟩, PT.eqv_refl _, trivial⟩ (PV.eqv_refl _)
theorem new_t {x : Int} (hx : -9223372036854775808 ≤ x ∧ x ≤ 9223372036854775807) {n : Nat} {e : Int} (h1 : newN x = n) (h2 : newE x = e) : CallsP Try.prog 15 [.one (.g (.int .i64 x))] (.tup [.agg [.lst 1 n (rowsI c64 zD)], .one (.g (.int .i64 e))]) := by
  have h := new_p x hx
  rw [h1, h2] at h
  exact h
theorem recs_h {n n' : Nat} {m m' : Nat → Nat} {D D' : Nat → Nat → Int} (hn : n ≤ 9223372036854775807) (hn' : n' ≤ 9223372036854775807) (hm : ∀ i, i < n → m i ≤ 9223372036854775807) (hm' : ∀ i, i < n' → m' i ≤ 9223372036854775807) {b : Bool} (h : recsB n m D n' m' D' = b) {k : Nat} {f : Nat → Nat → IV} (hk : k = n') (hf : ∀ i o, i < n' → o < 1 → (f i o).eqv (rowsI m' D' i o)) : CallsP Try.prog 26 [.one (.lst 1 n (rowsI m D)), .one (.lst 1 k f)] (.t (.one (.g (.bool b)))) := by
  subst hk
  exact (recs_t hn hn' hm hm' h).eqv ⟨PT.eqv_refl _, ⟨rfl, rfl, hf⟩, trivial⟩ (PV.eqv_refl _)
theorem cc_h {n : Nat} {m : Nat → Nat} {D : Nat → Nat → Int} (hn : n ≤ 9223372036854775807) (hm : ∀ i, i < n → m i ≤ 9223372036854775807) (hD : BytD D) {n' : Nat} {m' : Nat → Nat} {D' : Nat → Nat → Int} (hn' : n' ≤ 100) (hm' : ∀ i, i < n' → m' i ≤ 9223372036854775807) {af : Int} (haf : -9223372036854775808 ≤ af ∧ af ≤ 9223372036854775807) {k : Nat} {f : Nat → Nat → IV} (hk : k = n') (hf : ∀ i o, i < n' → o < 1 → (f i o).eqv (rowsI m' D' i o)) : CallsP Try.prog 31 [.agg [.lst 1 n (rowsI m D)], .one (.lst 1 k f), .one (.g (.int .i64 af))] (.tup [.agg [.lst 1 (cmpN n m D n' m' af) (rowsI c64 (cmpD n D n' m' D' af.toNat))], .one (.g (.int .i64 (cmpE n m D n' m' af)))]) := by
  subst hk
  exact (cc_p n m D hn hm hD k m' D' hn' hm' af haf).eqv ⟨PT.eqv_refl _, ⟨rfl, rfl, hf⟩, PT.eqv_refl _, trivial⟩ (PV.eqv_refl _)
abbrev ScrI : Type := Nat × (Nat → Nat → Int) × Nat × (Nat → Nat) × (Nat → Nat → Int)
abbrev Scr.st {n i : Nat} {D : Nat → Nat → Int} {q : Nat} {M : Nat → Nat} {F : Nat → Nat → Int} (_ : Scr n i D q M F) : ScrI := (i, D, q, M, F)
theorem hz1 (q : Nat) : ((q : Int) - (q : Int) / 2).toNat = q - q / 2 := by omega
theorem hz2 (q : Nat) : ((q : Int) / 2).toNat = q / 2 := by omega
theorem Scr.step {n i : Nat} {D : Nat → Nat → Int} {q : Nat} {M : Nat → Nat} {F : Nat → Nat → Int} (h : Scr n i D q M F) : Scr n (i + 1) D q M F := ⟨h.h, h.d, h.f, Nat.le_succ_of_le h.qi, h.m⟩

set_option maxRecDepth 100000 in
set_option maxHeartbeats 4000000 in
theorem law7_b (x : Int) (hx : -9223372036854775808 ≤ x ∧ x ≤ 9223372036854775807) (p : Nat) (m : Nat → Nat) (P : Nat → Nat → Int) (hp : p ≤ 9223372036854775807) (hm : ∀ i, i < p → m i ≤ 9223372036854775807) (hP : BytD P) (kn : Nat) (G : Nat → Int) (hkn : kn ≤ 9223372036854775807) (hG : Byt G) (cn : Nat) (U : Nat → Int) (hcn : cn ≤ 9223372036854775807) (hU : ∀ i, 0 ≤ U i ∧ U i < 65536) (hb : 17 < x ∨ fewB 0 c64 p m = false ∨ kn < p ∨ cn < p) : CallsP Try.prog 7 [.one (.g (.int .i64 (x))), .one (.lst 1 (p) (rowsI (m) (P))), .one (.lst 1 (kn) (bytI (G))), .one (.lst 1 (cn) (u16I (U)))] (.t (.one (.g (.bool (true))))) := by
  refine CallsP_of Try.func7 rfl (by rw [Try.ntmps7]; simp) ?_
  simp only [Try.ntmps7, List.map_cons, List.map_nil, PT.tv, argEnv, Nat.zero_add, Nat.reduceAdd]
  repeat' (first
    | (with_reducible refine callDGK_f0 ?_)
    | (with_reducible refine callGK_f0 ?_)
    | ((with_reducible show AW _ _ _ _); first
      | (with_reducible refine AW_seq_k fun K hK => ?_)
      | (with_reducible refine AW_skip ?_)
      | (with_reducible refine AW_exit ?_)
      | (with_reducible refine AW_ret ?_)
      | (with_reducible refine AW_condI ?_)
      | (with_reducible refine AW_block ?_)
      | ((with_reducible show AW _ (Code.region _ _ _) _ _); first
          | (with_reducible refine AW_regionP 0 [0, 1, 2, 3] ?_)
          | (with_reducible refine AW_regionP 1 [0, 1, 2, 3] ?_)
          | (with_reducible refine AW_regionP 2 [0, 1, 2, 3, 9] ?_)
          | (with_reducible refine AW_regionP 3 [9] ?_)
          | (with_reducible refine AW_regionP 4 [0, 1, 2, 3, 9] ?_)
          | (with_reducible refine AW_regionP 5 [1, 2, 3, 9, 10, 11] ?_)
          | (with_reducible refine AW_regionP 6 [9, 11] ?_)
          | (with_reducible refine AW_regionP 7 [1, 2, 3, 9, 10] ?_)
          | (with_reducible refine AW_regionP 8 [1, 2, 3, 9, 10, 12] ?_)
          | (with_reducible refine AW_regionP 9 [2, 3, 9, 10, 12, 58, 59, 60] ?_)
          | (with_reducible refine AW_regionP 10 [2, 3, 9, 10, 12, 58, 59, 60] ?_)
          | (with_reducible refine AW_regionP 11 [2, 3, 9, 10, 12, 13, 14, 58, 59, 60] ?_)
          | (with_reducible refine AW_regionP 12 [2, 3, 9, 10, 12, 13, 14, 15, 58, 59, 60] ?_)
          | (with_reducible refine AW_regionP 13 [2, 3, 9, 10, 12, 13, 14, 15, 16, 58, 59, 60] ?_)
          | (with_reducible refine AW_regionP 14 [2, 3, 9, 10, 12, 13, 14, 15, 58, 59, 60] ?_)
          | (with_reducible refine AW_regionP 15 [2, 3, 9, 10, 12, 13, 14, 15, 16, 58, 59, 60] ?_)
          | (with_reducible refine AW_regionP 16 [2, 3, 9, 10, 12, 13, 15, 16, 17, 18, 58, 59, 60] ?_)
          | (with_reducible refine AW_regionP 17 [2, 3, 9, 10, 12, 16, 17, 58, 59, 60] ?_)
          | (with_reducible refine AW_regionP 18 [2, 3, 9, 10, 12, 15, 16, 17, 58, 59, 60] ?_)
          | (with_reducible refine AW_regionP 19 [2, 3, 9, 10, 12, 15, 16, 17, 18, 58, 59, 60] ?_)
          | (with_reducible refine AW_regionP 20 [2, 3, 9, 10, 12, 18, 58, 59, 60] ?_)
          | (with_reducible refine AW_regionP 21 [2, 3, 9, 10, 12, 15, 16, 17, 58, 59, 60] ?_)
          | (with_reducible refine AW_regionP 22 [2, 3, 9, 10, 12, 15, 16, 17, 19, 20, 58, 59, 60] ?_)
          | (with_reducible refine AW_regionP 23 [2, 3, 9, 10, 12, 15, 16, 17, 19, 20, 21, 58, 59, 60] ?_)
          | (with_reducible refine AW_regionP 24 [2, 3, 9, 10, 12, 15, 17, 21, 58, 59, 60] ?_)
          | (with_reducible refine AW_regionP 25 [] ?_)
          | (with_reducible refine AW_regionP 26 [2, 3, 9, 10, 12, 15, 17, 21, 58, 59, 60] ?_)
          | (with_reducible refine AW_regionP 27 [2, 3, 9, 10, 12, 15, 21, 58, 59, 60] ?_)
          | (with_reducible refine AW_regionP 28 [2, 3, 9, 10, 15, 58, 59, 60] ?_)
          | (with_reducible refine AW_regionP 29 [2, 3, 9, 10, 12, 58, 59, 60] ?_)
          | (with_reducible refine AW_regionP 30 [9] ?_)))
    | ((first | (with_reducible refine And.intro ?_ ?_) | (with_reducible refine Need.mk ?_)); focus (first | exact True.intro | (with_reducible assumption) | omega | (refine ⟨?_, ?_⟩ <;> omega) | (intro _; first | exact True.intro | (with_reducible assumption) | omega) | (intros; (repeat' (first | exact True.intro | omega | (with_reducible assumption) | (with_reducible refine And.intro ?_ ?_))); done) | (simp (disch := omega) only [Bool.and_eq_true, Bool.or_eq_true, decide_eq_true_eq, bne_iff_ne, ne_eq] at *; first | done | omega | (intros; omega)) | (simp; done) | (simp; omega) | (simp +contextual; done) | (intro h; rw [h]; rfl) | (intros; simp_all; done)))
    | (with_reducible refine retK_n ?_)
    | (with_reducible refine retK_n' ?_)
    | (with_reducible refine retH_n rfl rfl rfl ?_)
    | (with_reducible refine retH_n' rfl rfl rfl ?_)
    | (with_reducible refine retO_n ?_ ?_)
    | (with_reducible refine retO_n' ?_ ?_)
    | ((with_reducible show condN _ _ _ _ _ _); first
      | ((with_reducible refine condN_t ?_ ?_) <;> (intro hc; (try simp only [Bool.and_eq_true, Bool.or_eq_true, Bool.not_eq_true', Bool.and_eq_false_iff, Bool.or_eq_false_iff, decide_eq_true_eq, decide_eq_false_iff_not, bne_iff_ne, beq_iff_eq, reduceCtorEq, bne_eq_false_iff_eq, beq_eq_false_iff_ne, Bool.not_eq_false', Int.not_le, Int.not_lt, Bool.not_not] at hc); ((try (exfalso; rcases hb with hb | hb | hb | hb; omega; (have h9 := hc.1.1.2; rw [hb] at h9; cases h9); omega; omega))); (try (exfalso; first | contradiction | omega)))))
    | ((with_reducible show callN _ _ _ _ _ _ _ _ _ _); first
      | (refine callN_q (k := 11) fnok_11 (head_p) ?_ ?_))
    | ((with_reducible show callGN _ _ _ _ _ _ _ _ _ _); first
      | (refine callGN_q (k := 12) fnok_12 (fun hg => few_0 hp hm) ?_ ?_))
    | ((fail_if_success (with_reducible show AW _ _ _ _)); simp (maxSteps := 2000000) only [go_sem, reduceIte, reduceCtorEq, Nat.reduceAdd, Nat.reduceLT, Nat.reduceLeDiff, Nat.reduceEqDiff, Nat.reduceMul, Nat.reduceSub, Nat.reduceBEq, Try.f7, fnok_11, zc_24, fo_24, fnok_12, le_25, le_22, le_48, fnok_15, ty_24, sl_22, ar_22, ty_25, fnok_33, sl_48, ar_48, ty_49, in_3, sl_25, ar_25, ty_5, fnok_20, zc_25, fnok_31, fnok_24, fnok_26, fnok_13, bytI, rowsI, u16I])
    | ((fail_if_success (with_reducible show AW _ _ _ _)); simp (disch := omega) only [seaWrap, seaDiv, seaMod])
    | ((with_reducible refine hK _ ?_); clear hK K))

set_option maxRecDepth 100000 in
set_option maxHeartbeats 4000000 in
theorem law7_e (x : Int) (hx : -9223372036854775808 ≤ x ∧ x ≤ 9223372036854775807) (p : Nat) (m : Nat → Nat) (P : Nat → Nat → Int) (hp : p ≤ 9223372036854775807) (hm : ∀ i, i < p → m i ≤ 9223372036854775807) (hP : BytD P) (kn : Nat) (G : Nat → Int) (hkn : kn ≤ 9223372036854775807) (hG : Byt G) (cn : Nat) (U : Nat → Int) (hcn : cn ≤ 9223372036854775807) (hU : ∀ i, 0 ≤ U i ∧ U i < 65536) (h1 : newN x = 0) (h2 : newE x = 1) : CallsP Try.prog 7 [.one (.g (.int .i64 (x))), .one (.lst 1 (p) (rowsI (m) (P))), .one (.lst 1 (kn) (bytI (G))), .one (.lst 1 (cn) (u16I (U)))] (.t (.one (.g (.bool (true))))) := by
  refine CallsP_of Try.func7 rfl (by rw [Try.ntmps7]; simp) ?_
  simp only [Try.ntmps7, List.map_cons, List.map_nil, PT.tv, argEnv, Nat.zero_add, Nat.reduceAdd]
  repeat' (first
    | (with_reducible refine callDGK_f0 ?_)
    | (with_reducible refine callGK_f0 ?_)
    | ((with_reducible show AW _ _ _ _); first
      | (with_reducible refine AW_seq_k fun K hK => ?_)
      | (with_reducible refine AW_skip ?_)
      | (with_reducible refine AW_exit ?_)
      | (with_reducible refine AW_ret ?_)
      | (with_reducible refine AW_condI ?_)
      | (with_reducible refine AW_block ?_)
      | ((with_reducible show AW _ (Code.region _ _ _) _ _); first
          | (with_reducible refine AW_regionP 0 [0, 1, 2, 3] ?_)
          | (with_reducible refine AW_regionP 1 [0, 1, 2, 3] ?_)
          | (with_reducible refine AW_regionP 2 [0, 1, 2, 3, 9] ?_)
          | (with_reducible refine AW_regionP 3 [9] ?_)
          | (with_reducible refine AW_regionP 4 [0, 1, 2, 3, 9] ?_)
          | (with_reducible refine AW_regionP 5 [1, 2, 3, 9, 10, 11] ?_)
          | (with_reducible refine AW_regionP 6 [9, 11] ?_)
          | (with_reducible refine AW_regionP 7 [1, 2, 3, 9, 10] ?_)
          | (with_reducible refine AW_regionP 8 [1, 2, 3, 9, 10, 12] ?_)
          | (with_reducible refine AW_regionP 9 [2, 3, 9, 10, 12, 58, 59, 60] ?_)
          | (with_reducible refine AW_regionP 10 [2, 3, 9, 10, 12, 58, 59, 60] ?_)
          | (with_reducible refine AW_regionP 11 [2, 3, 9, 10, 12, 13, 14, 58, 59, 60] ?_)
          | (with_reducible refine AW_regionP 12 [2, 3, 9, 10, 12, 13, 14, 15, 58, 59, 60] ?_)
          | (with_reducible refine AW_regionP 13 [2, 3, 9, 10, 12, 13, 14, 15, 16, 58, 59, 60] ?_)
          | (with_reducible refine AW_regionP 14 [2, 3, 9, 10, 12, 13, 14, 15, 58, 59, 60] ?_)
          | (with_reducible refine AW_regionP 15 [2, 3, 9, 10, 12, 13, 14, 15, 16, 58, 59, 60] ?_)
          | (with_reducible refine AW_regionP 16 [2, 3, 9, 10, 12, 13, 15, 16, 17, 18, 58, 59, 60] ?_)
          | (with_reducible refine AW_regionP 17 [2, 3, 9, 10, 12, 16, 17, 58, 59, 60] ?_)
          | (with_reducible refine AW_regionP 18 [2, 3, 9, 10, 12, 15, 16, 17, 58, 59, 60] ?_)
          | (with_reducible refine AW_regionP 19 [2, 3, 9, 10, 12, 15, 16, 17, 18, 58, 59, 60] ?_)
          | (with_reducible refine AW_regionP 20 [2, 3, 9, 10, 12, 18, 58, 59, 60] ?_)
          | (with_reducible refine AW_regionP 21 [2, 3, 9, 10, 12, 15, 16, 17, 58, 59, 60] ?_)
          | (with_reducible refine AW_regionP 22 [2, 3, 9, 10, 12, 15, 16, 17, 19, 20, 58, 59, 60] ?_)
          | (with_reducible refine AW_regionP 23 [2, 3, 9, 10, 12, 15, 16, 17, 19, 20, 21, 58, 59, 60] ?_)
          | (with_reducible refine AW_regionP 24 [2, 3, 9, 10, 12, 15, 17, 21, 58, 59, 60] ?_)
          | (with_reducible refine AW_regionP 25 [] ?_)
          | (with_reducible refine AW_regionP 26 [2, 3, 9, 10, 12, 15, 17, 21, 58, 59, 60] ?_)
          | (with_reducible refine AW_regionP 27 [2, 3, 9, 10, 12, 15, 21, 58, 59, 60] ?_)
          | (with_reducible refine AW_regionP 28 [2, 3, 9, 10, 15, 58, 59, 60] ?_)
          | (with_reducible refine AW_regionP 29 [2, 3, 9, 10, 12, 58, 59, 60] ?_)
          | (with_reducible refine AW_regionP 30 [9] ?_)))
    | ((first | (with_reducible refine And.intro ?_ ?_) | (with_reducible refine Need.mk ?_)); focus (first | exact True.intro | (with_reducible assumption) | omega | (refine ⟨?_, ?_⟩ <;> omega) | (intro _; first | exact True.intro | (with_reducible assumption) | omega) | (intros; (repeat' (first | exact True.intro | omega | (with_reducible assumption) | (with_reducible refine And.intro ?_ ?_))); done) | (simp (disch := omega) only [Bool.and_eq_true, Bool.or_eq_true, decide_eq_true_eq, bne_iff_ne, ne_eq] at *; first | done | omega | (intros; omega)) | (simp; done) | (simp; omega) | (simp +contextual; done) | (intro h; rw [h]; rfl) | (intros; simp_all; done)))
    | (with_reducible refine retK_n ?_)
    | (with_reducible refine retK_n' ?_)
    | (with_reducible refine retH_n rfl rfl rfl ?_)
    | (with_reducible refine retH_n' rfl rfl rfl ?_)
    | (with_reducible refine retO_n ?_ ?_)
    | (with_reducible refine retO_n' ?_ ?_)
    | ((with_reducible show condN _ _ _ _ _ _); first
      | ((with_reducible refine condN_t ?_ ?_) <;> (intro hc; (try simp only [Bool.and_eq_true, Bool.or_eq_true, Bool.not_eq_true', Bool.and_eq_false_iff, Bool.or_eq_false_iff, decide_eq_true_eq, decide_eq_false_iff_not, bne_iff_ne, beq_iff_eq, reduceCtorEq, bne_eq_false_iff_eq, beq_eq_false_iff_ne, Bool.not_eq_false', Int.not_le, Int.not_lt, Bool.not_not] at hc); (skip); (try (exfalso; first | contradiction | omega)))))
    | ((with_reducible show callN _ _ _ _ _ _ _ _ _ _); first
      | (refine callN_q (k := 11) fnok_11 (head_p) ?_ ?_)
      | (refine callN_q (k := 15) fnok_15 (new_t hx h1 h2) ?_ ?_))
    | ((with_reducible show callGN _ _ _ _ _ _ _ _ _ _); first
      | (refine callGN_q (k := 12) fnok_12 (fun hg => few_0 hp hm) ?_ ?_))
    | ((fail_if_success (with_reducible show AW _ _ _ _)); simp (maxSteps := 2000000) only [go_sem, reduceIte, reduceCtorEq, Nat.reduceAdd, Nat.reduceLT, Nat.reduceLeDiff, Nat.reduceEqDiff, Nat.reduceMul, Nat.reduceSub, Nat.reduceBEq, Try.f7, fnok_11, zc_24, fo_24, fnok_12, le_25, le_22, le_48, fnok_15, ty_24, sl_22, ar_22, ty_25, fnok_33, sl_48, ar_48, ty_49, in_3, sl_25, ar_25, ty_5, fnok_20, zc_25, fnok_31, fnok_24, fnok_26, fnok_13, bytI, rowsI, u16I])
    | ((fail_if_success (with_reducible show AW _ _ _ _)); simp (disch := omega) only [seaWrap, seaDiv, seaMod])
    | ((with_reducible refine hK _ ?_); clear hK K))

set_option maxRecDepth 100000 in
set_option maxHeartbeats 4000000 in
theorem law7_ok (x : Int) (hx : -9223372036854775808 ≤ x ∧ x ≤ 9223372036854775807) (p : Nat) (m : Nat → Nat) (P : Nat → Nat → Int) (hp : p ≤ 9223372036854775807) (hm : ∀ i, i < p → m i ≤ 9223372036854775807) (hP : BytD P) (kn : Nat) (G : Nat → Int) (hkn : kn ≤ 9223372036854775807) (hG : Byt G) (cn : Nat) (U : Nat → Int) (hcn : cn ≤ 9223372036854775807) (hU : ∀ i, 0 ≤ U i ∧ U i < 65536) (n : Nat) (hn17 : n ≤ 17) (h1 : newN x = n) (h2 : newE x = 0) (hpk : p ≤ kn) (hpc : p ≤ cn) (hp20 : p ≤ 20) (hl : ∀ i, i < p → m i ≤ 600) (hs0 : Scr n 0 zD 0 (fun _ => 0) zD) : CallsP Try.prog 7 [.one (.g (.int .i64 (x))), .one (.lst 1 (p) (rowsI (m) (P))), .one (.lst 1 (kn) (bytI (G))), .one (.lst 1 (cn) (u16I (U)))] (.t (.one (.g (.bool (true))))) := by
  have hsx : True := trivial
  refine CallsP_of Try.func7 rfl (by rw [Try.ntmps7]; simp) ?_
  simp only [Try.ntmps7, List.map_cons, List.map_nil, PT.tv, argEnv, Nat.zero_add, Nat.reduceAdd]
  repeat' (first
    | (with_reducible refine callDGK_f0 ?_)
    | (with_reducible refine callGK_f0 ?_)
    | ((with_reducible show callN _ _ _ _ _ _ _ _ _ _); first
      | ((refine callN_zq (k := 31) [2] ?_ ?_); focus ((refine Need.mk ?_); simp only [go_sem, frzsOk, frzOk, rowV_all, civ_iv, forall_eq_or_imp, forall_eq, List.mem_cons, List.not_mem_nil, or_false, and_true, isIv_iv, implies_true, false_implies, reduceIte, reduceCtorEq, Nat.reduceAdd, Nat.reduceEqDiff]; done))
      | ((refine callN_q (k := 31) fnok_31 (cc_h (n := n) (m := c64) (D := D) (n' := q - q / 2) (m' := hM q M) (D' := hF q F) (af := (U i)) (by omega) (c64_le n) hS.d (by omega) (fun j hj => by have := hS.m (q / 2 + j) (by omega); unfold hM; omega) (by have := hU i; omega) ?_ ?_) ?_ ?_); (focus (omega)); (focus (intro i o hi ho; obtain rfl : o = 0 := (by omega); (try simp only [Nat.zero_add, Nat.mul_one, Nat.add_zero]); exact rowV_eqv' (F := rowsI (hM q M) (hF q F)) (fun j hj => IV.eqv_refl _) i 0 hi (by omega))))
      | ((refine callN_q (k := 31) fnok_31 (cc_h (n := n) (m := c64) (D := D) (n' := q - q / 2) (m' := hM q M) (D' := hF q F) (af := 10000) (by omega) (c64_le n) hS.d (by omega) (fun j hj => by have := hS.m (q / 2 + j) (by omega); unfold hM; omega) (by omega) ?_ ?_) ?_ ?_); (focus (omega)); (focus (intro i o hi ho; obtain rfl : o = 0 := (by omega); (try simp only [Nat.zero_add, Nat.mul_one, Nat.add_zero]); exact rowV_eqv' (F := rowsI (hM q M) (hF q F)) (fun j hj => IV.eqv_refl _) i 0 hi (by omega))))
      | ((refine callN_q (k := 26) fnok_26 (recs_h (n := readN n c64 E) (m := recL (hv n E)) (D := recF (hv n E)) (n' := q - q / 2) (m' := hM q M) (D' := hF q F) (by omega) (by omega) (fun i _ => by have := rl_bd (n := n) hE i; omega) (fun j hj => by have := hS.m (q / 2 + j) (by omega); unfold hM; omega) hr1 ?_ ?_) ?_ ?_); (focus (omega)); (focus (intro i o hi ho; obtain rfl : o = 0 := (by omega); (try simp only [Nat.zero_add, Nat.mul_one, Nat.add_zero]); exact rowV_eqv' (F := rowsI (hM q M) (hF q F)) (fun j hj => IV.eqv_refl _) i 0 hi (by omega))))
      | (refine callN_q (k := 11) fnok_11 (head_p) ?_ ?_)
      | (refine callN_q (k := 15) fnok_15 (new_t hx h1 h2) ?_ ?_)
      | (refine callN_q (k := 33) fnok_33 (with_p q M F (by omega) (fun j hj => by have := hS.m j hj; omega) (m i) (P i)) ?_ ?_)
      | (refine callN_q (k := 20) fnok_20 (cut_p n c64 D (by omega) (c64_le n) hS.d (m i) (P i) (by have := hl i hlt; omega) (U i) (by have := hU i; omega)) ?_ ?_)
      | (refine callN_q (k := 20) fnok_20 (cut_p n c64 D (by omega) (c64_le n) hS.d (m i) (P i) (by have := hl i hlt; omega) 10000 (by omega)) ?_ ?_)
      | (refine callN_q (k := 24) fnok_24 (read_p n c64 E (by omega) (c64_le n) hE) ?_ ?_)
      | (refine callN_q (k := 26) fnok_26 (recs_t (n := readN n c64 E) (m := recL (hv n E)) (D := recF (hv n E)) (n' := q + 1) (m' := snocM q M (m i)) (D' := snocD q F (P i)) (by omega) (by omega) (fun i _ => by have := rl_bd (n := n) hE i; omega) (fun j hj => by unfold snocM; have := hS.m j; have := hl i hlt; split <;> omega) hr1) ?_ ?_)
      | (refine callN_q (k := 26) fnok_26 (recs_t (n := readN n c64 E) (m := recL (hv n E)) (D := recF (hv n E)) (n' := q) (m' := M) (D' := F) (by omega) (by omega) (fun i _ => by have := rl_bd (n := n) hE i; omega) (fun j hj => by have := hS.m j hj; omega) hr2) ?_ ?_))
    | ((with_reducible show AW _ _ _ _); first
      | (with_reducible refine AW_seq_k fun K hK => ?_)
      | (with_reducible refine AW_skip ?_)
      | (with_reducible refine AW_exit ?_)
      | (with_reducible refine AW_ret ?_)
      | (with_reducible refine AW_condI ?_)
      | (with_reducible refine AW_block ?_)
      | ((with_reducible show AW _ (Code.region _ _ _) _ _); first
          | (with_reducible refine AW_regionP 0 [0, 1, 2, 3] ?_)
          | (with_reducible refine AW_regionP 1 [0, 1, 2, 3] ?_)
          | (with_reducible refine AW_regionP 2 [0, 1, 2, 3, 9] ?_)
          | (with_reducible refine AW_regionP 3 [9] ?_)
          | (with_reducible refine AW_regionP 4 [0, 1, 2, 3, 9] ?_)
          | (with_reducible refine AW_regionP 5 [1, 2, 3, 9, 10, 11] ?_)
          | (with_reducible refine AW_regionP 6 [9, 11] ?_)
          | (with_reducible refine AW_regionP 7 [1, 2, 3, 9, 10] ?_)
          | (with_reducible refine AW_regionP 8 [1, 2, 3, 9, 10, 12] ?_)
          | (with_reducible refine AW_regionP 9 [2, 3, 9, 10, 12, 58, 59, 60] ?_)
          | (with_reducible refine AW_regionP 10 [2, 3, 9, 10, 12, 58, 59, 60] ?_)
          | (with_reducible refine AW_regionP 11 [2, 3, 9, 10, 12, 13, 14, 58, 59, 60] ?_)
          | (with_reducible refine AW_regionP 12 [2, 3, 9, 10, 12, 13, 14, 15, 58, 59, 60] ?_)
          | (with_reducible refine AW_regionP 13 [2, 3, 9, 10, 12, 13, 14, 15, 16, 58, 59, 60] ?_)
          | (with_reducible refine AW_regionP 14 [2, 3, 9, 10, 12, 13, 14, 15, 58, 59, 60] ?_)
          | (with_reducible refine AW_regionP 15 [2, 3, 9, 10, 12, 13, 14, 15, 16, 58, 59, 60] ?_)
          | (with_reducible refine AW_regionP 16 [2, 3, 9, 10, 12, 13, 15, 16, 17, 18, 58, 59, 60] ?_)
          | (with_reducible refine AW_regionP 17 [2, 3, 9, 10, 12, 16, 17, 58, 59, 60] ?_)
          | (with_reducible refine AW_regionP 18 [2, 3, 9, 10, 12, 15, 16, 17, 58, 59, 60] ?_)
          | (with_reducible refine AW_regionP 19 [2, 3, 9, 10, 12, 15, 16, 17, 18, 58, 59, 60] ?_)
          | (with_reducible refine AW_regionP 20 [2, 3, 9, 10, 12, 18, 58, 59, 60] ?_)
          | (with_reducible refine AW_regionP 21 [2, 3, 9, 10, 12, 15, 16, 17, 58, 59, 60] ?_)
          | (with_reducible refine AW_regionP 22 [2, 3, 9, 10, 12, 15, 16, 17, 19, 20, 58, 59, 60] ?_)
          | (with_reducible refine AW_regionP 23 [2, 3, 9, 10, 12, 15, 16, 17, 19, 20, 21, 58, 59, 60] ?_)
          | (with_reducible refine AW_regionP 24 [2, 3, 9, 10, 12, 15, 17, 21, 58, 59, 60] ?_)
          | (with_reducible refine AW_regionP 25 [] ?_)
          | (with_reducible refine AW_regionP 26 [2, 3, 9, 10, 12, 15, 17, 21, 58, 59, 60] ?_)
          | (with_reducible refine AW_regionP 27 [2, 3, 9, 10, 12, 15, 21, 58, 59, 60] ?_)
          | (with_reducible refine AW_regionP 28 [2, 3, 9, 10, 15, 58, 59, 60] ?_)
          | (with_reducible refine AW_regionP 29 [2, 3, 9, 10, 12, 58, 59, 60] ?_)
          | (with_reducible refine AW_regionP 30 [9] ?_)
          | ((with_reducible refine AW_loopQ (c := (Code.seq (Code.region 9 _ _) _)) (ι := ScrI) [2, 3, 10, 58, 59] (fun ⟨i, D, q, M, F⟩ => [(9, bA true), (12, .t (.one (.iv (.lst 1 q (rowsI M F))))), (60, iA .i64 (i : Int))]) (fun ⟨i, D, q, M, F⟩ => [(0, [.iv (.lst 1 n (rowsI c64 D))])]) (fun ⟨i, D, q, M, F⟩ => i ≤ p ∧ Scr n i D q M F) (fun ⟨i, D, q, M, F⟩ => p - i) (0, zD, 0, (fun _ => 0), zD) ?lg9 ?l19 ?l29 ?li9 ?lr9); (case' lg9 => rintro ⟨i, D, q, M, F⟩ _); (case' li9 => try (exact ⟨Nat.zero_le _, hs0⟩)); (case' lr9 => rintro ⟨i, D, q, M, F⟩ hI KR hR9; (obtain ⟨hip, hS⟩ := hI; have hki := hG i; have hui := hU i; have hqi := hS.qi; have hsx : True := trivial; by_cases hlt : i < p; (have hli := hl i hlt; rcases (by omega : G i % 4 = 0 ∨ G i % 4 = 1 ∨ G i % 4 = 2 ∨ G i % 4 = 3) with hk | hk | hk | hk; (focus (rcases scr_cut hS hn17 hli (hP i) (af := U i) (by omega) with h3 | ⟨E, hE0, hE1, hE2, hv1, hv2, hE, hq1, ⟨hr1, hS1⟩ | ⟨hr1, hr2, hlt1, hS1⟩⟩; (have hS1 := hS.step); (have hsx := h3); rotate_left; (have hsx := And.intro hE0 (And.intro hE1 (And.intro hE2 (And.intro hv1 hv2)))); rotate_left; (have hsx := And.intro hE0 (And.intro hE1 (And.intro hE2 (And.intro hv1 (And.intro hv2 hlt1))))); rotate_left)); rotate_left 3; (focus (rcases scr_cmp hS hn17 (af := U i) (by omega) with h3 | ⟨E, hE0, hE1, hE2, hv1, hv2, hE, hq1, ⟨hr1, hS1⟩ | ⟨hr1, hr2, hlt1, hS1⟩⟩; (have hS1 := hS.step); (have hsx := h3); rotate_left; (have hsx := And.intro hE0 (And.intro hE1 (And.intro hE2 (And.intro hv1 hv2)))); rotate_left; (have hsx := And.intro hE0 (And.intro hE1 (And.intro hE2 (And.intro hv1 (And.intro hv2 hlt1))))); rotate_left)); rotate_left 3; (focus (rcases scr_cut hS hn17 hli (hP i) (af := 10000) (by omega) with h3 | ⟨E, hE0, hE1, hE2, hv1, hv2, hE, hq1, ⟨hr1, hS1⟩ | ⟨hr1, hr2, hlt1, hS1⟩⟩; (have hS1 := hS.step); (have hsx := h3); rotate_left; (have hsx := And.intro hE0 (And.intro hE1 (And.intro hE2 (And.intro hv1 hv2)))); rotate_left; (have hsx := And.intro hE0 (And.intro hE1 (And.intro hE2 (And.intro hv1 (And.intro hv2 hlt1))))); rotate_left)); rotate_left 3; (focus (rcases scr_cmp hS hn17 (af := 10000) (by omega) with h3 | ⟨E, hE0, hE1, hE2, hv1, hv2, hE, hq1, ⟨hr1, hS1⟩ | ⟨hr1, hr2, hlt1, hS1⟩⟩; (have hS1 := hS.step); (have hsx := h3); rotate_left; (have hsx := And.intro hE0 (And.intro hE1 (And.intro hE2 (And.intro hv1 hv2)))); rotate_left; (have hsx := And.intro hE0 (And.intro hE1 (And.intro hE2 (And.intro hv1 (And.intro hv2 hlt1))))); rotate_left)); rotate_left 3)); simp only [keepE, hupd, hset, lk, if_true, if_false, Nat.reduceEqDiff, reduceIte, List.cons_append, List.nil_append, bytI, rowsI, u16I, lstC_row, maxLen, hz1, hz2, hsx, Scr.st, decide_true, decide_false])))
      | ((with_reducible show AW _ (Code.loop _) _ _); first
          | ((with_reducible refine AW_loopQ (c := (Code.seq (Code.region 9 _ _) _)) (ι := ScrI) [2, 3, 10, 58, 59] (fun ⟨i, D, q, M, F⟩ => [(9, bA true), (12, .t (.one (.iv (.lst 1 q (rowsI M F))))), (60, iA .i64 (i : Int))]) (fun ⟨i, D, q, M, F⟩ => [(0, [.iv (.lst 1 n (rowsI c64 D))])]) (fun ⟨i, D, q, M, F⟩ => i ≤ p ∧ Scr n i D q M F) (fun ⟨i, D, q, M, F⟩ => p - i) (0, zD, 0, (fun _ => 0), zD) ?lg9 ?l19 ?l29 ?li9 ?lr9); (case' lg9 => rintro ⟨i, D, q, M, F⟩ _); (case' li9 => try (exact ⟨Nat.zero_le _, hs0⟩)); (case' lr9 => rintro ⟨i, D, q, M, F⟩ hI KR hR9; (obtain ⟨hip, hS⟩ := hI; have hki := hG i; have hui := hU i; have hqi := hS.qi; have hsx : True := trivial; by_cases hlt : i < p; (have hli := hl i hlt; rcases (by omega : G i % 4 = 0 ∨ G i % 4 = 1 ∨ G i % 4 = 2 ∨ G i % 4 = 3) with hk | hk | hk | hk; (focus (rcases scr_cut hS hn17 hli (hP i) (af := U i) (by omega) with h3 | ⟨E, hE0, hE1, hE2, hv1, hv2, hE, hq1, ⟨hr1, hS1⟩ | ⟨hr1, hr2, hlt1, hS1⟩⟩; (have hS1 := hS.step); (have hsx := h3); rotate_left; (have hsx := And.intro hE0 (And.intro hE1 (And.intro hE2 (And.intro hv1 hv2)))); rotate_left; (have hsx := And.intro hE0 (And.intro hE1 (And.intro hE2 (And.intro hv1 (And.intro hv2 hlt1))))); rotate_left)); rotate_left 3; (focus (rcases scr_cmp hS hn17 (af := U i) (by omega) with h3 | ⟨E, hE0, hE1, hE2, hv1, hv2, hE, hq1, ⟨hr1, hS1⟩ | ⟨hr1, hr2, hlt1, hS1⟩⟩; (have hS1 := hS.step); (have hsx := h3); rotate_left; (have hsx := And.intro hE0 (And.intro hE1 (And.intro hE2 (And.intro hv1 hv2)))); rotate_left; (have hsx := And.intro hE0 (And.intro hE1 (And.intro hE2 (And.intro hv1 (And.intro hv2 hlt1))))); rotate_left)); rotate_left 3; (focus (rcases scr_cut hS hn17 hli (hP i) (af := 10000) (by omega) with h3 | ⟨E, hE0, hE1, hE2, hv1, hv2, hE, hq1, ⟨hr1, hS1⟩ | ⟨hr1, hr2, hlt1, hS1⟩⟩; (have hS1 := hS.step); (have hsx := h3); rotate_left; (have hsx := And.intro hE0 (And.intro hE1 (And.intro hE2 (And.intro hv1 hv2)))); rotate_left; (have hsx := And.intro hE0 (And.intro hE1 (And.intro hE2 (And.intro hv1 (And.intro hv2 hlt1))))); rotate_left)); rotate_left 3; (focus (rcases scr_cmp hS hn17 (af := 10000) (by omega) with h3 | ⟨E, hE0, hE1, hE2, hv1, hv2, hE, hq1, ⟨hr1, hS1⟩ | ⟨hr1, hr2, hlt1, hS1⟩⟩; (have hS1 := hS.step); (have hsx := h3); rotate_left; (have hsx := And.intro hE0 (And.intro hE1 (And.intro hE2 (And.intro hv1 hv2)))); rotate_left; (have hsx := And.intro hE0 (And.intro hE1 (And.intro hE2 (And.intro hv1 (And.intro hv2 hlt1))))); rotate_left)); rotate_left 3)); simp only [keepE, hupd, hset, lk, if_true, if_false, Nat.reduceEqDiff, reduceIte, List.cons_append, List.nil_append, bytI, rowsI, u16I, lstC_row, maxLen, hz1, hz2, hsx, Scr.st, decide_true, decide_false]))))
    | ((first | (with_reducible refine And.intro ?_ ?_) | (with_reducible refine Need.mk ?_)); focus (first | exact True.intro | (with_reducible assumption) | omega | (refine ⟨?_, ?_⟩ <;> omega) | (intro _; first | exact True.intro | (with_reducible assumption) | omega) | (intros; (repeat' (first | exact True.intro | omega | (with_reducible assumption) | (with_reducible refine And.intro ?_ ?_))); done) | (simp (disch := omega) only [Bool.and_eq_true, Bool.or_eq_true, decide_eq_true_eq, bne_iff_ne, ne_eq] at *; first | done | omega | (intros; omega)) | (simp; done) | (simp; omega) | (simp +contextual; done) | (intro h; rw [h]; rfl) | (intros; simp_all; done)))
    | (with_reducible refine retK_n ?_)
    | (with_reducible refine retK_n' ?_)
    | (with_reducible refine retH_n rfl rfl rfl ?_)
    | (with_reducible refine retH_n' rfl rfl rfl ?_)
    | (with_reducible refine retO_n ?_ ?_)
    | (with_reducible refine retO_n' ?_ ?_)
    | ((with_reducible show condN _ _ _ _ _ _); first
      | ((with_reducible refine condN_t ?_ ?_) <;> (intro hc; (try simp only [Bool.and_eq_true, Bool.or_eq_true, Bool.not_eq_true', Bool.and_eq_false_iff, Bool.or_eq_false_iff, decide_eq_true_eq, decide_eq_false_iff_not, bne_iff_ne, beq_iff_eq, reduceCtorEq, bne_eq_false_iff_eq, beq_eq_false_iff_ne, Bool.not_eq_false', Int.not_le, Int.not_lt, Bool.not_not] at hc); (skip); (try (exfalso; first | contradiction | omega)))))
    | ((with_reducible show callGN _ _ _ _ _ _ _ _ _ _); first
      | (refine callGN_q (k := 12) fnok_12 (fun hg => few_0 hp hm) ?_ ?_)
      | (refine callGN_q (k := 13) fnok_13 (fun hg => valid_p n c64 E (by omega) (c64_le n) hE) ?_ ?_)
      | (refine callGN_q (k := 26) fnok_26 (fun hg => recs_t (n := readN n c64 E) (m := recL (hv n E)) (D := recF (hv n E)) (n' := q + 1) (m' := snocM q M (m i)) (D' := snocD q F (P i)) (by omega) (by omega) (fun i _ => by have := rl_bd (n := n) hE i; omega) (fun j hj => by unfold snocM; have := hS.m j; have := hl i hlt; split <;> omega) hr1) ?_ ?_)
      | (refine callGN_q (k := 26) fnok_26 (fun hg => recs_t (n := readN n c64 E) (m := recL (hv n E)) (D := recF (hv n E)) (n' := q) (m' := M) (D' := F) (by omega) (by omega) (fun i _ => by have := rl_bd (n := n) hE i; omega) (fun j hj => by have := hS.m j hj; omega) hr2) ?_ ?_)
      | ((refine callGN_sq (k := 26) ?_ ?_) <;> (intro hc; (try simp only [Bool.and_eq_true, Bool.or_eq_true, Bool.not_eq_true', Bool.and_eq_false_iff, Bool.or_eq_false_iff, decide_eq_true_eq, decide_eq_false_iff_not, bne_iff_ne, beq_iff_eq, reduceCtorEq, bne_eq_false_iff_eq, beq_eq_false_iff_ne, Bool.not_eq_false', Int.not_le, Int.not_lt, Bool.not_not] at hc); (try (exfalso; first | contradiction | omega)))))
    | ((with_reducible refine hR9 _ hS1.st ?_); (try clear hR9 KR))
    | ((with_reducible refine Told.mk ?_); simp only [go_sem, reduceIte, reduceCtorEq, Nat.reduceAdd, Nat.reduceLT, Nat.reduceLeDiff, Nat.reduceEqDiff, Nat.reduceMul, Nat.reduceSub, Nat.reduceBEq, bytI, rowsI, u16I, lstC_row, maxLen, hz1, hz2, hsx, Scr.st, decide_true, decide_false] <;> (first | exact True.intro | (((try simp (disch := omega) only [seaWrap, Int.natCast_add, Int.cast_ofNat_Int, and_true, true_and, and_self]); (repeat' (first | exact True.intro | omega | rfl | (with_reducible assumption) | (with_reducible refine And.intro ?_ ?_) | (exact all_succ (by assumption) (by assumption)) | (exact Or.inr (fun i o hi ho => rowV_eqv' (F := rowsI (hM q M) (hF q F)) (fun j hj => IV.eqv_refl _) i o hi ho)))); done)) | (refine Stuck.out ?_)))
    | ((fail_if_success (with_reducible show AW _ _ _ _)); simp (maxSteps := 2000000) only [go_sem, reduceIte, reduceCtorEq, Nat.reduceAdd, Nat.reduceLT, Nat.reduceLeDiff, Nat.reduceEqDiff, Nat.reduceMul, Nat.reduceSub, Nat.reduceBEq, Try.f7, fnok_11, zc_24, fo_24, fnok_12, le_25, le_22, le_48, fnok_15, ty_24, sl_22, ar_22, ty_25, fnok_33, sl_48, ar_48, ty_49, in_3, sl_25, ar_25, ty_5, fnok_20, zc_25, fnok_31, fnok_24, fnok_26, fnok_13, bytI, rowsI, u16I, lstC_row, maxLen, hz1, hz2, hsx, Scr.st, decide_true, decide_false])
    | ((fail_if_success (with_reducible show AW _ _ _ _)); simp (disch := omega) only [seaWrap, seaDiv, seaMod])
    | ((with_reducible refine hK _ ?_); clear hK K)
    | (with_reducible apply_assumption -exfalso only [*]))

theorem law7 (x : Int) (hx : -9223372036854775808 ≤ x ∧ x ≤ 9223372036854775807) (p : Nat) (m : Nat → Nat) (P : Nat → Nat → Int) (hp : p ≤ 9223372036854775807) (hm : ∀ i, i < p → m i ≤ 9223372036854775807) (hP : BytD P) (kn : Nat) (G : Nat → Int) (hkn : kn ≤ 9223372036854775807) (hG : Byt G) (cn : Nat) (U : Nat → Int) (hcn : cn ≤ 9223372036854775807) (hU : ∀ i, 0 ≤ U i ∧ U i < 65536) : CallsP Try.prog 7 [.one (.g (.int .i64 (x))), .one (.lst 1 (p) (rowsI (m) (P))), .one (.lst 1 (kn) (bytI (G))), .one (.lst 1 (cn) (u16I (U)))] (.t (.one (.g (.bool true)))) := by
  by_cases b1 : 17 < x
  · exact law7_b x hx p m P hp hm hP kn G hkn hG cn U hcn hU (Or.inl b1)
  · cases hf : fewB 0 c64 p m with
    | false => exact law7_b x hx p m P hp hm hP kn G hkn hG cn U hcn hU (Or.inr (Or.inl hf))
    | true =>
      by_cases b2 : kn < p
      · exact law7_b x hx p m P hp hm hP kn G hkn hG cn U hcn hU (Or.inr (Or.inr (Or.inl b2)))
      · by_cases b3 : cn < p
        · exact law7_b x hx p m P hp hm hP kn G hkn hG cn U hcn hU (Or.inr (Or.inr (Or.inr b3)))
        · cases hb : newB x with
          | false =>
            have e1 : newN x = 0 := by unfold newN; rw [hb]; rfl
            have e2 : newE x = 1 := by unfold newE; rw [hb]; rfl
            exact law7_e x hx p m P hp hm hP kn G hkn hG cn U hcn hU e1 e2
          | true =>
            have h := of_decide_eq_true hb
            have e1 : newN x = x.toNat := by unfold newN; rw [hb]; rfl
            have e2 : newE x = 0 := by unfold newE; rw [hb]; rfl
            obtain ⟨_, hp20, hl⟩ := few_rs hf
            exact law7_ok x hx p m P hp hm hP kn G hkn hG cn U hcn hU x.toNat (by omega) e1 e2 (by omega) (by omega) hp20 hl ⟨new_has (by omega) (by omega) (by omega) _ _, zD_b, zD_b, Nat.le_refl _, fun j hj => absurd hj (Nat.not_lt_zero _)⟩

end Go.Proofs.Ytifoncmlelinjaa
