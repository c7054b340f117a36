/- Gn: walks on abstract states. -/
import Derived.Test.YtbckibbgajfihaaGreatGm
set_option linter.unusedVariables false
set_option linter.unusedSimpArgs false
namespace Go.Proofs.YtbckibbgajfihaaGreat
open Go.RowKit Go.Sea
theorem ar_50 : arD Tryz.prog 50 = none := by kernel_rfl
theorem fnok_101 : fnOk Tryz.prog 101 = true := by kernel_rfl
theorem fnok_107 : fnOk Tryz.prog 107 = true := by kernel_rfl
theorem fnok_108 : fnOk Tryz.prog 108 = true := by kernel_rfl
theorem fnok_89 : fnOk Tryz.prog 89 = true := by kernel_rfl
theorem fnok_90 : fnOk Tryz.prog 90 = true := by kernel_rfl
theorem fnok_91 : fnOk Tryz.prog 91 = true := by kernel_rfl
theorem le_50 : lenD Tryz.prog 50 = some true := by kernel_rfl
theorem of_52_0 : offOf Tryz.prog 52 0 = some 0 := by kernel_rfl
theorem of_52_1 : offOf Tryz.prog 52 1 = some 1 := by kernel_rfl
theorem of_52_2 : offOf Tryz.prog 52 2 = some 2 := by kernel_rfl
theorem sl_50 : slD Tryz.prog 50 = some (16, 160, 59) := by kernel_rfl
theorem ty_50 : tyD Tryz.prog 50 = some (false, 1) := by kernel_rfl

structure PartS where
  ch : Int
  q : Nat
  a : Nat → Int
  k : Nat
  o : Nat → OpS
structure NotS where
  oc : Int
  nu : Int
  kd : Int
  fr : Int
  un : Int
  ca : Int
  n : Nat
  p : Nat → PartS
structure PartS.Ok (p : PartS) : Prop where
  q : p.q ≤ 9223372036854775807
  k : p.k ≤ 9223372036854775807
  o : ∀ i, i < p.k → (p.o i).f.Ok
structure NotS.Ok (N : NotS) : Prop where
  n : N.n ≤ 9223372036854775807
  p : ∀ i, i < N.n → (N.p i).Ok

theorem op_ff {o : OpS} (h : ¬ opC o (ptB o.x o.y) (roomB o.x o.y o.r) (featB o.f)) : false = opB o := (decide_eq_false h).symm

theorem rop_t {o : OpS} (hid : 1 ≤ o.id ∧ o.id ≤ 100000) (hk : 1 ≤ o.kd ∧ o.kd ≤ 5) (hx : (o.kd = 1 ∧ featB o.f = true ∧ o.f.id = o.id) ∨ (o.kd ≠ 1 ∧ zF o.f)) (hy : (o.kd = 3 ∧ ptB o.x o.y = true ∧ roomB o.x o.y o.r = true ∧ 0 ≤ o.r ∧ o.r ≤ 100000) ∨ (o.kd ≠ 3 ∧ o.x = 0 ∧ o.y = 0 ∧ o.r = 0)) (hd : (0 ≤ o.d ∧ o.d ≤ 100000) ∧ (o.kd = 4 ∨ o.d = 0)) : (decide (o.s ≥ 0) && decide (o.s ≤ 999) && (o.kd == 5 || o.s == 0)) = opB o := by
  refine Bool.eq_iff_iff.2 ?_
  rw [op_iff]; unfold opC; simp only [Bool.and_eq_true, Bool.or_eq_true, decide_eq_true_eq, beq_iff_eq]
  constructor
  · rintro ⟨⟨g1, g2⟩, g3⟩
    refine ⟨hid, ?_⟩
    rcases hx with ⟨h1, h2, h3⟩ | ⟨h1, h2⟩
    · left
      rcases hy with hy | hy
      · omega
      · exact ⟨h1, h3, h2, hy.2.1, hy.2.2.1, hy.2.2.2, by omega, by omega⟩
    · right
      refine ⟨h2, ?_⟩
      rcases hy with hy | hy
      · exact Or.inr (Or.inl ⟨hy.1, hy.2.2.2, hy.2.1, hy.2.2.1, by omega, by omega⟩)
      · have : o.kd = 2 ∨ o.kd = 4 ∨ o.kd = 5 := by omega
        rcases this with k | k | k
        · exact Or.inl ⟨k, hy.2.1, hy.2.2.1, hy.2.2.2, by omega, by omega⟩
        · exact Or.inr (Or.inr (Or.inl ⟨k, hd.1, hy.2.1, hy.2.2.1, hy.2.2.2, by omega⟩))
        · exact Or.inr (Or.inr (Or.inr ⟨k, ⟨g1, g2⟩, hy.2.1, hy.2.2.1, hy.2.2.2, by omega⟩))
  · rintro ⟨_, g | ⟨_, g | g | g | g⟩⟩
    · exact ⟨⟨by omega, by omega⟩, by omega⟩
    · exact ⟨⟨by omega, by omega⟩, by omega⟩
    · exact ⟨⟨by omega, by omega⟩, by omega⟩
    · exact ⟨⟨by omega, by omega⟩, by omega⟩
    · exact ⟨⟨by omega, by omega⟩, by omega⟩
theorem rop_f3 {o : OpS} (hk : o.kd = 3) (hc : (((ptB o.x o.y = false ∨ o.r < 0) ∨ o.r > 100000) ∨ ¬(-1000000 ≤ o.x - o.r ∧ o.x + o.r ≤ 1000000)) ∨ ¬(-1000000 ≤ o.y - o.r ∧ o.y + o.r ≤ 1000000)) : false = opB o := by
  refine op_ff fun g => ?_
  obtain ⟨g1, g | ⟨gz, g | g | g | g⟩⟩ := g
  · omega
  · omega
  · have k1 := (ptB_iff _ _).1 g.2.2.1
    have k2 := (roomB_iff _ _ _).1 g.2.2.2.1
    rcases hc with (((hc | hc) | hc) | hc) | hc
    · rw [g.2.2.1] at hc; cases hc
    all_goals omega
  · omega
  · omega
theorem room_of {o : OpS} (hc : (((ptB o.x o.y = true ∧ 0 ≤ o.r) ∧ o.r ≤ 100000) ∧ -1000000 ≤ o.x - o.r ∧ o.x + o.r ≤ 1000000) ∧ -1000000 ≤ o.y - o.r ∧ o.y + o.r ≤ 1000000) : ptB o.x o.y = true ∧ roomB o.x o.y o.r = true ∧ 0 ≤ o.r ∧ o.r ≤ 100000 := by
  have k1 := (ptB_iff _ _).1 hc.1.1.1.1
  exact ⟨hc.1.1.1.1, (roomB_iff _ _ _).2 (by omega), hc.1.1.1.2, hc.1.1.2⟩
def oprG : OpS → Nat → IV
  | o, 0 => .g (.int .i64 (o.kd))
  | o, 1 => .g (.int .i64 (o.id))
  | o, 2 => .g (.int .i64 (o.f.id))
  | o, 3 => .g (.int .i64 (o.f.kd))
  | o, 4 => .g (.int .i64 (o.f.x))
  | o, 5 => .g (.int .i64 (o.f.y))
  | o, 6 => .g (.int .i64 (o.f.r))
  | o, 7 => .lst 2 o.f.n (ptI o.f.P)
  | o, 8 => .g (.int .i64 (o.f.d))
  | o, 9 => .g (.int .i64 (o.f.s))
  | o, 10 => .lst 6 o.f.m (ptI o.f.S)
  | o, 11 => .g (.int .i64 (o.x))
  | o, 12 => .g (.int .i64 (o.y))
  | o, 13 => .g (.int .i64 (o.r))
  | o, 14 => .g (.int .i64 (o.d))
  | o, _ + 15 => .g (.int .i64 (o.s))
def oprF (o : Nat → OpS) (i c : Nat) : IV := oprG (o i) c
theorem oprF0 (o : Nat → OpS) (i : Nat) : oprF o i 0 = .g (.int .i64 ((o i).kd)) := rfl
theorem oprF1 (o : Nat → OpS) (i : Nat) : oprF o i 1 = .g (.int .i64 ((o i).id)) := rfl
theorem oprF2 (o : Nat → OpS) (i : Nat) : oprF o i 2 = .g (.int .i64 ((o i).f.id)) := rfl
theorem oprF3 (o : Nat → OpS) (i : Nat) : oprF o i 3 = .g (.int .i64 ((o i).f.kd)) := rfl
theorem oprF4 (o : Nat → OpS) (i : Nat) : oprF o i 4 = .g (.int .i64 ((o i).f.x)) := rfl
theorem oprF5 (o : Nat → OpS) (i : Nat) : oprF o i 5 = .g (.int .i64 ((o i).f.y)) := rfl
theorem oprF6 (o : Nat → OpS) (i : Nat) : oprF o i 6 = .g (.int .i64 ((o i).f.r)) := rfl
theorem oprF7 (o : Nat → OpS) (i : Nat) : oprF o i 7 = .lst 2 (o i).f.n (ptI (o i).f.P) := rfl
theorem oprF8 (o : Nat → OpS) (i : Nat) : oprF o i 8 = .g (.int .i64 ((o i).f.d)) := rfl
theorem oprF9 (o : Nat → OpS) (i : Nat) : oprF o i 9 = .g (.int .i64 ((o i).f.s)) := rfl
theorem oprF10 (o : Nat → OpS) (i : Nat) : oprF o i 10 = .lst 6 (o i).f.m (ptI (o i).f.S) := rfl
theorem oprF11 (o : Nat → OpS) (i : Nat) : oprF o i 11 = .g (.int .i64 ((o i).x)) := rfl
theorem oprF12 (o : Nat → OpS) (i : Nat) : oprF o i 12 = .g (.int .i64 ((o i).y)) := rfl
theorem oprF13 (o : Nat → OpS) (i : Nat) : oprF o i 13 = .g (.int .i64 ((o i).r)) := rfl
theorem oprF14 (o : Nat → OpS) (i : Nat) : oprF o i 14 = .g (.int .i64 ((o i).d)) := rfl
theorem oprF15 (o : Nat → OpS) (i : Nat) : oprF o i 15 = .g (.int .i64 ((o i).s)) := rfl
def partG : PartS → Nat → IV
  | p, 0 => .g (.int .i64 p.ch)
  | p, 1 => .lst 1 p.q (intI p.a)
  | p, _ + 2 => .lst 16 p.k (oprF p.o)
def partF (p : Nat → PartS) (i c : Nat) : IV := partG (p i) c
theorem partF0 (p : Nat → PartS) (i : Nat) : partF p i 0 = .g (.int .i64 (p i).ch) := rfl
theorem partF1 (p : Nat → PartS) (i : Nat) : partF p i 1 = .lst 1 (p i).q (intI (p i).a) := rfl
theorem partF2 (p : Nat → PartS) (i : Nat) : partF p i 2 = .lst 16 (p i).k (oprF (p i).o) := rfl

def aftO (a : Nat → Int) (nu : Int) (i : Nat) : Prop := 1 ≤ a i ∧ a i < nu ∧ (0 < i → a (i - 1) < a i)
def lstP (a : Nat → Int) (i : Nat) : Int := if i = 0 then 0 else a (i - 1)
theorem lstP_s (a : Nat → Int) (i : Nat) : lstP a (i + 1) = a i := by simp [lstP]
theorem lstP_nn {a : Nat → Int} {nu : Int} {i : Nat} (h : ∀ j, j < i → aftO a nu j) : 0 ≤ lstP a i := by
  unfold lstP; split
  · omega
  · have := (h (i - 1) (by omega)).1; omega
theorem aft_t {a : Nat → Int} {nu : Int} {i : Nat} (h : ∀ j, j < i → aftO a nu j) (h1 : lstP a i < a i) (h2 : a i < nu) : aftO a nu i := by
  have h0 := lstP_nn h
  refine ⟨by omega, h2, fun hi => ?_⟩
  unfold lstP at h1; rw [if_neg (by omega)] at h1; exact h1
theorem aft_f {a : Nat → Int} {nu : Int} {i : Nat} (h1 : a i ≤ lstP a i ∨ nu ≤ a i) : ¬ aftO a nu i := by
  rintro ⟨g1, g2, g3⟩
  unfold lstP at h1
  by_cases hi : i = 0
  · rw [if_pos hi] at h1; omega
  · rw [if_neg hi] at h1; have := g3 (by omega); omega
instance (a : Nat → Int) (nu : Int) (i : Nat) : Decidable (aftO a nu i) := by unfold aftO; infer_instance
def partO (p : PartS) (nu : Int) : Prop := ((1 ≤ p.ch ∧ p.ch ≤ 1000) ∧ p.q ≤ 100 ∧ p.k ≤ 100) ∧ (∀ i, i < p.q → aftO p.a nu i) ∧ ∀ i, i < p.k → opB (p.o i) = true
instance (p : PartS) (nu : Int) : Decidable (partO p nu) := by unfold partO; infer_instance
def partB (p : PartS) (nu : Int) : Bool := decide (partO p nu)
theorem part_f0 {p : PartS} {nu : Int} (h : ¬ ((1 ≤ p.ch ∧ p.ch ≤ 1000) ∧ p.q ≤ 100 ∧ p.k ≤ 100)) : false = partB p nu := (decide_eq_false fun g => h g.1).symm
theorem part_f1 {p : PartS} {nu : Int} {i : Nat} (hi : (i : Int) < p.q) (h : ¬ aftO p.a nu i) : false = partB p nu := (decide_eq_false fun g => h (g.2.1 i (by omega))).symm
theorem part_f2 {p : PartS} {nu : Int} {i : Nat} (hi : (i : Int) < p.k) (h : opB (p.o i) = false) : false = partB p nu := (decide_eq_false fun g => by rw [g.2.2 i (by omega)] at h; cases h).symm
theorem part_t {p : PartS} {nu : Int} {i j : Nat} (h : (1 ≤ p.ch ∧ p.ch ≤ 1000) ∧ p.q ≤ 100 ∧ p.k ≤ 100) (hi : (p.q : Int) ≤ i) (hai : ∀ i', i' < i → aftO p.a nu i') (hj : (p.k : Int) ≤ j) (haj : ∀ j', j' < j → opB (p.o j') = true) : true = partB p nu :=
  (decide_eq_true ⟨h, fun k hk => hai k (by omega), fun k hk => haj k (by omega)⟩).symm
def termO (n : NotS) : Prop := (n.kd = 1 ∨ n.kd = 3) ∧ n.un = 0 ∧ n.ca = 0 ∨ n.kd = 2 ∧ n.fr < n.un ∧ 0 ≤ n.un ∧ n.un ≤ 10000000 ∧ n.ca = 0 ∨ n.kd = 4 ∧ n.un = 0 ∧ 1 ≤ n.ca ∧ n.ca < n.nu ∧ n.n = 0
instance (n : NotS) : Decidable (termO n) := by unfold termO; infer_instance
def notH (n : NotS) : Prop := ((1 ≤ n.oc ∧ n.oc ≤ 20) ∧ (1 ≤ n.nu ∧ n.nu ≤ 10000) ∧ (0 ≤ n.fr ∧ n.fr ≤ 10000000)) ∧ termO n ∧ n.n ≤ 20
instance (n : NotS) : Decidable (notH n) := by unfold notH; infer_instance
def lstH (p : Nat → PartS) (i : Nat) : Int := if i = 0 then 0 else (p (i - 1)).ch
theorem lstH_s (p : Nat → PartS) (i : Nat) : lstH p (i + 1) = (p i).ch := by simp [lstH]
def npO (p : Nat → PartS) (nu : Int) (i : Nat) : Prop := (0 < i → (p (i - 1)).ch < (p i).ch) ∧ partB (p i) nu = true
instance (p : Nat → PartS) (nu : Int) (i : Nat) : Decidable (npO p nu i) := by unfold npO; infer_instance
def notB (n : NotS) : Bool := decide (notH n ∧ ∀ i, i < n.n → npO n.p n.nu i)
theorem part_ch {p : PartS} {nu : Int} (h : partB p nu = true) : 1 ≤ p.ch := (of_decide_eq_true h).1.1.1
theorem not_f0 {n : NotS} (h : ¬ notH n) : false = notB n := (decide_eq_false fun g => h g.1).symm
theorem not_f1 {n : NotS} {i : Nat} (hi : (i : Int) < n.n) (h : (n.p i).ch ≤ lstH n.p i ∨ partB (n.p i) n.nu = false) : false = notB n := (decide_eq_false fun g => by
  have g1 := g.2 i (by omega)
  have g2 := part_ch g1.2
  rcases h with h | h
  · unfold lstH at h
    by_cases h0 : i = 0
    · rw [if_pos h0] at h; omega
    · rw [if_neg h0] at h; have := g1.1 (by omega); omega
  · rw [g1.2] at h; cases h).symm
theorem np_t {p : Nat → PartS} {nu : Int} {i : Nat} (h1 : lstH p i < (p i).ch) (h2 : partB (p i) nu = true) : npO p nu i := by
  refine ⟨fun h0 => ?_, h2⟩
  unfold lstH at h1; rw [if_neg (by omega)] at h1; exact h1
theorem not_t {n : NotS} {i : Nat} (h : notH n) (hi : (n.n : Int) ≤ i) (hai : ∀ i', i' < i → npO n.p n.nu i') : true = notB n := (decide_eq_true ⟨h, fun k hk => hai k (by omega)⟩).symm

theorem rfsamez_p (f : Feat) (hf : f.Ok) : CallsP Tryz.prog 108 [.agg [.g (.int .i64 (f.id)), .g (.int .i64 (f.kd)), .g (.int .i64 (f.x)), .g (.int .i64 (f.y)), .g (.int .i64 (f.r)), .lst 2 f.n (ptI f.P), .g (.int .i64 (f.d)), .g (.int .i64 (f.s)), .lst 6 f.m (ptI f.S)], .agg [.g (.int .i64 0), .g (.int .i64 0), .g (.int .i64 0), .g (.int .i64 0), .g (.int .i64 0), .g (.slice none 0 0), .g (.int .i64 0), .g (.int .i64 0), .g (.slice none 0 0)]] (.t (.one (.g (.bool (decide (zF f)))))) := by
  have e : decide (zF f) = feqB f feat0 := by
    refine Bool.eq_iff_iff.2 ?_; rw [decide_eq_true_eq, feqB_z]
  rw [e]
  exact (rfsame_p f feat0 hf feat0_ok).eqv (by simp [feat0, All2, PT.eqv, IV.eqv]; exact ⟨fun i o _ _ => IV.eqv_refl _, fun i o _ _ => IV.eqv_refl _⟩) (PV.eqv_refl _)

set_option maxRecDepth 100000 in
set_option maxHeartbeats 4000000 in
theorem rOp_p (o : OpS) (ho : o.f.Ok) : CallsP Tryz.prog 92 [.agg [.g (.int .i64 (o.kd)), .g (.int .i64 (o.id)), .g (.int .i64 (o.f.id)), .g (.int .i64 (o.f.kd)), .g (.int .i64 (o.f.x)), .g (.int .i64 (o.f.y)), .g (.int .i64 (o.f.r)), .lst 2 o.f.n (ptI o.f.P), .g (.int .i64 (o.f.d)), .g (.int .i64 (o.f.s)), .lst 6 o.f.m (ptI o.f.S), .g (.int .i64 (o.x)), .g (.int .i64 (o.y)), .g (.int .i64 (o.r)), .g (.int .i64 (o.d)), .g (.int .i64 (o.s))]] (.t (.one (.g (.bool (opB o))))) := by
  refine CallsP_of Tryz.func92 rfl (by rw [Tryz.ntmps92]; simp) ?_
  simp only [Tryz.ntmps92, List.map_cons, List.map_nil, PT.tv, argEnv, Nat.zero_add, Nat.reduceAdd]
  repeat' (first
 | ((with_reducible show AW _ _ _ _); first
 | (with_reducible refine AW_seq_k fun K hK => ?_)
 | (with_reducible refine AW_skip ?_)
 | (with_reducible refine AW_exit ?_)
 | (with_reducible refine AW_ret ?_)
 | (with_reducible refine AW_condI ?_)
 | (with_reducible refine AW_block ?_)
 | ((with_reducible show AW _ (Code.region _ _ _) _ _); first
 | (with_reducible refine AW_regionP 0 [0] ?_)
 | (with_reducible refine AW_regionP 1 [1] ?_)
 | (with_reducible refine AW_regionP 2 [] ?_)
 | (with_reducible refine AW_regionP 3 [1] ?_)
 | (with_reducible refine AW_regionP 4 [1] ?_)
 | (with_reducible refine AW_regionP 5 [] ?_)
 | (with_reducible refine AW_regionP 6 [1] ?_)
 | (with_reducible refine AW_regionP 7 [] ?_)
 | (with_reducible refine AW_regionP 8 [1] ?_)
 | (with_reducible refine AW_regionP 9 [1] ?_)
 | (with_reducible refine AW_regionP 10 [] ?_)
 | (with_reducible refine AW_regionP 11 [1] ?_)
 | (with_reducible refine AW_regionP 12 [] ?_)
 | (with_reducible refine AW_regionP 13 [1] ?_)
 | (with_reducible refine AW_regionP 14 [] ?_)
 | (with_reducible refine AW_regionP 15 [1] ?_)))
 | ((first | (with_reducible refine And.intro ?_ ?_) | (with_reducible refine Need.mk ?_)); focus (first | exact True.intro | (with_reducible assumption) | omega | (refine ⟨?_, ?_⟩ <;> omega) | (intro _; first | exact True.intro | (with_reducible assumption) | omega) | (intros; (repeat' (first | exact True.intro | omega | (with_reducible assumption) | (with_reducible refine And.intro ?_ ?_))); done) | (simp (disch := omega) only [Bool.and_eq_true, Bool.or_eq_true, decide_eq_true_eq, bne_iff_ne, ne_eq] at *; first | done | omega | (intros; omega)) | (simp; done) | (simp; omega) | (simp +contextual; done) | (intro h; rw [h]; rfl) | (intro hq; have hq2 := hq; simp only [Bool.and_eq_true, Bool.or_eq_true, Bool.not_eq_true', Bool.not_not, Bool.not_eq_false', decide_eq_true_eq, decide_eq_false_iff_not] at hq2; (repeat' (first | exact hq | (with_reducible refine And.intro ?_ ?_) | omega | (simp_all; done))); done) | (intros; simp_all; done)))
 | (with_reducible refine retK_n ?_)
 | (with_reducible refine retK_n' ?_)
 | (with_reducible refine retH_n rfl rfl rfl ?_)
 | (with_reducible refine retH_n' rfl rfl rfl ?_)
 | ((with_reducible show condN _ _ _ _ _ _); first
 | ((with_reducible refine condN_t ?_ ?_) <;> (intro hc; (try simp only [Bool.and_eq_true, Bool.or_eq_true, Bool.not_eq_true', Bool.and_eq_false_iff, Bool.or_eq_false_iff, decide_eq_true_eq, decide_eq_false_iff_not, bne_iff_ne, beq_iff_eq, reduceCtorEq, bne_eq_false_iff_eq, beq_eq_false_iff_ne, Bool.not_eq_false', Int.not_le, Int.not_lt, Bool.not_not] at hc); (skip); (try (exfalso; first | contradiction | omega)))))
 | ((with_reducible show callN _ _ _ _ _ _ _ _ _ _); first
 | (refine callN_q (k := 107) fnok_107 (rFeat_p _ ho) ?_ ?_)
 | (refine callN_q (k := 108) fnok_108 (rfsamez_p _ ho) ?_ ?_)
 | (refine callN_q (k := 109) fnok_109 (rptV_p _ _) ?_ ?_))
 | ((with_reducible show callGN _ _ _ _ _ _ _ _ _ _); first
 | (refine callGN_q (k := 110) fnok_110 (fun hg => rroom_p o.x _ (by have h1 : ptB o.x o.y = true ∧ ¬ o.r < 0 ∧ ¬ o.r > 100000 := (by simp_all); have := (ptB_iff _ _).1 h1.1; omega) (by have h1 : ¬ o.r < 0 ∧ ¬ o.r > 100000 := (by simp_all); omega)) ?_ ?_)
 | (refine callGN_q (k := 110) fnok_110 (fun hg => rroom_p o.y _ (by have h1 : ptB o.x o.y = true ∧ ¬ o.r < 0 ∧ ¬ o.r > 100000 := (by simp_all); have := (ptB_iff _ _).1 h1.1; omega) (by have h1 : ¬ o.r < 0 ∧ ¬ o.r > 100000 := (by simp_all); omega)) ?_ ?_))
 | ((fail_if_success (with_reducible show AW _ _ _ _)); simp (maxSteps := 2000000) only [go_sem, reduceIte, reduceCtorEq, Nat.reduceAdd, Nat.reduceLT, Nat.reduceLeDiff, Nat.reduceEqDiff, Nat.reduceMul, Nat.reduceSub, Nat.reduceBEq, Tryz.f92, of_59_1, ty_3, of_59_0, of_59_2, ty_57, fnok_107, of_57_0, zc_57, fo_57, fnok_108, of_59_3, ty_28, fnok_109, of_59_4, of_28_0, fnok_110, of_28_1, zc_28, fo_28, bo_28, eq_28, of_59_5, of_59_6, Go.Sea.cmpS])
 | ((with_reducible refine hK _ ?_); clear hK K))
  all_goals (first | (refine op_ff fun g => ?_; obtain ⟨g1, g | ⟨gz, g | g | g | g⟩⟩ := g <;> first | omega | (simp_all; done) | (simp_all; omega)) | exact rop_f3 (by assumption) hc | exact rop_t (by omega) (by omega) (by (first | exact Or.inl ⟨by assumption, by assumption⟩ | exact Or.inr ⟨by assumption, by assumption⟩)) (by (first | exact Or.inl ⟨by assumption, room_of (by assumption)⟩ | exact Or.inr ⟨by assumption, by omega, by omega, by omega⟩)) hc | skip)

set_option maxRecDepth 100000 in
set_option maxHeartbeats 4000000 in
theorem badop_p (o : OpS) (ho : o.f.Ok) : CallsP Tryz.prog 90 [.agg [.g (.int .i64 (o.kd)), .g (.int .i64 (o.id)), .g (.int .i64 (o.f.id)), .g (.int .i64 (o.f.kd)), .g (.int .i64 (o.f.x)), .g (.int .i64 (o.f.y)), .g (.int .i64 (o.f.r)), .lst 2 o.f.n (ptI o.f.P), .g (.int .i64 (o.f.d)), .g (.int .i64 (o.f.s)), .lst 6 o.f.m (ptI o.f.S), .g (.int .i64 (o.x)), .g (.int .i64 (o.y)), .g (.int .i64 (o.r)), .g (.int .i64 (o.d)), .g (.int .i64 (o.s))]] (.t (.one (.g (.bool (!opB o))))) := by
  refine CallsP_of Tryz.func90 rfl (by rw [Tryz.ntmps90]; simp) ?_
  simp only [Tryz.ntmps90, List.map_cons, List.map_nil, PT.tv, argEnv, Nat.zero_add, Nat.reduceAdd]
  repeat' (first
 | ((with_reducible show AW _ _ _ _); first
 | (with_reducible refine AW_seq_k fun K hK => ?_)
 | (with_reducible refine AW_skip ?_)
 | (with_reducible refine AW_exit ?_)
 | (with_reducible refine AW_ret ?_)
 | (with_reducible refine AW_condI ?_)
 | (with_reducible refine AW_block ?_)
 | ((with_reducible show AW _ (Code.region _ _ _) _ _); first
 | (with_reducible refine AW_regionP 0 [0] ?_)
 | (with_reducible refine AW_regionP 1 [1] ?_)))
 | ((first | (with_reducible refine And.intro ?_ ?_) | (with_reducible refine Need.mk ?_)); focus (first | exact True.intro | (with_reducible assumption) | omega | (refine ⟨?_, ?_⟩ <;> omega) | (intro _; first | exact True.intro | (with_reducible assumption) | omega) | (intros; (repeat' (first | exact True.intro | omega | (with_reducible assumption) | (with_reducible refine And.intro ?_ ?_))); done) | (simp (disch := omega) only [Bool.and_eq_true, Bool.or_eq_true, decide_eq_true_eq, bne_iff_ne, ne_eq] at *; first | done | omega | (intros; omega)) | (simp; done) | (simp; omega) | (simp +contextual; done) | (intro h; rw [h]; rfl) | (intro hq; have hq2 := hq; simp only [Bool.and_eq_true, Bool.or_eq_true, Bool.not_eq_true', Bool.not_not, Bool.not_eq_false', decide_eq_true_eq, decide_eq_false_iff_not] at hq2; (repeat' (first | exact hq | (with_reducible refine And.intro ?_ ?_) | omega | (simp_all; done))); done) | (intros; simp_all; done)))
 | (with_reducible refine retK_n ?_)
 | (with_reducible refine retK_n' ?_)
 | (with_reducible refine retH_n rfl rfl rfl ?_)
 | (with_reducible refine retH_n' rfl rfl rfl ?_)
 | ((with_reducible show condN _ _ _ _ _ _); first
 | ((with_reducible refine condN_t ?_ ?_) <;> (intro hc; (try simp only [Bool.and_eq_true, Bool.or_eq_true, Bool.not_eq_true', Bool.and_eq_false_iff, Bool.or_eq_false_iff, decide_eq_true_eq, decide_eq_false_iff_not, bne_iff_ne, beq_iff_eq, reduceCtorEq, bne_eq_false_iff_eq, beq_eq_false_iff_ne, Bool.not_eq_false', Int.not_le, Int.not_lt, Bool.not_not] at hc); (skip); (try (exfalso; first | contradiction | omega)))))
 | ((with_reducible show callN _ _ _ _ _ _ _ _ _ _); first
 | (refine callN_q (k := 91) fnok_91 (Op_p _ ho) ?_ ?_))
 | ((fail_if_success (with_reducible show AW _ _ _ _)); simp (maxSteps := 2000000) only [go_sem, reduceIte, reduceCtorEq, Nat.reduceAdd, Nat.reduceLT, Nat.reduceLeDiff, Nat.reduceEqDiff, Nat.reduceMul, Nat.reduceSub, Nat.reduceBEq, Tryz.f90, ty_59, fnok_91])
 | ((with_reducible refine hK _ ?_); clear hK K))

set_option maxRecDepth 100000 in
set_option maxHeartbeats 4000000 in
theorem part_p (p : PartS) (nu : Int) (hp : p.Ok) : CallsP Tryz.prog 70 [.agg [.g (.int .i64 p.ch), .lst 1 p.q (intI p.a), .lst 16 p.k (oprF p.o)], .one (.g (.int .i64 nu))] (.t (.one (.g (.bool (partB p nu))))) := by
  have hpq := hp.q
  have hpk := hp.k
  refine CallsP_of Tryz.func70 rfl (by rw [Tryz.ntmps70]; simp) ?_
  simp only [Tryz.ntmps70, List.map_cons, List.map_nil, PT.tv, argEnv, Nat.zero_add, Nat.reduceAdd]
  repeat' (first
 | ((with_reducible show AW _ _ _ _); first
 | (with_reducible refine AW_seq_k fun K hK => ?_)
 | (with_reducible refine AW_skip ?_)
 | (with_reducible refine AW_exit ?_)
 | (with_reducible refine AW_ret ?_)
 | (with_reducible refine AW_condI ?_)
 | (with_reducible refine AW_block ?_)
 | ((with_reducible show AW _ (Code.region _ _ _) _ _); first
 | (with_reducible refine AW_regionP 0 [0, 1] ?_)
 | (with_reducible refine AW_regionP (ops := #[⟨some 8, _, _, _, _, _⟩, _, _, _, _, _, _, _, _, _, _, _, _, _, _, _, _, _, _, _]) 1 [1, 2] ?_)
 | (with_reducible refine AW_regionP (ops := #[⟨some 5, _, _, _, _, _⟩, _, _, _, _]) 1 [0, 1] ?_)
 | (with_reducible refine AW_regionP (ops := #[⟨some 6, _, _, _, _, _⟩, _, _]) 1 [0, 1] ?_)
 | (with_reducible refine AW_regionP (ops := #[⟨some 4, _, _, _, _, _⟩]) 2 [] ?_)
 | (with_reducible refine AW_regionP (ops := #[⟨some 9, _, _, _, _, _⟩]) 2 [0, 1, 7, 8] ?_)
 | (with_reducible refine AW_regionP (ops := #[⟨some 5, _, _, _, _, _⟩]) 3 [1, 2] ?_)
 | (with_reducible refine AW_regionP (ops := #[⟨some 10, _, _, _, _, _⟩, _]) 3 [0, 1, 7, 8] ?_)
 | (with_reducible refine AW_regionP (ops := #[⟨some 28, _, _, _, _, _⟩, _, _, _]) 4 [1, 2, 5] ?_)
 | (with_reducible refine AW_regionP (ops := #[⟨some 11, _, _, _, _, _⟩, _, _, _, _, _]) 4 [0, 1, 5, 7, 8] ?_)
 | (with_reducible refine AW_regionP (ops := #[⟨some 32, _, _, _, _, _⟩]) 5 [1, 2, 5, 29, 30, 31] ?_)
 | (with_reducible refine AW_regionP (ops := #[⟨some 17, _, _, _, _, _⟩, _]) 5 [5] ?_)
 | (with_reducible refine AW_regionP (ops := #[⟨some 33, _, _, _, _, _⟩, _, _]) 6 [1, 2, 5, 29, 30, 31] ?_)
 | (with_reducible refine AW_regionP (ops := #[⟨some 18, _, _, _, _, _⟩, _]) 6 [0, 1, 7, 8] ?_)
 | (with_reducible refine AW_regionP (ops := #[⟨some 35, _, _, _, _, _⟩, _, _, _, _, _, _, _]) 7 [1, 2, 5, 7, 29, 30, 31] ?_)
 | (with_reducible refine AW_regionP (ops := #[⟨some 4, _, _, _, _, _⟩]) 7 [] ?_)
 | (with_reducible refine AW_regionP 8 [] ?_)
 | (with_reducible refine AW_regionP 9 [1, 2, 7, 29, 30, 31] ?_)
 | (with_reducible refine AW_regionP 10 [1, 2, 5, 29, 30, 31] ?_)
 | (with_reducible refine AW_regionP 11 [2] ?_))
 | ((with_reducible show AW _ (Code.loop _) _ _); first
 | ((with_reducible refine AW_loopQ (c := (Code.seq (Code.region 5 _ _) _)) (ι := Nat) [1, 2, 29, 30] (fun i => [(5, iA .i64 (lstP p.a i)), (31, iA .i64 (i : Int))]) (fun i => []) (fun i => i ≤ p.q ∧ (∀ i', i' < i → aftO p.a nu i')) (fun i => p.q - i) 0 ?lg5 ?l15 ?l25 ?li5 ?lr5); (case' lg5 => rintro i _); (case' li5 => try (exact ⟨Nat.zero_le _, fun i hi => absurd hi (Nat.not_lt_zero _)⟩)); (case' lr5 => rintro i ⟨hi, hai⟩ KR hR5; skip; simp only [keepE, hupd, hset, lk, if_true, if_false, Nat.reduceEqDiff, reduceIte, List.cons_append, List.nil_append, partF0, partF1, partF2, intI, oprF0, oprF1, oprF2, oprF3, oprF4, oprF5, oprF6, oprF7, oprF8, oprF9, oprF10, oprF11, oprF12, oprF13, oprF14, oprF15, lstP_s]))
 | ((with_reducible refine AW_loopQ (c := (Code.seq (Code.region 2 _ _) _)) (ι := Nat) [0, 1, 7] (fun j => [(8, iA .i64 (j : Int))]) (fun j => []) (fun j => j ≤ p.k ∧ (∀ j', j' < j → opB (p.o j') = true)) (fun j => p.k - j) 0 ?lg2 ?l12 ?l22 ?li2 ?lr2); (case' lg2 => rintro j _); (case' li2 => try (exact ⟨Nat.zero_le _, fun i hi => absurd hi (Nat.not_lt_zero _)⟩)); (case' lr2 => rintro j ⟨hj, haj⟩ KR hR2; skip; simp only [keepE, hupd, hset, lk, if_true, if_false, Nat.reduceEqDiff, reduceIte, List.cons_append, List.nil_append, partF0, partF1, partF2, intI, oprF0, oprF1, oprF2, oprF3, oprF4, oprF5, oprF6, oprF7, oprF8, oprF9, oprF10, oprF11, oprF12, oprF13, oprF14, oprF15, lstP_s]))))
 | ((first | (with_reducible refine And.intro ?_ ?_) | (with_reducible refine Need.mk ?_)); focus (first | exact True.intro | (with_reducible assumption) | omega | (refine ⟨?_, ?_⟩ <;> omega) | (intro _; first | exact True.intro | (with_reducible assumption) | omega) | (intros; (repeat' (first | exact True.intro | omega | (with_reducible assumption) | (with_reducible refine And.intro ?_ ?_))); done) | (simp (disch := omega) only [Bool.and_eq_true, Bool.or_eq_true, decide_eq_true_eq, bne_iff_ne, ne_eq] at *; first | done | omega | (intros; omega)) | (simp; done) | (simp; omega) | (simp +contextual; done) | (intro h; rw [h]; rfl) | (intro hq; have hq2 := hq; simp only [Bool.and_eq_true, Bool.or_eq_true, Bool.not_eq_true', Bool.not_not, Bool.not_eq_false', decide_eq_true_eq, decide_eq_false_iff_not] at hq2; (repeat' (first | exact hq | (with_reducible refine And.intro ?_ ?_) | omega | (simp_all; done))); done) | (intros; simp_all; done)))
 | (with_reducible refine retK_n ?_)
 | (with_reducible refine retK_n' ?_)
 | (with_reducible refine retH_n rfl rfl rfl ?_)
 | (with_reducible refine retH_n' rfl rfl rfl ?_)
 | ((with_reducible show condN _ _ _ _ _ _); first
 | ((with_reducible refine condN_t ?_ ?_) <;> (intro hc; (try simp only [Bool.and_eq_true, Bool.or_eq_true, Bool.not_eq_true', Bool.and_eq_false_iff, Bool.or_eq_false_iff, decide_eq_true_eq, decide_eq_false_iff_not, bne_iff_ne, beq_iff_eq, reduceCtorEq, bne_eq_false_iff_eq, beq_eq_false_iff_ne, Bool.not_eq_false', Int.not_le, Int.not_lt, Bool.not_not] at hc); (skip); (try (exfalso; first | contradiction | omega)))))
 | ((with_reducible show callN _ _ _ _ _ _ _ _ _ _); first
 | (refine callN_q (k := 90) fnok_90 (badop_p _ (hp.o _ (by omega))) ?_ ?_)
 | ((refine callN_i (k := 89) Tryz.func89 rfl fnok_89 (by rw [Tryz.ntmps89]; simp) ?_ ?_ (fun K hK => ?_)); (focus (first | exact True.intro | (with_reducible assumption) | omega | (refine ⟨?_, ?_⟩ <;> omega) | (intro _; first | exact True.intro | (with_reducible assumption) | omega) | (intros; (repeat' (first | exact True.intro | omega | (with_reducible assumption) | (with_reducible refine And.intro ?_ ?_))); done) | (simp (disch := omega) only [Bool.and_eq_true, Bool.or_eq_true, decide_eq_true_eq, bne_iff_ne, ne_eq] at *; first | done | omega | (intros; omega)) | (simp; done) | (simp; omega) | (simp +contextual; done) | (intro h; rw [h]; rfl) | (intro hq; have hq2 := hq; simp only [Bool.and_eq_true, Bool.or_eq_true, Bool.not_eq_true', Bool.not_not, Bool.not_eq_false', decide_eq_true_eq, decide_eq_false_iff_not] at hq2; (repeat' (first | exact hq | (with_reducible refine And.intro ?_ ?_) | omega | (simp_all; done))); done) | (intros; simp_all; done))); (focus (first | (simp [lsF]; done) | assumption | exact ⟨Nat.ne_of_lt (Nat.lt_succ_self _), by assumption⟩)); simp only [Tryz.ntmps89, List.map_cons, List.map_nil, List.nil_append, List.cons_append, List.append_nil, LV.tv, argEnv, Nat.zero_add, Nat.reduceAdd])
 | ((refine callN_i (k := 101) Tryz.func101 rfl fnok_101 (by rw [Tryz.ntmps101]; simp) ?_ ?_ (fun K hK => ?_)); (focus (first | exact True.intro | (with_reducible assumption) | omega | (refine ⟨?_, ?_⟩ <;> omega) | (intro _; first | exact True.intro | (with_reducible assumption) | omega) | (intros; (repeat' (first | exact True.intro | omega | (with_reducible assumption) | (with_reducible refine And.intro ?_ ?_))); done) | (simp (disch := omega) only [Bool.and_eq_true, Bool.or_eq_true, decide_eq_true_eq, bne_iff_ne, ne_eq] at *; first | done | omega | (intros; omega)) | (simp; done) | (simp; omega) | (simp +contextual; done) | (intro h; rw [h]; rfl) | (intro hq; have hq2 := hq; simp only [Bool.and_eq_true, Bool.or_eq_true, Bool.not_eq_true', Bool.not_not, Bool.not_eq_false', decide_eq_true_eq, decide_eq_false_iff_not] at hq2; (repeat' (first | exact hq | (with_reducible refine And.intro ?_ ?_) | omega | (simp_all; done))); done) | (intros; simp_all; done))); (focus (first | (simp [lsF]; done) | assumption | exact ⟨Nat.ne_of_lt (Nat.lt_succ_self _), by assumption⟩)); simp only [Tryz.ntmps101, List.map_cons, List.map_nil, List.nil_append, List.cons_append, List.append_nil, LV.tv, argEnv, Nat.zero_add, Nat.reduceAdd]))
 | ((with_reducible show callDN _ _ _ _ _ _ _ _ _ _ _ _ _); first
 | (refine callDN_q (k := 90) fnok_90 (badop_p _ (hp.o _ (by omega))) ?_ ?_))
 | ((with_reducible show callDGN _ _ _ _ _ _ _ _ _ _ _ _ _); first
 | (refine callDGN_q (k := 90) fnok_90 (fun hg => badop_p _ (hp.o _ (by omega))) ?_ ?_))
 | ((with_reducible show callGN _ _ _ _ _ _ _ _ _ _); first
 | (refine callGN_q (k := 90) fnok_90 (fun hg => badop_p _ (hp.o _ (by omega))) ?_ ?_))
 | ((with_reducible refine hR5 _ (i + 1) ?_); (try clear hR5 KR))
 | ((with_reducible refine hR2 _ (j + 1) ?_); (try clear hR2 KR))
 | ((with_reducible refine Told.mk ?_); simp only [go_sem, reduceIte, reduceCtorEq, Nat.reduceAdd, Nat.reduceLT, Nat.reduceLeDiff, Nat.reduceEqDiff, Nat.reduceMul, Nat.reduceSub, Nat.reduceBEq, partF0, partF1, partF2, intI, oprF0, oprF1, oprF2, oprF3, oprF4, oprF5, oprF6, oprF7, oprF8, oprF9, oprF10, oprF11, oprF12, oprF13, oprF14, oprF15, lstP_s] <;> (first | exact True.intro | (((try simp (disch := omega) only [seaWrap, Int.natCast_add, Int.cast_ofNat_Int, and_true, true_and, and_self]); (repeat' (first | exact True.intro | omega | rfl | (with_reducible assumption) | (with_reducible refine And.intro ?_ ?_) | (exact all_succ (by assumption) (by assumption)) | ((exact all_succ (by assumption) (aft_t (by assumption) (by omega) (by omega)))))); done)) | (((try simp (disch := omega) only [seaWrap, Int.natCast_add, Int.cast_ofNat_Int, and_true, true_and, and_self]); (repeat' (first | exact True.intro | omega | rfl | (with_reducible assumption) | (with_reducible refine And.intro ?_ ?_) | (exact all_succ (by assumption) (by assumption)) )); done)) | (refine Stuck.out ?_)))
 | ((fail_if_success (with_reducible show AW _ _ _ _)); simp (maxSteps := 2000000) only [go_sem, reduceIte, reduceCtorEq, Nat.reduceAdd, Nat.reduceLT, Nat.reduceLeDiff, Nat.reduceEqDiff, Nat.reduceMul, Nat.reduceSub, Nat.reduceBEq, Tryz.f70, Tryz.f89, Tryz.f101, of_52_0, ty_3, of_52_1, ty_24, le_24, of_52_2, ty_50, le_50, sl_24, ar_24, fnok_89, fnok_101, sl_50, ar_50, ty_59, partF0, partF1, partF2, intI, oprF0, oprF1, oprF2, oprF3, oprF4, oprF5, oprF6, oprF7, oprF8, oprF9, oprF10, oprF11, oprF12, oprF13, oprF14, oprF15, lstP_s])
 | ((fail_if_success (with_reducible show AW _ _ _ _)); simp (disch := omega) only [seaWrap, seaDiv, seaMod])
 | ((with_reducible refine hK _ ?_); clear hK K)
 | (with_reducible apply_assumption -exfalso only [*]))
  all_goals (first | exact part_f0 (by omega) | exact part_f1 (by assumption) (aft_f (by omega)) | exact part_f2 (by assumption) (by assumption) | exact part_t (by omega) (by assumption) hai (by assumption) haj | skip)

end Go.Proofs.YtbckibbgajfihaaGreat
