/- The walk with one set of rules: calls, tests and ends as data for the rules. -/
import Derived.Test.YtifoncmlelinjaaSeaQ
set_option linter.unusedVariables false
set_option linter.unusedSimpArgs false
namespace Go.Sea
open Go.RowKit
abbrev ArgR := Option (Prop × List PT × Bool)
def callN0 (P : Program) (gs : List (Option Nat)) (d : Option Tmp) (os : List Oper) (s : AS) (K : AS → Prop) (c : Cle) (a : ArgR) (t : Option (Prop × List TV)) : Prop :=
  match c with
  | .pure k => (match a with
    | some (nd, ps, own) => fnOk P k = true ∧ nd ∧ ∃ r, CallsP P k ps r ∧ (own = true → r.flat = true) ∧ arun P gs os (s.put d r.av) K
    | none => False) ∨ (match t with
    | some (nd, ps) => fnOk P k = true ∧ nd ∧ ((inlF P k ps d s fun s' => arun P gs os s' K) ∨ ∃ r H', CallsH P k ps s.heap r H' ∧ arun P gs os ({ s with heap := H' }.put d r) K)
    | none => False)
  | .clo k l m => match t with
    | some (nd, ps) => fnOk P k = true ∧ nd ∧ ((∃ r H', CallsH P k (l.map LV.tv ++ ps ++ m.map LV.tv) s.heap r H' ∧ arun P gs os ({ s with heap := H' }.put d r) K) ∨ inlF P k (l.map LV.tv ++ ps ++ m.map LV.tv) d s fun s' => arun P gs os s' K)
    | none => False
  | .yld l => match t with
    | some (nd, ps) => nd ∧ yieldF P l ps d s fun s' => arun P gs os s' K
    | none => False
  | .no => False
/-- A call behind own blocks that are read by value from then on. -/
def frzK (P : Program) (gs : List (Option Nat)) (o : Oper) (os : List Oper) (s : AS) (K : AS → Prop) : Prop := frzF P o s fun s' => arun P gs os s' K
def callN (P : Program) (gs : List (Option Nat)) (d : Option Tmp) (os : List Oper) (s : AS) (K : AS → Prop) (c : Cle) (a : ArgR) (t : Option (Prop × List TV)) (F : Prop) : Prop := callN0 P gs d os s K c a t ∨ F
def callZ (P : Program) (gs : List (Option Nat)) (o : Oper) (os : List Oper) (s : AS) (K : AS → Prop) : Prop := callF0 P o s fun s' => arun P gs os s' K
def callGN0 (P : Program) (gs : List (Option Nat)) (b : Bool) (d : Option Tmp) (os : List Oper) (s : AS) (K : AS → Prop) (c : Cle) (a : ArgR) : Prop :=
  match c with
  | .pure k => match a with
    | some (nd, ps, own) => fnOk P k = true ∧ (b = true → nd) ∧ ∃ r, (b = true → CallsP P k ps r) ∧ (own = true → r.flat = true) ∧ arun P gs os (s.put d (r.av.mbOf b)) K
    | none => False
  | _ => False
/-- A guarded call, both ways apart. -/
def splitK (P : Program) (gs : List (Option Nat)) (b : Bool) (o : Oper) (os : List Oper) (s : AS) (K : AS → Prop) : Prop := splitG P b o s fun s' => arun P gs os s' K
def callGN (P : Program) (gs : List (Option Nat)) (b : Bool) (d : Option Tmp) (os : List Oper) (s : AS) (K : AS → Prop) (c : Cle) (a : ArgR) (F : Prop) : Prop := callGN0 P gs b d os s K c a ∨ F
def callDN (P : Program) (gs : List (Option Nat)) (n0 i : Nat) (d : Option Tmp) (os : List Oper) (s : AS) (lg : Lg) (K : Lg → AS → Prop) (c : Cle) (a : ArgR) (t : Option (Prop × List TV)) (ft : List Nat) : Prop :=
  match c with
  | .pure k => (match a with
    | some (nd, ps, own) => fnOk P k = true ∧ nd ∧ ∃ r, CallsP P k ps r ∧ (own = true → r.flat = true) ∧ arunD P gs n0 (i + 1) os (s.put d r.av) ((none, ft) :: lg) K
    | none => False) ∨ (match t with
    | some (nd, ts) => fnOk P k = true ∧ nd ∧ ((∃ r j cs cs', hget s.heap j = some cs ∧ j ∈ ts.flatMap TV.refs ∧ CallsT P k ts j cs r cs' ∧ arunD P gs n0 (i + 1) os (s.ent d (n0 + i) r (.set j cs')) ((some j, ft) :: lg) K) ∨
      ∃ r cs, CallsN P k ts cs r ∧ arunD P gs n0 (i + 1) os (s.ent d (n0 + i) (r (n0 + i)) (.new cs)) ((some (n0 + i), ft) :: lg) K)
    | none => False)
  | _ => False
def callDGN (P : Program) (gs : List (Option Nat)) (n0 i : Nat) (b : Bool) (d : Option Tmp) (os : List Oper) (s : AS) (lg : Lg) (K : Lg → AS → Prop) (c : Cle) (a : ArgR) (ft : List Nat) : Prop :=
  match c with
  | .pure k => match a with
    | some (nd, ps, own) => fnOk P k = true ∧ (b = true → nd) ∧ ∃ r, (b = true → CallsP P k ps r) ∧ (own = true → r.flat = true) ∧ arunD P gs n0 (i + 1) os (s.put d (r.av.mbOf b)) ((none, ft) :: lg) K
    | none => False
  | _ => False
section
variable {P : Program} {gs : List (Option Nat)} {n0 i : Nat} {d : Option Tmp} {f : Operand} {args : Array Operand} {tys : Array TypeId} {ty : TypeId} {pos : String} {aft : Array Edge} {g : Option (Nat × Bool)} {os : List Oper} {s : AS} {lg : Lg} {K : AS → Prop} {K' : Lg → AS → Prop} {b : Bool} {k : FuncId} {nd : Prop} {ps : List PT} {own : Bool} {r : PV} {ft : List Nat}
theorem callZ_0 : callZ P gs ⟨d, .call ⟨.value f, args, tys⟩, ty, pos, aft, g⟩ os s K = callN0 P gs d os s K (calleeF (s.ev f)) (argsF s.ev (hget s.heap) args.toList) (tvsF s.ev args.toList) := by
  unfold callZ callF0 callN0
  simp only
  rfl
theorem callZ_N : callZ P gs ⟨d, .call ⟨.value f, args, tys⟩, ty, pos, aft, g⟩ os s K = callN P gs d os s K (calleeF (s.ev f)) (argsF s.ev (hget s.heap) args.toList) (tvsF s.ev args.toList) False := by
  rw [callZ_0]; unfold callN; simp
theorem callK_N : callK P gs ⟨d, .call ⟨.value f, args, tys⟩, ty, pos, aft, g⟩ os s K = callN P gs d os s K (calleeF (s.ev f)) (argsF s.ev (hget s.heap) args.toList) (tvsF s.ev args.toList) (frzK P gs ⟨d, .call ⟨.value f, args, tys⟩, ty, pos, aft, g⟩ os s K) := by
  unfold callN
  rw [← callZ_0 (ty := ty) (pos := pos) (aft := aft) (g := g) (tys := tys)]
  rfl
theorem callN_z {c : Cle} {a : ArgR} {t : Option (Prop × List TV)} {o : Oper} (L : List Nat) (h1 : frzsOk L s) (h2 : callZ P gs o os (frzs L s) K) : callN P gs d os s K c a t (frzK P gs o os s K) := Or.inr ⟨L, h1, h2⟩
theorem callGK_N {c : Cle} (hc : calleeF (s.ev f) = c) (hp : ∃ k, c = .pure k) : callGK P gs b ⟨d, .call ⟨.value f, args, tys⟩, ty, pos, aft, g⟩ os s K = callGN P gs b d os s K c (argsF s.ev (hget s.heap) args.toList) (splitK P gs b ⟨d, .call ⟨.value f, args, tys⟩, ty, pos, aft, g⟩ os s K) := by
  obtain ⟨k, rfl⟩ := hp
  have e : callG0 P b ⟨d, .call ⟨.value f, args, tys⟩, ty, pos, aft, g⟩ s (fun s' => arun P gs os s' K) = callGN0 P gs b d os s K (.pure k) (argsF s.ev (hget s.heap) args.toList) := by
    unfold callG0 callGN0
    simp only [hc]
    rfl
  unfold callGN
  rw [← e]
  rfl
theorem callGK_f {k : FuncId} : callGK P gs b ⟨d, .call ⟨.value (.func k), args, tys⟩, ty, pos, aft, g⟩ os s K = callGN P gs b d os s K (.pure k) (argsF s.ev (hget s.heap) args.toList) (splitK P gs b ⟨d, .call ⟨.value (.func k), args, tys⟩, ty, pos, aft, g⟩ os s K) := callGK_N rfl ⟨k, rfl⟩
theorem callGN_s {c : Cle} {a : ArgR} {o : Oper} (h1 : b = true → callK P gs o os s K) (h2 : b = false → arun P gs os (s.put o.dst .any) K) : callGN P gs b d os s K c a (splitK P gs b o os s K) := Or.inr ⟨h1, h2⟩
theorem callDK_v : callDK P gs n0 i ⟨d, .call ⟨.value f, args, tys⟩, ty, pos, aft, g⟩ os s lg K' = callDN P gs n0 i d os s lg K' (calleeF (s.ev f)) (argsF s.ev (hget s.heap) args.toList) (tvsF s.ev args.toList) (ftF s ⟨d, .call ⟨.value f, args, tys⟩, ty, pos, aft, g⟩) := by
  unfold callDK callD callDN
  simp only
  cases calleeF (s.ev f) <;> rfl
theorem callDK_t {q : Tmp} : callDK P gs n0 i ⟨d, .call ⟨.value (.tmp q), args, tys⟩, ty, pos, aft, g⟩ os s lg K' = callDN P gs n0 i d os s lg K' (calleeF (s.get q)) (argsF s.ev (hget s.heap) args.toList) (tvsF s.ev args.toList) (ftF s ⟨d, .call ⟨.value (.tmp q), args, tys⟩, ty, pos, aft, g⟩) := callDK_v
theorem callDK_f {k : FuncId} : callDK P gs n0 i ⟨d, .call ⟨.value (.func k), args, tys⟩, ty, pos, aft, g⟩ os s lg K' = callDN P gs n0 i d os s lg K' (.pure k) (argsF s.ev (hget s.heap) args.toList) (tvsF s.ev args.toList) (ftF s ⟨d, .call ⟨.value (.func k), args, tys⟩, ty, pos, aft, g⟩) := by
  rw [callDK_v]
  simp only [AS.ev, calleeF, calleeT, List.size_toArray, List.length_nil, and_self, if_true]
theorem callDGK_f {k : FuncId} : callDGK P gs n0 i b ⟨d, .call ⟨.value (.func k), args, tys⟩, ty, pos, aft, g⟩ os s lg K' = callDGN P gs n0 i b d os s lg K' (.pure k) (argsF s.ev (hget s.heap) args.toList) (ftF s ⟨d, .call ⟨.value (.func k), args, tys⟩, ty, pos, aft, g⟩) := by
  unfold callDGK callDG callDGN
  simp only [AS.ev, calleeF, calleeT, List.size_toArray, List.length_nil, and_self, if_true]
  rfl
theorem callN_p {F : Prop} {t : Option (Prop × List TV)} (h3 : fnOk P k = true) (h5 : CallsP P k ps r) (h4 : nd) (h6 : own = true → r.flat = true) (h7 : arun P gs os (s.put d r.av) K) : callN P gs d os s K (.pure k) (some (nd, ps, own)) t F := Or.inl (Or.inl ⟨h3, h4, r, h5, h6, h7⟩)
theorem callN_h {F : Prop} {a : ArgR} {l m : List LV} {ps : List TV} {r : AV} {H' : List (Option (List CV))} (h3 : fnOk P k = true) (h5 : CallsH P k (l.map LV.tv ++ ps ++ m.map LV.tv) s.heap r H') (h4 : nd) (h7 : arun P gs os ({ s with heap := H' }.put d r) K) : callN P gs d os s K (.clo k l m) a (some (nd, ps)) F := Or.inl ⟨h3, h4, Or.inl ⟨r, H', h5, h7⟩⟩
theorem callN_hp {F : Prop} {a : ArgR} {ps : List TV} {r : AV} {H' : List (Option (List CV))} (h3 : fnOk P k = true) (h5 : CallsH P k ps s.heap r H') (h4 : nd) (h7 : arun P gs os ({ s with heap := H' }.put d r) K) : callN P gs d os s K (.pure k) a (some (nd, ps)) F := Or.inl (Or.inr ⟨h3, h4, Or.inr ⟨r, H', h5, h7⟩⟩)
theorem callDN_t {a : ArgR} {ts : List TV} {r : AV} {j : Nat} {cs cs' : List CV} (h3 : fnOk P k = true) (h5 : CallsT P k ts j cs r cs') (h4 : nd) (h1 : hget s.heap j = some cs) (h2 : j ∈ ts.flatMap TV.refs) (h7 : arunD P gs n0 (i + 1) os (s.ent d (n0 + i) r (.set j cs')) ((some j, ft) :: lg) K') : callDN P gs n0 i d os s lg K' (.pure k) a (some (nd, ts)) ft := Or.inr ⟨h3, h4, Or.inl ⟨r, j, cs, cs', h1, h2, h5, h7⟩⟩
theorem callDN_n {a : ArgR} {ts : List TV} {r : Nat → AV} {cs : List CV} (h3 : fnOk P k = true) (h5 : CallsN P k ts cs r) (h4 : nd) (h7 : arunD P gs n0 (i + 1) os (s.ent d (n0 + i) (r (n0 + i)) (.new cs)) ((some (n0 + i), ft) :: lg) K') : callDN P gs n0 i d os s lg K' (.pure k) a (some (nd, ts)) ft := Or.inr ⟨h3, h4, Or.inr ⟨r, cs, h5, h7⟩⟩
/-- A call, inline. -/
theorem callN_i {F : Prop} {a : ArgR} {ps : List TV} {fn : Func} {c : Code} (hf : P.funcs[k]? = some fn) (hb : fn.body = some c) (h3 : fnOk P k = true) (hl : ps.length ≤ fn.ntmps) (h4 : nd) (hls : lsF s.lp.ls s.lp.fr)
    (h5 : ∀ K0 : AS → Prop, (∀ s', arun P gs os s' K → K0 s') → AW P c ⟨argEnv ps 0, s.heap, fn.ntmps, (s.lp.fr, s.env) :: s.gh, ⟨s.lp.ls, s.lp.fr + 1, none⟩⟩ (inlQ P s.lp.fr s.N s.lp fn d K0)) : callN P gs d os s K (.pure k) a (some (nd, ps)) F :=
  Or.inl (Or.inr ⟨h3, h4, Or.inl ⟨fn, c, hf, hb, hl, hls, h5 _ fun _ h => h⟩⟩)
theorem callN_ic {F : Prop} {a : ArgR} {ps : List TV} {l m : List LV} {fn : Func} {c : Code} (hf : P.funcs[k]? = some fn) (hb : fn.body = some c) (h3 : fnOk P k = true) (hl : (l.map LV.tv ++ ps ++ m.map LV.tv).length ≤ fn.ntmps) (h4 : nd) (hls : lsF s.lp.ls s.lp.fr)
    (h5 : ∀ K0 : AS → Prop, (∀ s', arun P gs os s' K → K0 s') → AW P c ⟨argEnv (l.map LV.tv ++ ps ++ m.map LV.tv) 0, s.heap, fn.ntmps, (s.lp.fr, s.env) :: s.gh, ⟨s.lp.ls, s.lp.fr + 1, none⟩⟩ (inlQ P s.lp.fr s.N s.lp fn d K0)) : callN P gs d os s K (.clo k l m) a (some (nd, ps)) F :=
  Or.inl ⟨h3, h4, Or.inr ⟨fn, c, hf, hb, hl, hls, h5 _ fun _ h => h⟩⟩
/-- A call of yield: the loop's body is walked from the waiting frame's slots; what comes behind it is kept behind a name. -/
theorem callN_y {F : Prop} {a : ArgR} {l : Nat} {ps : List TV} {x : LS} (hx : lkL s.lp.ls l = some x) (h1 : nd) (h2 : x.ps.length = ps.length) (h3 : ltAll x.ps x.N) (h4 : lsF s.lp.ls s.lp.fr)
    (h5 : ∀ K0 : AS → Prop, (∀ s', arun P gs os s' K → K0 s') → AW P x.asg ⟨zipPut x.ps ps (gf s.gh x.fid), s.heap, x.N, (s.lp.fr, s.env) :: s.gh, ⟨s.lp.ls, s.lp.fr + 1, some l⟩⟩ (thenA (bodyF P l x.body (roundQ l s.lp.fr s.N s.lp.ro d K0)) fun _ _ => False)) :
    callN P gs d os s K (.yld l) a (some (nd, ps)) F := by
  refine Or.inl ⟨h1, ?_⟩
  unfold yieldF
  rw [hx]
  exact ⟨h2, h3, h4, h5 _ fun _ h => h⟩
theorem callGN_p {F : Prop} (h3 : fnOk P k = true) (h5 : b = true → CallsP P k ps r) (h4 : b = true → nd) (h6 : own = true → r.flat = true) (h7 : arun P gs os (s.put d (r.av.mbOf b)) K) : callGN P gs b d os s K (.pure k) (some (nd, ps, own)) F := Or.inl ⟨h3, h4, r, h5, h6, h7⟩
theorem callDN_p {t : Option (Prop × List TV)} (h3 : fnOk P k = true) (h5 : CallsP P k ps r) (h4 : nd) (h6 : own = true → r.flat = true) (h7 : arunD P gs n0 (i + 1) os (s.put d r.av) ((none, ft) :: lg) K') : callDN P gs n0 i d os s lg K' (.pure k) (some (nd, ps, own)) t ft := Or.inl ⟨h3, h4, r, h5, h6, h7⟩
theorem callDGN_p (h3 : fnOk P k = true) (h5 : b = true → CallsP P k ps r) (h4 : b = true → nd) (h6 : own = true → r.flat = true) (h7 : arunD P gs n0 (i + 1) os (s.put d (r.av.mbOf b)) ((none, ft) :: lg) K') : callDGN P gs n0 i b d os s lg K' (.pure k) (some (nd, ps, own)) ft := ⟨h3, h4, r, h5, h6, h7⟩
end
/-- A test. -/
def condN (P : Program) (x y : Code) (s : AS) (Q : Exit → AS → Prop) (v : AV) : Prop := match v.tv.bind TV.bool? with
  | some b => v.nd ∧ (b = true → AW P x s Q) ∧ (b = false → AW P y s Q)
  | none => False
section
variable {P : Program} {s : AS} {Q : Exit → AS → Prop}
theorem AW_condI {c : Operand} {x y : Code} (h : condN P x y s Q (s.ev c)) : AW P (.cond c x y) s Q := by
  unfold condN at h
  split at h
  · rename_i b hb
    exact AW_cond hb h.1 h.2.1 h.2.2
  · exact h.elim
theorem condN_t {x y : Code} {b : Bool} (ht : b = true → AW P x s Q) (hf : b = false → AW P y s Q) : condN P x y s Q (.t (.one (.iv (.g (.bool b))))) := ⟨trivial, ht, hf⟩
/-- A function's end. -/
def retN (r : PV) (H : Hp) : Option (Prop × List TV) → Prop
  | some (nd, l) => nd ∧ match toPV H (tupA l) with
    | some (n2, v, _) => n2 ∧ v.eqv r
    | none => False
  | none => False
theorem retK_n {fn : Func} {r : PV} (h : retN r (hget s.heap) (resF P s fn.results.toList)) : retK P fn r .ret s := ⟨trivial, h⟩
theorem retK_n' {fn : Func} {r : PV} (h : retN r (hget s.heap) (resF P s fn.results.toList)) : retK P fn r .normal s := ⟨trivial, h⟩
def retHN (r : AV) : Option (Prop × List TV) → Prop
  | some (nd, l) => nd ∧ tupA l = r
  | none => False
theorem retH_n {fn : Func} {r : AV} {H' : List (Option (List CV))} {g : List (Nat × List (Nat × AV))} {lp : LP} (h1 : s.heap = H') (h2 : s.gh = g) (h3 : s.lp = lp) (h : retHN r (resF P s fn.results.toList)) : retH P fn r H' g lp .ret s := ⟨trivial, h1, h2, h3, h⟩
theorem retH_n' {fn : Func} {r : AV} {H' : List (Option (List CV))} {g : List (Nat × List (Nat × AV))} {lp : LP} (h1 : s.heap = H') (h2 : s.gh = g) (h3 : s.lp = lp) (h : retHN r (resF P s fn.results.toList)) : retH P fn r H' g lp .normal s := ⟨trivial, h1, h2, h3, h⟩
end
end Go.Sea
