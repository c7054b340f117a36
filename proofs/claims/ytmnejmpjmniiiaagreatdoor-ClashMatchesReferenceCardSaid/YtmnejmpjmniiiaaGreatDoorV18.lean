/- Part 18 of 18: contracts of functions and plain laws for the root text. No condition. -/
import Derived.Test.YtmnejmpjmniiiaaGreatDoorV01
import Derived.Test.YtmnejmpjmniiiaaGreatDoorV02
import Derived.Test.YtmnejmpjmniiiaaGreatDoorV03
import Derived.Test.YtmnejmpjmniiiaaGreatDoorV04
import Derived.Test.YtmnejmpjmniiiaaGreatDoorV05
import Derived.Test.YtmnejmpjmniiiaaGreatDoorV06
import Derived.Test.YtmnejmpjmniiiaaGreatDoorV07
import Derived.Test.YtmnejmpjmniiiaaGreatDoorV08
import Derived.Test.YtmnejmpjmniiiaaGreatDoorV09
import Derived.Test.YtmnejmpjmniiiaaGreatDoorV10
import Derived.Test.YtmnejmpjmniiiaaGreatDoorV11
import Derived.Test.YtmnejmpjmniiiaaGreatDoorV12
import Derived.Test.YtmnejmpjmniiiaaGreatDoorV13
import Derived.Test.YtmnejmpjmniiiaaGreatDoorV14
import Derived.Test.YtmnejmpjmniiiaaGreatDoorV15
import Derived.Test.YtmnejmpjmniiiaaGreatDoorV16
import Derived.Test.YtmnejmpjmniiiaaGreatDoorV17
import Derived.Test.YtmnejmpjmniiiaaGreatDoorRows
set_option linter.unusedVariables false
set_option linter.unusedSimpArgs false
set_option linter.unusedSectionVars false
set_option linter.deprecated false
set_option maxRecDepth 100000
set_option maxHeartbeats 4000000
namespace Go.Proofs.YtmnejmpjmniiiaaGreatDoor
open Go.RowKit Go.Sea
open Nat renaming reduceAdd -> xA, reduceLT -> xL, reduceLeDiff -> xD, reduceEqDiff -> xE, reduceMul -> xM, reduceSub -> xS, reduceBEq -> xB
theorem yL:aM Tryz.prog 54=true:=by kernel_rfl
theorem MJ:aM Tryz.prog 55=true:=by kernel_rfl
theorem NU:aM Tryz.prog 59=true:=by kernel_rfl
attribute [go_sem] yL MJ NU
def LW (x:bF) (s:Nat):List Int:=jE x.S s.testBit x.m
theorem Cn (x:bF) (s:Nat):(LW x s).length<=x.m:=wD _ _ _
theorem Yu {x:bF} (he:cB x=0) {s:Nat} (h:iV x.m s):xR x.S (bl s)=LW x s:=Vn (cK he).2.2.2.2.1 h
theorem lX {x:bF} (he:cB x=0) {s:Nat} (h:iV x.m s):(LW x s).length=cnt s:=by rw [<- Yu he h];unfold xR cnt;rw [List.length_map]
theorem Dw {x:bF} (he:cB x=0) (s:Nat):fK x.S x.m (LW x s).length (zL (LW x s))=true:=NR (cK he).1 _
theorem zw {x:bF} (he:cB x=0) {s:Nat} (h:iV x.m s):eG x (LW x s).length (zL (LW x s))=s:=by
  unfold eG LW;rw [Qg (cK he).1,FJ h]
theorem YI {x:bF} (he:cB x=0) {s:Nat} (h:iV x.m s):fH x (LW x s).length (zL (LW x s))=0:=by
  rw [Bh (by omega) (Dw he s)];exact he
theorem BU (x:bF):LW x 0=[]:=by
  unfold LW
  have:∀m,jE x.S (Nat.testBit 0) m=[]:=fun m=>by
    induction m with
    |zero=>rfl
    |succ m ih=>rw [oD (by simp),ih]
  exact this _
theorem acY {b:Nat ->Bool}:∀k,fQ b k<k ->b (fQ b k)=true:=by
  intro k
  induction k with
  |zero=>intro h;omega
  | succ k ih=>
    intro hk
    simp only [fQ] at hk ⊢
    split
    · rename_i g;exact ih g
    · rename_i g
      rw [if_neg g] at hk
      split
      · assumption
      · rename_i g2;rw [if_neg g2] at hk;omega
theorem WB {q:Nat} {a c:Nat ->Int} (h:∃i,i<q /\ a i≠c i):og q a q c=true \/ og q c q a=true:=by
  have e:(fun j=>decide (c j≠a j))=fun j=>decide (a j≠c j):=by funext j;exact decide_eq_decide.2 ⟨Ne.symm,Ne.symm⟩
  unfold og
  rw [e,Nat.min_self]
  have hlt:fQ (fun j=>decide (a j≠c j)) q<q:=by
    rcases Nat.lt_or_ge (fQ (fun j=>decide (a j≠c j)) q) q with g|g
    · exact g
    · obtain ⟨i,hi,hne⟩:=h
      have:=rR (b:=fun j=>decide (a j≠c j)) q i (by omega)
      exact absurd hne (of_decide_eq_false this)
  rw [if_pos hlt,if_pos hlt]
  have:=of_decide_eq_true (acY (b:=fun j=>decide (a j≠c j)) q hlt)
  rcases Int.lt_or_lt_of_ne this with g|g
  · exact Or.inl (decide_eq_true g)
  · exact Or.inr (decide_eq_true g)
theorem Mv {x:bF} (he:cB x=0) {s b:Nat} (hs:iV x.m s) (hb:iV x.m b) (hc:cnt s=cnt b):og (LW x s).length (zL (LW x s)) (LW x b).length (zL (LW x b))=xU s b:=by
  have hm:=(cK he).2.2.2.2.1
  have hs2:s<1024:=Nat.lt_of_lt_of_le hs (j4 hm)
  have hb2:b<1024:=Nat.lt_of_lt_of_le hb (j4 hm)
  have one:∀{s b:Nat},iV x.m s ->iV x.m b ->og (LW x s).length (zL (LW x s)) (LW x b).length (zL (LW x b))=true ->vk s b:=fun {s b} hs hb h=>by
    have:=VX (YI he hs) hb (by rw [Yu he hb];exact h)
    rwa [zw he hs] at this
  rw [Bool.eq_iff_iff]
  refine ⟨fun h=>K8 hs2 hb2 (one hs hb h),fun h=> ?_⟩
  have hbf:=Li hs2 hb2 h
  have hl:(LW x s).length=(LW x b).length:=by rw [lX he hs,lX he hb,hc]
  have hne:∃i,i<(LW x s).length /\ zL (LW x s) i≠zL (LW x b) i:=by
    refine Classical.byContradiction fun g=> ?_
    have e:LW x s=LW x b:=by
      apply List.ext_getElem hl
      intro i h1 h2
      have:zL (LW x s) i=zL (LW x b) i:=Classical.byContradiction fun k=>g ⟨i,h1,k⟩
      unfold zL at this
      simpa [List.getD_eq_getElem?_getD,List.getElem?_eq_getElem h1,List.getElem?_eq_getElem h2] using this
    have e2:s=b:=by rw [<- zw he hs,e,zw he hb]
    subst e2;exact hbf.irr
  rw [<- hl]
  rcases WB hne with g|g
  · exact g
  · have:=one hb hs (by rw [<- hl];exact g)
    exact (hbf.trans this).irr.elim
def JY (x:bF) (s b:Nat):Prop:=(((LW x b).length:Int)=0 \/ ((LW x s).length:Int)<((LW x b).length:Int)) \/ ((LW x s).length:Int)=((LW x b).length:Int) /\ og (LW x s).length (zL (LW x s)) (LW x b).length (zL (LW x b))=true
def JF (x:bF) (s b:Nat):Prop:=((LW x s).length:Int)>((LW x b).length:Int) \/ ((LW x s).length:Int)=((LW x b).length:Int) /\ og (LW x s).length (zL (LW x s)) (LW x b).length (zL (LW x b))=true
instance (x:bF) (s b:Nat):Decidable (JY x s b):=by unfold JY;infer_instance
instance (x:bF) (s b:Nat):Decidable (JF x s b):=by unfold JF;infer_instance
def rz (x:bF):Nat ->Nat
  |0=>0
  |n+1=>if JY x (n+1) (rz x n) /\ dS (iU x) (iR (dU x) (n+1))=false then n+1 else rz x n
def vX (x:bF):Nat ->Nat
  |0=>0
  |n+1=>if JF x (n+1) (vX x n) /\ dS (iU x) (n+1)=true then n+1 else vX x n
theorem aae {x:bF} {n:Nat} (h:JY x (n+1) (rz x n) /\ dS (iU x) (iR (dU x) (n+1))=false):rz x (n+1)=n+1:=if_pos h
theorem aac {x:bF} {n:Nat} (h:¬(JY x (n+1) (rz x n) /\ dS (iU x) (iR (dU x) (n+1))=false)):rz x (n+1)=rz x n:=if_neg h
theorem ZL {x:bF} {n:Nat} (h:JF x (n+1) (vX x n) /\ dS (iU x) (n+1)=true):vX x (n+1)=n+1:=if_pos h
theorem Zv {x:bF} {n:Nat} (h:¬(JF x (n+1) (vX x n) /\ dS (iU x) (n+1)=true)):vX x (n+1)=vX x n:=if_neg h
theorem adC {x:bF} {n:Nat} (h:((((LW x (rz x n)).length:Int)≠0 /\ ((LW x (rz x n)).length:Int)<=((LW x (n+1)).length:Int)) /\ (((LW x (n+1)).length:Int)≠((LW x (rz x n)).length:Int) \/ og (LW x (n+1)).length (zL (LW x (n+1))) (LW x (rz x n)).length (zL (LW x (rz x n)))=false)) \/ dS (iU x) (iR (dU x) (n+1))=true):rz x (n+1)=rz x n:=aac fun ⟨g1,g2⟩=>by
  rcases h with ⟨⟨h1,h2⟩,h3⟩|h
  · rcases g1 with (g|g)|⟨g,g'⟩
    · exact h1 g
    · omega
    · rcases h3 with h3|h3
      · exact h3 g
      · rw [h3] at g';cases g'
  · rw [h] at g2;cases g2
theorem aa2 {x:bF} {n:Nat} (h:(((LW x (n+1)).length:Int)<=((LW x (vX x n)).length:Int) /\ (((LW x (n+1)).length:Int)≠((LW x (vX x n)).length:Int) \/ og (LW x (n+1)).length (zL (LW x (n+1))) (LW x (vX x n)).length (zL (LW x (vX x n)))=false)) \/ dS (iU x) (n+1)=false):vX x (n+1)=vX x n:=Zv fun ⟨g1,g2⟩=>by
  rcases h with ⟨h2,h3⟩|h
  · rcases g1 with g|⟨g,g'⟩
    · omega
    · rcases h3 with h3|h3
      · exact h3 g
      · rw [h3] at g';cases g'
  · rw [h] at g2;cases g2
theorem aiQ (P:Nat ->Nat):iR P 0=0:=by unfold iR;rw [aha];rfl
theorem Z5 {s:Nat} (hs:s<1024) (h:cnt s=0):s=0:=by
  refine Nn hs (by decide) fun i hi=> ?_
  cases e:s.testBit i with
  |false=>simp
  | true=>
    have h1:i∈bl s:=Aj.2 ⟨hi,e⟩
    have h2:(bl s).length=0:=h
    rw [List.length_eq_zero_iff.1 h2] at h1
    exact absurd h1 List.not_mem_nil
theorem ahg {x:bF} (he:cB x=0):pq x 0=false:=by
  have h0:iV x.m 0:=Nat.pow_pos (by decide)
  unfold pq;rw [aiQ,(mD he h0).2 (Eo x)];rfl
theorem KL {x:bF} (he:cB x=0):∀n,n<2^x.m ->((iK gT (pq x) (n+1)).2=false ->rz x n=0) /\ ((iK gT (pq x) (n+1)).2=true ->rz x n=(iK gT (pq x) (n+1)).1 /\ 0<rz x n):=by
  have hm:=(cK he).2.2.2.2.1
  intro n
  induction n with
  | zero=>
    intro _
    have e:iK gT (pq x) 1=(0,false):=by
      show (if ((!false||_)&&pq x 0)=true then _ else _)=_
      rw [ahg he,Bool.and_false];rfl
    rw [show (0:Nat)+1=1 from rfl,e]
    exact ⟨fun _=>rfl,fun h=>(by cases h)⟩
  | succ n ih=>
    intro hn
    obtain ⟨ih1,ih2⟩:=ih (by omega)
    have hin:iV x.m (n+1):=hn
    have hbi:iV x.m (iK gT (pq x) (n+1)).1:=ou (by omega)
    have eg:pq x (n+1)= !dS (iU x) (iR (dU x) (n+1)):=rfl
    have key:(JY x (n+1) (rz x n) /\ dS (iU x) (iR (dU x) (n+1))=false)↔((!(iK gT (pq x) (n+1)).2||gT (iK gT (pq x) (n+1)).1 (n+1))&&pq x (n+1))=true:=by
      rw [Bool.and_eq_true,eg,Bool.not_eq_true',and_congr_left_iff]
      intro _
      cases e:(iK gT (pq x) (n+1)).2 with
      | false=>
        rw [ih1 e]
        simp only [Bool.not_false,Bool.true_or,iff_true]
        exact Or.inl (Or.inl (by rw [BU];rfl))
      | true=>
        obtain ⟨e1,e2⟩:=ih2 e
        rw [Bool.not_true,Bool.false_or,<- e1]
        have hbi2:iV x.m (rz x n):=by rw [e1];exact hbi
        unfold JY gT
        rw [lX he hin,lX he hbi2,Bool.or_eq_true,Bool.and_eq_true,decide_eq_true_eq,decide_eq_true_eq]
        have hc0:cnt (rz x n)≠0:=fun g=>by have:=Z5 (Nat.lt_of_lt_of_le hbi2 (j4 hm)) g;omega
        have hfb:cnt (n+1)=cnt (rz x n) ->og (cnt (n+1)) (zL (LW x (n+1))) (cnt (rz x n)) (zL (LW x (rz x n)))=xU (n+1) (rz x n):=fun g=>by
          have:=Mv he hin hbi2 g
          rwa [lX he hin,lX he hbi2] at this
        constructor
        · rintro ((h|h)|⟨h1,h2⟩)
          · omega
          · exact Or.inl (by omega)
          · exact Or.inr ⟨by omega,by rw [<- hfb (by omega)];exact h2⟩
        · rintro (h|⟨h1,h2⟩)
          · exact Or.inl (Or.inr (by omega))
          · exact Or.inr ⟨by omega,by rw [hfb (by omega)];exact h2⟩
    have eb:iK gT (pq x) (n+1+1)=if ((!(iK gT (pq x) (n+1)).2||gT (iK gT (pq x) (n+1)).1 (n+1))&&pq x (n+1))=true then (n+1,true) else iK gT (pq x) (n+1):=rfl
    rw [eb]
    by_cases hk:((!(iK gT (pq x) (n+1)).2||gT (iK gT (pq x) (n+1)).1 (n+1))&&pq x (n+1))=true
    · rw [if_pos hk,aae (key.2 hk)]
      exact ⟨fun h=>(by cases h),fun _=>⟨rfl,Nat.succ_pos n⟩⟩
    · rw [if_neg hk,aac fun g=>hk (key.1 g)]
      exact ⟨ih1,ih2⟩
theorem Tv {x:bF} (he:cB x=0):∀n,n<2^x.m ->(iK iY (vW x) (n+1)).2=true /\ vX x n=(iK iY (vW x) (n+1)).1:=by
  have hm:=(cK he).2.2.2.2.1
  intro n
  induction n with
  | zero=>
    intro _
    have h0:iV x.m 0:=Nat.pow_pos (by decide)
    have e:iK iY (vW x) 1=(0,true):=by
      show (if ((!false||_)&&vW x 0)=true then _ else _)=_
      rw [show vW x 0=true from (mD he h0).2 (Eo x)];rfl
    rw [show (0:Nat)+1=1 from rfl,e]
    exact ⟨rfl,rfl⟩
  | succ n ih=>
    intro hn
    obtain ⟨e,e1⟩:=ih (by omega)
    have hin:iV x.m (n+1):=hn
    have hbi2:iV x.m (vX x n):=by rw [e1];exact ou (by omega)
    have eg:vW x (n+1)=dS (iU x) (n+1):=rfl
    have key:(JF x (n+1) (vX x n) /\ dS (iU x) (n+1)=true)↔((!(iK iY (vW x) (n+1)).2||iY (iK iY (vW x) (n+1)).1 (n+1))&&vW x (n+1))=true:=by
      rw [Bool.and_eq_true,eg,and_congr_left_iff]
      intro _
      rw [e,Bool.not_true,Bool.false_or,<- e1]
      unfold JF iY
      rw [lX he hin,lX he hbi2,Bool.or_eq_true,Bool.and_eq_true,decide_eq_true_eq,decide_eq_true_eq]
      have hfb:cnt (n+1)=cnt (vX x n) ->og (cnt (n+1)) (zL (LW x (n+1))) (cnt (vX x n)) (zL (LW x (vX x n)))=xU (n+1) (vX x n):=fun g=>by
        have:=Mv he hin hbi2 g
        rwa [lX he hin,lX he hbi2] at this
      constructor
      · rintro (h|⟨h1,h2⟩)
        · exact Or.inl (by omega)
        · exact Or.inr ⟨by omega,by rw [<- hfb (by omega)];exact h2⟩
      · rintro (h|⟨h1,h2⟩)
        · exact Or.inl (by omega)
        · exact Or.inr ⟨by omega,by rw [hfb (by omega)];exact h2⟩
    have eb:iK iY (vW x) (n+1+1)=if ((!(iK iY (vW x) (n+1)).2||iY (iK iY (vW x) (n+1)).1 (n+1))&&vW x (n+1))=true then (n+1,true) else iK iY (vW x) (n+1):=rfl
    rw [eb]
    by_cases hk:((!(iK iY (vW x) (n+1)).2||iY (iK iY (vW x) (n+1)).1 (n+1))&&vW x (n+1))=true
    · rw [if_pos hk,ZL (key.2 hk)];exact ⟨rfl,rfl⟩
    · rw [if_neg hk,Zv fun g=>hk (key.1 g)];exact ⟨e,e1⟩
theorem aai {x:bF} (he:cB x=0) {n:Nat} (hn:n<2^x.m):iV x.m (rz x n):=by
  have h:=KL he n hn
  cases e:(iK gT (pq x) (n+1)).2 with
  |false=>rw [h.1 e];exact Nat.pow_pos (by decide)
  |true=>rw [(h.2 e).1];exact ou (by omega)
theorem agj {x:bF} (he:cB x=0) {n:Nat} (hn:n<2^x.m):iV x.m (vX x n):=by
  rw [(Tv he n hn).2];exact ou (by omega)
theorem XG {x:bF} (he:cB x=0) {n:Nat} (hn:n+1=2^x.m) (h:((LW x (rz x n)).length:Int)=0):(kM x).length=0 /\ 4=xX x:=by
  have hb:=KL he n (by omega)
  have hm:=(cK he).2.2.2.2.1
  have hin:=aai he (n:=n) (by omega)
  rw [hn] at hb
  have e:(Jq x).2=false:=by
    cases e:(Jq x).2 with
    |false=>rfl
    | true=>
      have:=(hb.2 e).2
      have h2:=Z5 (Nat.lt_of_lt_of_le hin (j4 hm)) (by rw [<- lX he hin];omega)
      omega
  unfold kM xX
  rw [if_pos he,if_pos he,if_neg (by rw [e];decide),if_neg (by rw [e];decide)]
  exact ⟨rfl,rfl⟩
theorem Xe {x:bF} (he:cB x=0) {n:Nat} (hn:n+1=2^x.m) (h:((LW x (rz x n)).length:Int)≠0):LW x (rz x n)=kM x /\ 0=xX x:=by
  have hb:=KL he n (by omega)
  have hin:=aai he (n:=n) (by omega)
  rw [hn] at hb
  have e:(Jq x).2=true:=by
    cases e:(Jq x).2 with
    |true=>rfl
    |false=>rw [hb.1 e,BU] at h;exact absurd rfl h
  unfold kM xX
  rw [if_pos he,if_pos he,if_pos e,if_pos e,<- Yu he hin,(hb.2 e).1]
  exact ⟨rfl,rfl⟩
theorem acj {x:bF} (he:cB x=0) {n:Nat} (hn:n+1=2^x.m):LW x (vX x n)=qw x:=by
  have hb:=Tv he n (by omega)
  have hin:=agj he (n:=n) (by omega)
  rw [hn] at hb
  unfold qw
  rw [if_pos he,<- Yu he hin,hb.2];rfl
theorem agC {x:bF} (he:cB x≠0):(kM x).length=0 /\ cB x=xX x:=by unfold kM xX;rw [if_neg he,if_neg he];exact ⟨rfl,rfl⟩
def RS (S:Nat ->aK) (m i k:Nat):Bool:=decide (k≠i)&& !(eY S m k).testBit i
theorem aiV (x:bF) (i:Nat):jE x.S (RS x.S x.m i) x.m=LW x (nk (dU x) x.m i x.m):=Ar x.m fun k hk=>by
  rw [Bool.eq_iff_iff,Nw x.m (Nat.le_refl _)]
  unfold RS
  rw [Bool.and_eq_true,decide_eq_true_eq]
  constructor
  · rintro ⟨h1,h2⟩;exact ⟨hk,h1,fun g=>by rw [show (eY x.S x.m k).testBit i=true from g.2] at h2;cases h2⟩
  · rintro ⟨_,h1,h2⟩
    refine ⟨h1,?_⟩
    cases e:(eY x.S x.m k).testBit i with
    |false=>rfl
    |true=>exact (h2 ⟨hk,e⟩).elim
theorem ajd {S:Nat ->aK} {m i i0:Nat} (hv:vsB S m=true) (hi:i<m) (h0:i0<m) (h:(S i).nu≠(S i0).nu /\ (eY S m i).testBit i0=false):RS S m i0 i=true:=by
  unfold RS;rw [h.2,decide_eq_true (show i≠i0 from fun g=>h.1 (by rw [g]))];rfl
theorem aiG {S:Nat ->aK} {m i i0:Nat} (hv:vsB S m=true) (hi:i<m) (h0:i0<m) (h:(S i).nu=(S i0).nu \/ (eY S m i).testBit i0=true):RS S m i0 i=false:=by
  unfold RS
  rcases h with h|h
  · rw [decide_eq_false (show ¬i≠i0 from fun g=>g (JH hv hi h0 h))];rfl
  · rw [h];simp
theorem KY:∀k,k<11 ->IntKind.i64.wrap (1*2^min k 64)=((2^k:Nat):Int):=by decide+kernel
theorem aag (b i:Nat):(b / 2^i % 2=1)=(b.testBit i=true):=by rw [Nat.testBit_eq_decide_div_mod_eq,decide_eq_true_eq]
theorem ajt {b i:Nat} (h:(((b / 2^i % 2:Nat):Int))=1):b.testBit i=true:=by rw [<- aag];omega
theorem aip {b i:Nat} (h:(((b / 2^i % 2:Nat):Int))≠1):b.testBit i=false:=by
  cases e:b.testBit i with
  |false=>rfl
  |true=>rw [<- aag] at e;omega
theorem aiU (b i:Nat) (hi:i<=64):(((b:Int).fdiv (2^(min i 64))).tmod 2)=((b / 2^i % 2:Nat):Int):=by
  rw [Nat.min_eq_left hi]
  have e:(2:Int)^i=((2^i:Nat):Int):=by simp
  rw [e,Int.fdiv_eq_ediv_of_nonneg _ (Int.natCast_nonneg _),<- Int.natCast_ediv]
  exact Int.ofNat_tmod _ _
theorem aa0 (S:Nat ->aK) (m:Nat) (hm:m<=10) (b:Nat) (hb:b<1024) (y:Int) (hy:y=(b:Int)):au Tryz.prog 54 [.one (.lst 2 m (fA S)),.one (.g (.int .i64 y))] (.t (.one (.lst 1 (jE S b.testBit m).length (bG (zL (jE S b.testBit m)))))):=by
  subst hy
  have mk0:True:=trivial
  have hcv:True:=trivial
  refine ah Tryz.func54 rfl (by rw [Tryz.ntmps54];simp) ?_
  simp only [Tryz.ntmps54,zM,PT.tv,ak,Nat.zero_add,Nat.reduceAdd]
  repeat' (first
 |((with_reducible show AW _ _ _ _);first
 |(with_reducible first|refine aS (fun K hK=> ?_)|refine aI ?_|refine aX ?_|refine aT ?_|refine aC ?_|refine aB ?_)
 |(first
 |(with_reducible first|refine aP 0 [0,1] ?_|refine aP 1 [0,1] ?_|refine aP 2 [0,1,5] ?_|refine aP 3 [0,1,5,6] ?_|refine aP 4 [0,1,5,6] ?_|refine aP 5 [0,1,5,6] ?_|refine aP 6 [0,1,5,6] ?_|refine aP 7 [5] ?_))
 |((with_reducible show AW _ (Code.loop _) _ _);first
 |((with_reducible refine aL (c:=(Code.seq (Code.seq (Code.region 3 _ _) _) _)) (ι:=Nat) [0,1] (fun i=>[(5,.t (.one (.slc 0 0 (jE S b.testBit i).length 1))),(6,iA .i64 (i:Int))]) (fun i=>[(0,dL (jE S b.testBit i))]) (fun i=>i<=m) (fun i=>m - i) 0 ?lg3 ?l13 ?l23 ?li3 ?lr3);(case' lg3=>rintro i _);(case' li3=>try (omega));(case' lr3=>rintro i hi KR hR3;simp only [bf,bN,hset,lk,if_true,if_false,xE,reduceIte,zN,bJ,bI,hcv,lN,maxLen,aZ,bH,aW]))))
 |(((with_reducible refine And.intro ?_ ?_));focus (omega))
 |(with_reducible refine aA ?_)
 |((with_reducible show aY _ _ _ _ _ _);first
 |((with_reducible refine aH ?_ ?_)<;>(intro hc;(try simp only [zB,zC,reduceCtorEq] at hc);((try (exfalso;omega));(try (clear mk0 hcv;have him:i<m:=(by omega);have hcv:=aiU b i (by omega);have hnl:=wD S b.testBit i)));(try (exfalso;contradiction)))))
 |((with_reducible refine hR3 _ (i+1) ?_);(try clear hR3 KR))
 |((with_reducible refine Told.mk ?_);simp only [go_sem,reduceIte,reduceCtorEq,xA,xL,xD,xE,xM,xS,xB,bJ,bI,bG,hcv,lN,maxLen,aZ,bH,aW]<;>((((try simp (disch:=omega) only [aJ,Int.natCast_add,Int.cast_ofNat_Int,and_true,true_and,and_self]);(repeat' (first|omega|rfl|(with_reducible refine And.intro ?_ ?_)|((rw [Dh (ajt (by assumption))];first|exact bO rfl (bU _)|(simp;done)))|((rw [oD (aip (by assumption))];exact bO rfl (bU _)))|((rw [oD (aip (by assumption))]))));done))))
 |((fail_if_success (with_reducible show AW _ _ _ _));simp (maxSteps:=2000000) only [go_sem,reduceIte,reduceCtorEq,xA,xL,xD,xE,xM,xS,xB,Tryz.f54,bJ,bI,bG,hcv,lN,maxLen,aZ,bH,aW])
 |((with_reducible refine hK _ ?_);clear hK K)
 |(with_reducible apply_assumption -exfalso only [*]))
  all_goals ((have e0:i=m:=(by omega);subst e0;exact ⟨fun c hc9=>(by have:=bU _ c hc9;cases c<;>trivial),rfl,fun i o hi ho=>p9 _ i o hi ho⟩))
theorem ES (x:bF) (hx:x.Ok) (he:cB x=0) (s:Nat) (hin:iV x.m s):au Tryz.prog 43 [.one (.lst 9 x.n (bq x.f)),.one (.lst 2 x.m (fA x.S)),.one (.lst 1 x.mo (iJ x.O)),.one (.lst 1 (LW x s).length (bG (zL (LW x s))))] (.t (.one (.g (.bool (dS (iU x) s))))):=by
  have h:=QH x hx he (LW x s).length (zL (LW x s)) (by have:=Cn x s;have:=(cK he).2.2.2.2.1;omega) (Dw he s)
  rwa [zw he hin] at h
theorem abY (x:bF) (hx:x.Ok) (he:cB x=0) (s:Nat) (hin:iV x.m s):au Tryz.prog 55 [.one (.lst 2 x.m (fA x.S)),.one (.lst 1 (LW x s).length (bG (zL (LW x s))))] (.t (.one (.lst 1 (LW x (iR (dU x) s)).length (bG (zL (LW x (iR (dU x) s))))))):=by
  have h:=adS x.S x.m (cK he).1 (cK he).2.2.2.2.1 hx.q (LW x s).length (zL (LW x s)) (by have:=Cn x s;have:=(cK he).2.2.2.2.1;omega) (Dw he s)
  rwa [afY he (Dw he s),zw he hin] at h
theorem KG (x:bF) (hx:x.Ok) (he:cB x=0) (b:Nat) (hb:iV x.m b) (y:Int) (hy:y=(b:Int)):au Tryz.prog 54 [.one (.lst 2 x.m (fA x.S)),.one (.g (.int .i64 y))] (.t (.one (.lst 1 (LW x b).length (bG (zL (LW x b)))))):=aa0 x.S x.m (cK he).2.2.2.2.1 b (Nat.lt_of_lt_of_le hb (j4 (cK he).2.2.2.2.1)) y hy
theorem aaH (x:bF) (hx:x.Ok) (he:cB x≠0):au Tryz.prog 22 [.one (.lst 9 x.n (bq x.f)),.one (.lst 2 x.m (fA x.S)),.one (.lst 1 x.mo (iJ x.O))] (.tup [.one (.lst 1 (kM x).length (bG (zL (kM x)))),.one (.g (.int .i64 (xX x)))]):=by
  refine ah Tryz.func22 rfl (by rw [Tryz.ntmps22];simp) ?_
  simp only [Tryz.ntmps22,zM,PT.tv,ak,Nat.zero_add,Nat.reduceAdd]
  repeat' (first
 |((with_reducible show AW _ _ _ _);first
 |(with_reducible first|refine aS (fun K hK=> ?_)|refine aT ?_|refine aC ?_)
 |(first
 |(with_reducible first|refine aP 0 [0,1,2] ?_|refine aP 1 [0,1,2] ?_|refine aP 2 [0,1,2,8] ?_|refine aP 3 [8] ?_)))
 |((first|(with_reducible refine And.intro ?_ ?_)|(with_reducible refine Need.mk ?_));focus (exact True.intro))
 |(with_reducible refine aA ?_)
 |((with_reducible show aY _ _ _ _ _ _);first
 |((with_reducible refine aH ?_ ?_)<;>(intro hc;(try simp only [zB,zC,reduceCtorEq] at hc);((try (exfalso;omega)));(try (exfalso;contradiction)))))
 |((with_reducible show aN _ _ _ _ _ _ _ _ _ _);first
 |(refine aj (k:=38) jC (kR x hx) ?_ ?_))
 |((fail_if_success (with_reducible show AW _ _ _ _));simp (maxSteps:=2000000) only [go_sem,reduceIte,reduceCtorEq,xA,xL,xD,xE,xM,xS,xB,Tryz.f22])
 |((with_reducible refine hK _ ?_);clear hK K))
  all_goals ((have e:=agC he;exact e))
theorem aeA (x:bF) (hx:x.Ok) (he:cB x=0):au Tryz.prog 22 [.one (.lst 9 x.n (bq x.f)),.one (.lst 2 x.m (fA x.S)),.one (.lst 1 x.mo (iJ x.O))] (.tup [.one (.lst 1 (kM x).length (bG (zL (kM x)))),.one (.g (.int .i64 (xX x)))]):=by
  have hm10:=(cK he).2.2.2.2.1
  have h2p:0<2^x.m:=Nat.pow_pos (by decide)
  have h2q:2^x.m<=1024:=j4 hm10
  have hsl:=KY x.m (by omega)
  have mk0:True:=trivial
  refine ah Tryz.func22 rfl (by rw [Tryz.ntmps22];simp) ?_
  simp only [Tryz.ntmps22,zM,PT.tv,ak,Nat.zero_add,Nat.reduceAdd]
  repeat' (first
 |((with_reducible show AW _ _ _ _);first
 |(with_reducible first|refine aS (fun K hK=> ?_)|refine aI ?_|refine aX ?_|refine aT ?_|refine aC ?_|refine aB ?_)
 |(first
 |(with_reducible first|refine aP 0 [0,1,2] ?_|refine aP 1 [0,1,2] ?_|refine aP 2 [0,1,2,8] ?_|refine aP 4 [0,1,2] ?_|refine aP 5 [0,1,2,9] ?_|refine aP 6 [0,1,2,9,10] ?_|refine aP 7 [0,1,2,9,10] ?_|refine aP 8 [0,1,2,9,10] ?_|refine aP 9 [0,1,2,9,10,11] ?_|refine aP 10 [0,1,2,9,10,11,12] ?_|refine aP 11 [0,1,2,10,11] ?_|refine aP 12 [9] ?_|refine aP 13 [] ?_|refine aP 14 [9] ?_))
 |((with_reducible show AW _ (Code.loop _) _ _);first
 |((with_reducible refine aL (c:=(Code.seq (Code.seq (Code.region 6 _ _) _) _)) (ι:=Nat) [0,1,2] (fun n=>[(9,.t (.one (.iv (.lst 1 (LW x (rz x n)).length (bG (zL (LW x (rz x n)))))))),(10,iA .i64 ((n:Int)+1))]) (fun n=>[]) (fun n=>n+1<=2^x.m) (fun n=>2^x.m - n) 0 ?lg6 ?l16 ?l26 ?li6 ?lr6);(case' lg6=>rintro n _);(case' li6=>try (exact h2p));(case' lr6=>rintro n hn KR hR6;simp only [bf,bN,hset,lk,if_true,if_false,xE,reduceIte,zN,bJ,bI,dD,he,hsl,BU]))))
 |((first|(with_reducible refine And.intro ?_ ?_)|(with_reducible refine Need.mk ?_));focus (first|exact True.intro|omega|(intro _;(with_reducible assumption))|(simp;done)|(simp+contextual;done)))
 |(with_reducible refine aA ?_)
 |((with_reducible show aY _ _ _ _ _ _);first
 |((with_reducible refine aH ?_ ?_)<;>(intro hc;(try simp only [zB,zC,reduceCtorEq] at hc);((try (exfalso;omega));(try (clear mk0;have hin:iV x.m (n+1):=(show n+1<2^x.m by omega);have hlu:=Cn x (n+1);have hlb:=Cn x (rz x n))));(try (exfalso;contradiction)))))
 |((with_reducible show aN _ _ _ _ _ _ _ _ _ _);first
 |(refine aj (k:=38) jC (kR x hx) ?_ ?_)
 |(refine aj (k:=54) yL (KG x hx he (n+1) hin ((n:Int)+1) (by omega)) ?_ ?_))
 |((with_reducible show bK _ _ _ _ _ _ _ _ _ _);first
 |(refine aQ (k:=31) D6 (fun hg=>aay (LW x (n+1)).length (zL (LW x (n+1))) (LW x (rz x n)).length (zL (LW x (rz x n))) (by omega) (by omega)) ?_ ?_)
 |(refine aQ (k:=43) rA (fun hg=>ES x hx he (iR (dU x) (n+1)) (Br he hin)) ?_ ?_)
 |(refine aQ (k:=55) MJ (fun hg=>abY x hx he (n+1) hin) ?_ ?_))
 |((with_reducible refine hR6 _ (n+1) ?_);(try clear hR6 KR))
 |((with_reducible refine Told.mk ?_);simp only [go_sem,reduceIte,reduceCtorEq,xA,xL,xD,xE,xM,xS,xB,bJ,bI,dD,he,hsl,BU]<;>((((try simp (disch:=omega) only [aJ,Int.natCast_add,Int.cast_ofNat_Int,and_true,true_and,and_self]);(repeat' (first|omega|(with_reducible refine And.intro ?_ ?_)|((rw [show rz x 0=0 from rfl,BU];rfl))|((rw [aae hc];exact Or.inl rfl))|((rw [adC hc];exact Or.inl rfl))));done))))
 |((fail_if_success (with_reducible show AW _ _ _ _));simp (maxSteps:=2000000) only [go_sem,reduceIte,reduceCtorEq,xA,xL,xD,xE,xM,xS,xB,Tryz.f22,bJ,bI,dD,he,hsl,BU])
 |((with_reducible refine hK _ ?_);clear hK K)
 |(with_reducible apply_assumption -exfalso only [*]))
  all_goals (first|(have e:=XG he (by omega) hc;exact e)|(have e:=Xe he (by omega) hc;rw [e.1,<- e.2];exact ⟨⟨rfl,fun i o _ _=>IV.aG _⟩,rfl⟩))
theorem aeE (x:bF) (hx:x.Ok):au Tryz.prog 22 [.one (.lst 9 x.n (bq x.f)),.one (.lst 2 x.m (fA x.S)),.one (.lst 1 x.mo (iJ x.O))] (.tup [.one (.lst 1 (kM x).length (bG (zL (kM x)))),.one (.g (.int .i64 (xX x)))]):=by
  by_cases he:cB x=0
  · exact aeA x hx he
  · exact aaH x hx he
theorem acB (x:bF) (hx:x.Ok) (he:cB x≠0):au Tryz.prog 25 [.one (.lst 9 x.n (bq x.f)),.one (.lst 2 x.m (fA x.S)),.one (.lst 1 x.mo (iJ x.O))] (.tup [.one (.lst 1 (qw x).length (bG (zL (qw x)))),.one (.g (.int .i64 (cB x)))]):=by
  refine ah Tryz.func25 rfl (by rw [Tryz.ntmps25];simp) ?_
  simp only [Tryz.ntmps25,zM,PT.tv,ak,Nat.zero_add,Nat.reduceAdd]
  repeat' (first
 |((with_reducible show AW _ _ _ _);first
 |(with_reducible first|refine aS (fun K hK=> ?_)|refine aT ?_|refine aC ?_)
 |(first
 |(with_reducible first|refine aP 0 [0,1,2] ?_|refine aP 1 [0,1,2] ?_|refine aP 2 [0,1,2,8] ?_|refine aP 3 [8] ?_)))
 |(((with_reducible refine Need.mk ?_));focus (exact True.intro))
 |(with_reducible refine aA ?_)
 |((with_reducible show aY _ _ _ _ _ _);first
 |((with_reducible refine aH ?_ ?_)<;>(intro hc;(try simp only [zB,zC,reduceCtorEq] at hc);((try (exfalso;omega)));(try (exfalso;contradiction)))))
 |((with_reducible show aN _ _ _ _ _ _ _ _ _ _);first
 |(refine aj (k:=38) jC (kR x hx) ?_ ?_))
 |((fail_if_success (with_reducible show AW _ _ _ _));simp (maxSteps:=2000000) only [go_sem,reduceIte,reduceCtorEq,xA,xL,xD,xE,xM,xS,xB,Tryz.f25])
 |((with_reducible refine hK _ ?_);clear hK K))
  all_goals ((have e:=afw he;exact e.2))
theorem adv (x:bF) (hx:x.Ok) (he:cB x=0):au Tryz.prog 25 [.one (.lst 9 x.n (bq x.f)),.one (.lst 2 x.m (fA x.S)),.one (.lst 1 x.mo (iJ x.O))] (.tup [.one (.lst 1 (qw x).length (bG (zL (qw x)))),.one (.g (.int .i64 (cB x)))]):=by
  have hm10:=(cK he).2.2.2.2.1
  have h2p:0<2^x.m:=Nat.pow_pos (by decide)
  have h2q:2^x.m<=1024:=j4 hm10
  have hsl:=KY x.m (by omega)
  have mk0:True:=trivial
  refine ah Tryz.func25 rfl (by rw [Tryz.ntmps25];simp) ?_
  simp only [Tryz.ntmps25,zM,PT.tv,ak,Nat.zero_add,Nat.reduceAdd]
  repeat' (first
 |((with_reducible show AW _ _ _ _);first
 |(with_reducible first|refine aS (fun K hK=> ?_)|refine aI ?_|refine aX ?_|refine aT ?_|refine aC ?_|refine aB ?_)
 |(first
 |(with_reducible first|refine aP 0 [0,1,2] ?_|refine aP 1 [0,1,2] ?_|refine aP 2 [0,1,2,8] ?_|refine aP 4 [0,1,2] ?_|refine aP 5 [0,1,2,9] ?_|refine aP 6 [0,1,2,9,10] ?_|refine aP 7 [0,1,2,9,10] ?_|refine aP 8 [0,1,2,9,10] ?_|refine aP 9 [0,1,2,9,10,11] ?_|refine aP 10 [0,1,2,9,10,11,12] ?_|refine aP 11 [0,1,2,10,11] ?_|refine aP 12 [9] ?_))
 |((with_reducible show AW _ (Code.loop _) _ _);first
 |((with_reducible refine aL (c:=(Code.seq (Code.seq (Code.region 6 _ _) _) _)) (ι:=Nat) [0,1,2] (fun n=>[(9,.t (.one (.iv (.lst 1 (LW x (vX x n)).length (bG (zL (LW x (vX x n)))))))),(10,iA .i64 ((n:Int)+1))]) (fun n=>[]) (fun n=>n+1<=2^x.m) (fun n=>2^x.m - n) 0 ?lg6 ?l16 ?l26 ?li6 ?lr6);(case' lg6=>rintro n _);(case' li6=>try (exact h2p));(case' lr6=>rintro n hn KR hR6;simp only [bf,bN,hset,lk,if_true,if_false,xE,reduceIte,zN,bJ,bI,dD,he,hsl,BU]))))
 |((first|(with_reducible refine And.intro ?_ ?_)|(with_reducible refine Need.mk ?_));focus (first|exact True.intro|omega|(intro _;(with_reducible assumption))|(simp;done)|(simp;omega)))
 |(with_reducible refine aA ?_)
 |((with_reducible show aY _ _ _ _ _ _);first
 |((with_reducible refine aH ?_ ?_)<;>(intro hc;(try simp only [zB,zC,reduceCtorEq] at hc);((try (exfalso;omega));(try (clear mk0;have hin:iV x.m (n+1):=(show n+1<2^x.m by omega);have hlu:=Cn x (n+1);have hlb:=Cn x (vX x n))));(try (exfalso;contradiction)))))
 |((with_reducible show aN _ _ _ _ _ _ _ _ _ _);first
 |(refine aj (k:=38) jC (kR x hx) ?_ ?_)
 |(refine aj (k:=54) yL (KG x hx he (n+1) hin ((n:Int)+1) (by omega)) ?_ ?_))
 |((with_reducible show bK _ _ _ _ _ _ _ _ _ _);first
 |(refine aQ (k:=31) D6 (fun hg=>aay (LW x (n+1)).length (zL (LW x (n+1))) (LW x (vX x n)).length (zL (LW x (vX x n))) (by omega) (by omega)) ?_ ?_)
 |(refine aQ (k:=43) rA (fun hg=>ES x hx he (n+1) hin) ?_ ?_))
 |((with_reducible refine hR6 _ (n+1) ?_);(try clear hR6 KR))
 |((with_reducible refine Told.mk ?_);simp only [go_sem,reduceIte,reduceCtorEq,xA,xL,xD,xE,xM,xS,xB,bJ,bI,dD,he,hsl,BU]<;>((((try simp (disch:=omega) only [aJ,Int.natCast_add,Int.cast_ofNat_Int,and_true,true_and,and_self]);(repeat' (first|omega|(with_reducible refine And.intro ?_ ?_)|((rw [show vX x 0=0 from rfl,BU];rfl))|((rw [ZL hc];exact Or.inl rfl))|((rw [aa2 hc];exact Or.inl rfl))));done))))
 |((fail_if_success (with_reducible show AW _ _ _ _));simp (maxSteps:=2000000) only [go_sem,reduceIte,reduceCtorEq,xA,xL,xD,xE,xM,xS,xB,Tryz.f25,bJ,bI,dD,he,hsl,BU])
 |((with_reducible refine hK _ ?_);clear hK K)
 |(with_reducible apply_assumption -exfalso only [*]))
  all_goals ((rw [acj he (by omega)];exact ⟨rfl,fun i o _ _=>IV.aG _⟩))
theorem aaZ (x:bF) (hx:x.Ok):au Tryz.prog 25 [.one (.lst 9 x.n (bq x.f)),.one (.lst 2 x.m (fA x.S)),.one (.lst 1 x.mo (iJ x.O))] (.tup [.one (.lst 1 (qw x).length (bG (zL (qw x)))),.one (.g (.int .i64 (cB x)))]):=by
  by_cases he:cB x=0
  · exact adv x hx he
  · exact acB x hx he
theorem abu (S:Nat ->aK) (m:Nat) (hv:vsB S m=true) (hm:m<=10) (hq:∀i,i<m ->(S i).q<=9223372036854775807) (i0:Nat) (hi0:i0<m):au Tryz.prog 59 [.one (.lst 2 m (fA S)),.one (.g (.int .i64 (S i0).nu))] (.t (.one (.lst 1 (jE S (RS S m i0) m).length (bG (zL (jE S (RS S m i0) m)))))):=by
  have mk0:True:=trivial
  have mk1:True:=trivial
  have mk2:True:=trivial
  have hbh:True:=trivial
  refine ah Tryz.func59 rfl (by rw [Tryz.ntmps59];simp) ?_
  simp only [Tryz.ntmps59,zM,PT.tv,ak,Nat.zero_add,Nat.reduceAdd]
  repeat' (first
 |((with_reducible show AW _ _ _ _);first
 |(with_reducible first|refine aS (fun K hK=> ?_)|refine aI ?_|refine aX ?_|refine aT ?_|refine aC ?_|refine aB ?_)
 |(first
 |(with_reducible first|refine aP 0 [0,1] ?_|refine aP 1 [0,1] ?_|refine aP 2 [0,1,5] ?_|refine aP 3 [0,1,5,6] ?_|refine aP 4 [0,1,5,6] ?_|refine aP 5 [0,1,5,6] ?_|refine aP 6 [0,1,5,6,7] ?_|refine aP 7 [0,1,5,6] ?_|refine aP 8 [5] ?_))
 |((with_reducible show AW _ (Code.loop _) _ _);first
 |((with_reducible refine aL (c:=(Code.seq (Code.seq (Code.region 3 _ _) _) _)) (ι:=Nat) [0,1] (fun i=>[(5,.t (.one (.slc 0 0 (jE S (RS S m i0) i).length 1))),(6,iA .i64 (i:Int))]) (fun i=>[(0,dL (jE S (RS S m i0) i))]) (fun i=>i<=m) (fun i=>m - i) 0 ?lg3 ?l13 ?l23 ?li3 ?lr3);(case' lg3=>rintro i _);(case' li3=>try (omega));(case' lr3=>rintro i hi KR hR3;simp only [bf,bN,hset,lk,if_true,if_false,xE,reduceIte,zN,bJ,bI,hbh,lN,maxLen,aZ,bH,aW]))))
 |((first|(with_reducible refine And.intro ?_ ?_)|(with_reducible refine Need.mk ?_));focus (first|exact True.intro|omega|(intro _;(with_reducible assumption))))
 |(with_reducible refine aA ?_)
 |((with_reducible show aY _ _ _ _ _ _);first
 |((with_reducible refine aH ?_ ?_)<;>(intro hc;(try simp only [zB,zC,reduceCtorEq] at hc);((try (exfalso;omega));(try (clear mk0 hbh;have him:i<m:=(by omega);have hnl:=wD S (RS S m i0) i;have hbl:=Dz S m i;have hbh:=Ez hv hm him hi0));(try (clear mk1;have hwt:=ajd hv him hi0 hc));(try (clear mk2;have hwf:=aiG hv him hi0 hc)));(try (exfalso;contradiction)))))
 |((with_reducible show aN _ _ _ _ _ _ _ _ _ _);first
 |(refine aj (k:=71) za (KD S m hv hm hq i him) ?_ ?_))
 |((with_reducible show bK _ _ _ _ _ _ _ _ _ _);first
 |(refine aQ (k:=28) kJ (fun hg=>qh (nU S m i).length (zL (nU S m i)) (S i0).nu (by omega)) ?_ ?_))
 |((with_reducible refine hR3 _ (i+1) ?_);(try clear hR3 KR))
 |((with_reducible refine Told.mk ?_);simp only [go_sem,reduceIte,reduceCtorEq,xA,xL,xD,xE,xM,xS,xB,bJ,bI,bG,hbh,lN,maxLen,aZ,bH,aW]<;>((((try simp (disch:=omega) only [aJ,Int.natCast_add,Int.cast_ofNat_Int,and_true,true_and,and_self]);(repeat' (first|omega|rfl|(with_reducible refine And.intro ?_ ?_)|((rw [Dh hwt];first|exact bO rfl (bU _)|(simp;done)))|((rw [oD hwf];exact bO rfl (bU _)))|((rw [oD hwf]))));done))))
 |((fail_if_success (with_reducible show AW _ _ _ _));simp (maxSteps:=2000000) only [go_sem,reduceIte,reduceCtorEq,xA,xL,xD,xE,xM,xS,xB,Tryz.f59,bJ,bI,bG,hbh,lN,maxLen,aZ,bH,aW])
 |((with_reducible refine hK _ ?_);clear hK K)
 |(with_reducible apply_assumption -exfalso only [*]))
  all_goals ((have e0:i=m:=(by omega);subst e0;exact ⟨fun c hc9=>(by have:=bU _ c hc9;cases c<;>trivial),rfl,fun i o hi ho=>p9 _ i o hi ho⟩))
theorem adM (x:bF) (hx:x.Ok) (he:cB x=0) (i:Nat) (hi:i<x.m):au Tryz.prog 59 [.one (.lst 2 x.m (fA x.S)),.one (.g (.int .i64 (x.S i).nu))] (.t (.one (.lst 1 (LW x (nk (dU x) x.m i x.m)).length (bG (zL (LW x (nk (dU x) x.m i x.m))))))):=by
  have h:=abu x.S x.m (cK he).1 (cK he).2.2.2.2.1 hx.q i hi
  rwa [aiV] at h
theorem acy (x:bF) (hx:x.Ok) (he:cB x≠0):au Tryz.prog 27 [.one (.lst 9 x.n (bq x.f)),.one (.lst 2 x.m (fA x.S)),.one (.lst 1 x.mo (iJ x.O))] (.tup [.one (.lst 1 (oJ x).length (bG (zL (oJ x)))),.one (.g (.int .i64 (Kw x)))]):=by
  refine ah Tryz.func27 rfl (by rw [Tryz.ntmps27];simp) ?_
  simp only [Tryz.ntmps27,zM,PT.tv,ak,Nat.zero_add,Nat.reduceAdd]
  repeat' (first
 |((with_reducible show AW _ _ _ _);first
 |(with_reducible first|refine aS (fun K hK=> ?_)|refine aT ?_|refine aC ?_)
 |(first
 |(with_reducible first|refine aP 0 [0,1,2] ?_|refine aP 1 [0,1,2] ?_|refine aP 2 [0,1,2,8] ?_|refine aP 3 [8] ?_)))
 |((first|(with_reducible refine And.intro ?_ ?_)|(with_reducible refine Need.mk ?_));focus (exact True.intro))
 |(with_reducible refine aA ?_)
 |((with_reducible show aY _ _ _ _ _ _);first
 |((with_reducible refine aH ?_ ?_)<;>(intro hc;(try simp only [zB,zC,reduceCtorEq] at hc);((try (exfalso;omega)));(try (exfalso;contradiction)))))
 |((with_reducible show aN _ _ _ _ _ _ _ _ _ _);first
 |(refine aj (k:=38) jC (kR x hx) ?_ ?_))
 |((fail_if_success (with_reducible show AW _ _ _ _));simp (maxSteps:=2000000) only [go_sem,reduceIte,reduceCtorEq,xA,xL,xD,xE,xM,xS,xB,Tryz.f27])
 |((with_reducible refine hK _ ?_);clear hK K))
  all_goals ((have e:=agJ he;exact e))
theorem acd (x:bF) (hx:x.Ok) (he:cB x=0):au Tryz.prog 27 [.one (.lst 9 x.n (bq x.f)),.one (.lst 2 x.m (fA x.S)),.one (.lst 1 x.mo (iJ x.O))] (.tup [.one (.lst 1 (oJ x).length (bG (zL (oJ x)))),.one (.g (.int .i64 (Kw x)))]):=by
  have hm10:=(cK he).2.2.2.2.1
  have h2p:0<2^x.m:=Nat.pow_pos (by decide)
  have h2q:2^x.m<=1024:=j4 hm10
  have hsl:=KY x.m (by omega)
  have mk0:True:=trivial
  have mk1:True:=trivial
  refine ah Tryz.func27 rfl (by rw [Tryz.ntmps27];simp) ?_
  simp only [Tryz.ntmps27,zM,PT.tv,ak,Nat.zero_add,Nat.reduceAdd]
  repeat' (first
 |((with_reducible show AW _ _ _ _);first
 |(with_reducible first|refine aS (fun K hK=> ?_)|refine aI ?_|refine aX ?_|refine aT ?_|refine aC ?_|refine aB ?_)
 |(first
 |(with_reducible first|refine aP 0 [0,1,2] ?_|refine aP 1 [0,1,2] ?_|refine aP 2 [0,1,2,8] ?_|refine aP 4 [0,1,2] ?_|refine aP 5 [] ?_|refine aP 6 [0,1,2] ?_|refine aP 7 [0,1,2,9] ?_|refine aP 8 [0,1,2,9,10] ?_|refine aP 9 [0,1,2,9,10] ?_|refine aP 10 [0,1,2,9,10] ?_|refine aP 11 [0,1,2,9,10] ?_|refine aP 12 [9] ?_))
 |((with_reducible show AW _ (Code.loop _) _ _);first
 |((with_reducible refine aL (c:=(Code.seq (Code.seq (Code.region 8 _ _) _) _)) (ι:=Nat) [0,1,2] (fun i=>[(9,.t (.one (.slc 0 0 (MH x i).length 1))),(10,iA .i64 (i:Int))]) (fun i=>[(0,dL (MH x i))]) (fun i=>i<=x.m) (fun i=>x.m - i) 0 ?lg8 ?l18 ?l28 ?li8 ?lr8);(case' lg8=>rintro i _);(case' li8=>try (omega));(case' lr8=>rintro i hi KR hR8;simp only [bf,bN,hset,lk,if_true,if_false,xE,reduceIte,zN,bJ,bI,dD,he,hsl,A9,maxLen,aZ,bH,aW]))))
 |((first|(with_reducible refine And.intro ?_ ?_)|(with_reducible refine Need.mk ?_));focus (first|exact True.intro|omega))
 |(with_reducible refine aA ?_)
 |((with_reducible show aY _ _ _ _ _ _);first
 |((with_reducible refine aH ?_ ?_)<;>(intro hc;(try simp only [zB,zC,reduceCtorEq] at hc);((try (exfalso;omega));(try (clear mk1;have hba:dS (iU x) (2^x.m - 1)=false:=hc));(try (clear mk0;have him:i<x.m:=(by omega);have hbl:=EY x i)));(try (exfalso;contradiction)))))
 |((with_reducible show aN _ _ _ _ _ _ _ _ _ _);first
 |(refine aj (k:=38) jC (kR x hx) ?_ ?_)
 |(refine aj (k:=54) yL (KG x hx he (2^x.m - 1) (all_in x.m) _ (by omega)) ?_ ?_)
 |(refine aj (k:=43) rA (ES x hx he (2^x.m - 1) (all_in x.m)) ?_ ?_)
 |(refine aj (k:=43) rA (ES x hx he (nk (dU x) x.m i x.m) (DZ x.m)) ?_ ?_)
 |(refine aj (k:=59) NU (adM x hx he i him) ?_ ?_))
 |((with_reducible refine hR8 _ (i+1) ?_);(try clear hR8 KR))
 |((with_reducible refine Told.mk ?_);simp only [go_sem,reduceIte,reduceCtorEq,xA,xL,xD,xE,xM,xS,xB,bJ,bI,dD,he,hsl,A9,maxLen,aZ,bH,aW]<;>((((try simp (disch:=omega) only [aJ,Int.natCast_add,Int.cast_ofNat_Int,and_true,true_and,and_self]);(repeat' (first|omega|rfl|(with_reducible refine And.intro ?_ ?_)|((rw [ZT (by assumption)];first|exact bO rfl (bU _)|(simp;done)))|((rw [Nh (by assumption)];exact bO rfl (bU _)))|((rw [Nh (by assumption)]))));done))))
 |((fail_if_success (with_reducible show AW _ _ _ _));simp (maxSteps:=2000000) only [go_sem,reduceIte,reduceCtorEq,xA,xL,xD,xE,xM,xS,xB,Tryz.f27,bJ,bI,dD,he,hsl,A9,maxLen,aZ,bH,aW])
 |((fail_if_success (with_reducible show AW _ _ _ _));simp (disch:=omega) only [aJ,dG,dH])
 |((with_reducible refine hK _ ?_);clear hK K)
 |(with_reducible apply_assumption -exfalso only [*]))
  all_goals (first|(have e:=agx he hc;exact e)|(have e0:i=x.m:=(by omega);subst e0;have e:=agb he hba;rw [e.1,<- e.2];exact ⟨fun c hc9=>(by have:=bU _ c hc9;cases c<;>trivial),⟨rfl,fun i o hi ho=>p9 _ i o hi ho⟩,rfl⟩))
theorem aex (x:bF) (hx:x.Ok):au Tryz.prog 27 [.one (.lst 9 x.n (bq x.f)),.one (.lst 2 x.m (fA x.S)),.one (.lst 1 x.mo (iJ x.O))] (.tup [.one (.lst 1 (oJ x).length (bG (zL (oJ x)))),.one (.g (.int .i64 (Kw x)))]):=by
  by_cases he:cB x=0
  · exact acd x hx he
  · exact acy x hx he
end Go.Proofs.YtmnejmpjmniiiaaGreatDoor
namespace Go.Proofs.YtmnejmpjmniiiaaGreatDoor
open Go.RowKit Go.Sea
open Nat renaming reduceAdd -> xA, reduceLT -> xL, reduceLeDiff -> xD, reduceEqDiff -> xE, reduceMul -> xM, reduceSub -> xS, reduceBEq -> xB
theorem ado (x:bF):(qw x).length<=10:=by
  by_cases he:cB x=0
  · have h:=(aej he).1
    have hm:=(cK he).2.2.2.2.1
    have:=yH (cK he).1 (uh h).2.1
    omega
  · have:=(afw he).2;omega
end Go.Proofs.YtmnejmpjmniiiaaGreatDoor
namespace Go.Proofs.YtmnejmpjmniiiaaGreatDoor
open Go.RowKit Go.Sea
open Nat renaming reduceAdd -> xA, reduceLT -> xL, reduceLeDiff -> xD, reduceEqDiff -> xE, reduceMul -> xM, reduceSub -> xS, reduceBEq -> xB
theorem adT (x:bF):(oJ x).length<=x.m:=by
  unfold oJ
  split
  · split
    · exact Nat.zero_le _
    · exact EY x x.m
  · exact Nat.zero_le _
end Go.Proofs.YtmnejmpjmniiiaaGreatDoor
namespace Go.Proofs.YtmnejmpjmniiiaaGreatDoor
open Go.RowKit Go.Sea
open Nat renaming reduceAdd -> xA, reduceLT -> xL, reduceLeDiff -> xD, reduceEqDiff -> xE, reduceMul -> xM, reduceSub -> xS, reduceBEq -> xB
theorem Oc:aM Tryz.prog 18=true:=by kernel_rfl
theorem Ng:aM Tryz.prog 22=true:=by kernel_rfl
theorem NK:aM Tryz.prog 25=true:=by kernel_rfl
theorem Mk:aM Tryz.prog 27=true:=by kernel_rfl
attribute [go_sem] Oc Ng NK Mk
theorem adO (n:Nat) (V:Nat ->Nat ->Int):Jw n n V V=true:=decide_eq_true ⟨rfl,fun i _=>⟨rfl,rfl,rfl,rfl⟩⟩
theorem Wv (n:Nat) (f:Nat ->aF):JC n n f f=true:=decide_eq_true ⟨rfl,fun i _=>WM _⟩
theorem YE (n:Nat) (a:Nat ->Int):ze n n a a=true:=decide_eq_true ⟨rfl,fun i _=>rfl⟩
theorem adp {x:bF}:Kl (x0 x)<=100:=by
  by_cases he:cB (x0 x)=0
  · rw [ND he];exact RP x (cK he).2.2.2.2.1
  · have:=QL he;omega
theorem ad1 (x:bF):(kM x).length<=1000:=by have:=acK x;omega
theorem abR (x:bF):(qw x).length<=1000:=by have:=ado x;omega
set_option maxRecDepth 100000 in
set_option maxHeartbeats 4000000 in
theorem acU (x:bF) (hx:x.Ok) (q:Nat) (a:Nat ->Int) (hqq:q<=9223372036854775807):au Tryz.prog 3 [.agg [.lst 9 x.n (bq x.f),.lst 2 x.m (fA x.S),.lst 1 x.mo (iJ x.O)],.one (.lst 1 q (bG a))] (.t (.one (.g (.bool (true))))):=by
  have hxm:=hx.m
  have hRx:=ac5 hx q a
  have hRx1:=hRx.1
  have hpn:=adp (x:=x)
  have hcl:=ad1 x
  have hrl:=abR x
  have hbl:=adT x
  refine ah Tryz.func3 rfl (by rw [Tryz.ntmps3];simp) ?_
  simp only [Tryz.ntmps3,zM,PT.tv,ak,Nat.zero_add,Nat.reduceAdd]
  repeat' (first
 |((with_reducible show AW _ _ _ _);first
 |(with_reducible first|refine aS (fun K hK=> ?_)|refine aI ?_|refine aT ?_|refine aC ?_)
 |(first
 |(with_reducible first|refine aP 0 [0,1] ?_|refine aP 1 [1,2] ?_|refine aP 2 [1,2,5] ?_|refine aP 3 [5] ?_|refine aP 4 [1,2,5] ?_|refine aP 5 [1,2,5,6,7] ?_|refine aP 6 [1,2,5,6,7,8,9] ?_|refine aP 7 [1,2,5] ?_|refine aP 8 [1,2,5,7,10] ?_|refine aP 9 [1,2,5,7,9,10,11] ?_|refine aP 10 [1,2,5] ?_|refine aP 11 [1,2,5,7,12] ?_|refine aP 12 [2,5,7,9,12,13] ?_|refine aP 13 [2,5] ?_|refine aP 14 [5] ?_|refine aP 15 [2,5] ?_|refine aP 16 [2,5,7,14] ?_|refine aP 17 [2,5,7,9,14,15] ?_|refine aP 18 [2,5] ?_|refine aP 19 [2,5,7,14] ?_|refine aP 20 [2,5,7,9,14,15] ?_|refine aP 21 [2,5] ?_|refine aP 22 [2,5,7,14] ?_|refine aP 23 [5,7,9,14,15] ?_)))
 |((first|(with_reducible refine And.intro ?_ ?_)|(with_reducible refine Need.mk ?_));focus (first|exact True.intro|(intro _;exact True.intro)|(simp;done)))
 |(with_reducible refine aA ?_)
 |((with_reducible show aY _ _ _ _ _ _);first
 |((with_reducible refine aH ?_ ?_)<;>(intro hc;(try simp only [zB,zC,reduceCtorEq] at hc);((try (exfalso;omega)));(try (exfalso;contradiction)))))
 |((with_reducible show aN _ _ _ _ _ _ _ _ _ _);first
 |(refine aj (k:=11) Mr (aaU) ?_ ?_)
 |(refine aj (k:=12) Dl (aif x hx) ?_ ?_)
 |(refine aj (k:=13) Dj (Tm x hx) ?_ ?_)
 |(refine aj (k:=15) q9 (aav x hx q a hqq) ?_ ?_)
 |(refine aj (k:=16) Dy (UG x hx q a hqq) ?_ ?_)
 |(refine aj (k:=17) yM (Zm x hx q a hqq) ?_ ?_)
 |(refine aj (k:=18) Oc (ade x hx q a hqq) ?_ ?_)
 |(refine aj (k:=20) MU (afl x hx) ?_ ?_)
 |(refine aj (k:=21) yF (KC x hx) ?_ ?_)
 |(refine aj (k:=22) Ng (aeE x hx) ?_ ?_)
 |(refine aj (k:=24) D7 (aar x hx) ?_ ?_)
 |(refine aj (k:=25) NK (aaZ x hx) ?_ ?_)
 |(refine aj (k:=26) yD (Rw x hx) ?_ ?_)
 |(refine aj (k:=27) Mk (aex x hx) ?_ ?_))
 |((with_reducible show bK _ _ _ _ _ _ _ _ _ _);first
 |(refine aQ (k:=14) DI (fun hg=>Zu (Kl (x0 x)) (Kl (x0 x)) (BL x) (BL x) (by omega) (by omega)) ?_ ?_)
 |(refine aQ (k:=19) yh (fun hg=>OB (GL x q a) (GL x q a) (pW x q a) (pW x q a) (by omega) (by omega) hRx.2 hRx.2) ?_ ?_)
 |(refine aQ (k:=23) kI (fun hg=>vD (kM x).length (kM x).length (zL (kM x)) (zL (kM x)) (by omega) (by omega)) ?_ ?_)
 |(refine aQ (k:=23) kI (fun hg=>vD (qw x).length (qw x).length (zL (qw x)) (zL (qw x)) (by omega) (by omega)) ?_ ?_)
 |(refine aQ (k:=23) kI (fun hg=>vD (oJ x).length (oJ x).length (zL (oJ x)) (zL (oJ x)) (by omega) (by omega)) ?_ ?_))
 |((fail_if_success (with_reducible show AW _ _ _ _));simp (maxSteps:=2000000) only [go_sem,reduceIte,reduceCtorEq,xA,xL,xD,xE,xM,xS,xB,Tryz.f3,bJ,bI,dD,bG,MI,adO,Wv,YE])
 |((with_reducible refine hK _ ?_);clear hK K))
end Go.Proofs.YtmnejmpjmniiiaaGreatDoor
