/- Part 17 of 18: contracts of functions and plain laws for the root text. No condition. -/
import Derived.Test.YtmnejmpjmniiiaaGreatDoorV01
import Derived.Test.YtmnejmpjmniiiaaGreatDoorV02
import Derived.Test.YtmnejmpjmniiiaaGreatDoorV03
import Derived.Test.YtmnejmpjmniiiaaGreatDoorV04
import Derived.Test.YtmnejmpjmniiiaaGreatDoorV05
import Derived.Test.YtmnejmpjmniiiaaGreatDoorV06
import Derived.Test.YtmnejmpjmniiiaaGreatDoorV07
import Derived.Test.YtmnejmpjmniiiaaGreatDoorV08
import Derived.Test.YtmnejmpjmniiiaaGreatDoorV09
import Derived.Test.YtmnejmpjmniiiaaGreatDoorV10
import Derived.Test.YtmnejmpjmniiiaaGreatDoorV11
import Derived.Test.YtmnejmpjmniiiaaGreatDoorV12
import Derived.Test.YtmnejmpjmniiiaaGreatDoorV13
import Derived.Test.YtmnejmpjmniiiaaGreatDoorV14
import Derived.Test.YtmnejmpjmniiiaaGreatDoorV15
import Derived.Test.YtmnejmpjmniiiaaGreatDoorV16
set_option linter.unusedVariables false
set_option linter.unusedSimpArgs false
set_option linter.unusedSectionVars false
set_option linter.deprecated false
set_option maxRecDepth 100000
set_option maxHeartbeats 4000000
namespace Go.Proofs.YtmnejmpjmniiiaaGreatDoor
open Go.RowKit Go.Sea
open Nat renaming reduceAdd -> xA, reduceLT -> xL, reduceLeDiff -> xD, reduceEqDiff -> xE, reduceMul -> xM, reduceSub -> xS, reduceBEq -> xB
theorem abK:BP Tryz.prog 163=none:=by kernel_rfl
theorem ah7:BP Tryz.prog 75=none:=by kernel_rfl
theorem agv:BP Tryz.prog 78=some (2,1):=by kernel_rfl
theorem GV:aM Tryz.prog 107=true:=by kernel_rfl
theorem H6:aM Tryz.prog 133=true:=by kernel_rfl
theorem jC:aM Tryz.prog 38=true:=by kernel_rfl
theorem Ny:aM Tryz.prog 39=true:=by kernel_rfl
theorem MB:aM Tryz.prog 40=true:=by kernel_rfl
theorem za:aM Tryz.prog 71=true:=by kernel_rfl
theorem aeM:fF Tryz.prog 78=true:=by kernel_rfl
theorem afu:uY Tryz.prog 75=some true:=by kernel_rfl
theorem YN:cZ Tryz.prog 78 0=some (0,1):=by kernel_rfl
theorem XV:cZ Tryz.prog 78 1=some (1,1):=by kernel_rfl
theorem aeH:oU Tryz.prog 163=some (1,1,4):=by kernel_rfl
theorem afA:oU Tryz.prog 75=some (2,16,78):=by kernel_rfl
theorem af3:oU Tryz.prog 78=none:=by kernel_rfl
theorem ahl:eX Tryz.prog 78=some [.iv (.g (.int .i64 0)),.iv (.g (.int .i64 0))]:=by kernel_rfl
attribute [go_sem] abK ah7 agv GV H6 jC Ny MB za aeM afu YN XV aeH afA af3 ahl
def ab1 (S:Nat ->aK) (m w v:Nat):Prop:=∃u,u<(S w).q /\ v=eT S m ((S w).a u)
theorem QA {S:Nat ->aK} {m:Nat} (hv:vsB S m=true) (hm:m<=10) {v:Nat}:∀n k,k<n ->k<m ->(eY S m k).testBit v=true ->∃w,(w=k \/ (eY S m k).testBit w=true) /\ ab1 S m w v
  |0,k,h,_,_=>by omega
  | n +1,k,h,hk,hb=>by
    obtain ⟨u,hu,g⟩:=(mq hv hk).1 hb
    rcases g with g|g
    · exact ⟨k,Or.inl rfl,u,hu,g⟩
    · have h1:=FE hv hk hu
      obtain ⟨w,hw,hd⟩:=QA hv hm n _ (by omega) (by omega) g
      have h2:(eY S m k).testBit (eT S m ((S k).a u))=true:=(mq hv hk).2 ⟨u,hu,Or.inl rfl⟩
      refine ⟨w,Or.inr ?_,hd⟩
      rcases hw with rfl|hw
      · exact h2
      · exact Bc hv hm _ k (Nat.lt_succ_self k) hk h2 hw
theorem yR {S:Nat ->aK} {m:Nat} (hv:vsB S m=true) (hm:m<=10) {k v:Nat} (hk:k<m):(∃w,(w=k \/ (eY S m k).testBit w=true) /\ ab1 S m w v)↔(eY S m k).testBit v=true:=by
  refine ⟨fun ⟨w,hw,u,hu,e⟩=> ?_,fun h=>QA hv hm _ k (Nat.lt_succ_self k) hk h⟩
  rcases hw with rfl|hw
  · exact (mq hv hk).2 ⟨u,hu,Or.inl e⟩
  · have hwk:=nK hv hm hk hw
    exact Bc hv hm _ k (Nat.lt_succ_self k) hk hw ((mq hv (by omega)).2 ⟨u,hu,Or.inl e⟩)
def nI (F:Nat ->Bool) (S:Nat ->aK) (m i:Nat):Nat ->Nat ->Bool
  |0,v=>F v
  |u+1,v=>nI F S m i u v||decide (v=eT S m ((S i).a u))
def nO (S:Nat ->aK) (m k:Nat):Nat ->Nat ->Bool
  |0,v=>decide (v=k)
  |c+1,v=>if nO S m k c (k - c)=true then nI (nO S m k c) S m (k - c) (S (k - c)).q v else nO S m k c v
theorem adr {F:Nat ->Bool} {S:Nat ->aK} {m i v:Nat}:∀u,nI F S m i u v=true↔F v=true \/ ∃u',u'<u /\ v=eT S m ((S i).a u')
  |0=>by simp [nI]
  | u + 1=>by
    show (nI F S m i u v||decide _)=true↔_
    rw [Bool.or_eq_true,adr u,decide_eq_true_eq]
    constructor
    · rintro ((h|⟨u',h1,h2⟩)|h)
      · exact Or.inl h
      · exact Or.inr ⟨u',by omega,h2⟩
      · exact Or.inr ⟨u,by omega,h⟩
    · rintro (h|⟨u',h1,h2⟩)
      · exact Or.inl (Or.inl h)
      · rcases (by omega:u'=u \/ u'<u) with rfl|g
        · exact Or.inr h2
        · exact Or.inl (Or.inr ⟨u',g,h2⟩)
theorem ajz {F:Nat ->Bool} {S:Nat ->aK} {m i u:Nat} (h:F i=true \/ (F i=false /\ u=0)):nI F S m i u i=F i:=by
  rcases h with h|⟨h,rfl⟩
  · rw [h];exact (adr u).2 (Or.inl h)
  · rfl
theorem ae8 {S:Nat ->aK} {m k:Nat} (hv:vsB S m=true) (hm:m<=10) (hk:k<m):∀c,c<=k+1 ->∀v,nO S m k c v=true↔v=k \/ ∃w,k<w+c /\ w<=k /\ (w=k \/ (eY S m k).testBit w=true) /\ ab1 S m w v
  | 0,_,v=>by
    show decide (v=k)=true↔_
    rw [decide_eq_true_eq]
    exact ⟨Or.inl,fun h=>h.elim id fun ⟨w,h1,h2,_⟩=>by omega⟩
  | c + 1,hc,v=>by
    have ih:=ae8 hv hm hk c (by omega)
    have hi :nO S m k c (k - c)=true↔(k - c=k \/ (eY S m k).testBit (k - c)=true):=by
      rw [ih]
      constructor
      · rintro (h|⟨w,_,_,hw,hd⟩)
        · exact Or.inl h
        · exact Or.inr ((yR hv hm hk).1 ⟨w,hw,hd⟩)
      · rintro (h|h)
        · exact Or.inl h
        · obtain ⟨w,hw,hd⟩:=(yR hv hm hk).2 h
          refine Or.inr ⟨w,?_,?_,hw,hd⟩
          · obtain ⟨u,hu,e⟩:=hd
            have hwm:w<m:=by rcases hw with rfl|hw;exact hk;have:=nK hv hm hk hw;omega
            have:=FE hv hwm hu;omega
          · rcases hw with rfl|hw
            · exact Nat.le_refl _
            · have:=nK hv hm hk hw;omega
    show (if nO S m k c (k - c)=true then nI (nO S m k c) S m (k - c) (S (k - c)).q v else nO S m k c v)=true↔_
    split
    · rename_i hb
      rw [adr,ih]
      constructor
      · rintro ((h|⟨w,h1,h2⟩)|⟨u,hu,e⟩)
        · exact Or.inl h
        · exact Or.inr ⟨w,by omega,h2⟩
        · exact Or.inr ⟨k - c,by omega,by omega,hi.1 hb,u,hu,e⟩
      · rintro (h|⟨w,h1,h2,h3,u,hu,e⟩)
        · exact Or.inl (Or.inl h)
        · rcases (by omega:w=k - c \/ k<w+c) with rfl|g
          · exact Or.inr ⟨u,hu,e⟩
          · exact Or.inl (Or.inr ⟨w,g,h2,h3,u,hu,e⟩)
    · rename_i hb
      rw [ih]
      constructor
      · rintro (h|⟨w,h1,h2⟩)
        · exact Or.inl h
        · exact Or.inr ⟨w,by omega,h2⟩
      · rintro (h|⟨w,h1,h2,h3,h4⟩)
        · exact Or.inl h
        · rcases (by omega:w=k - c \/ k<w+c) with rfl|g
          · exact absurd (hi.2 h3) hb
          · exact Or.inr ⟨w,g,h2,h3,h4⟩
theorem ajF {S:Nat ->aK} {m k:Nat} (hv:vsB S m=true) (hm:m<=10) (hk:k<m) {v:Nat} (hvk:v<k):nO S m k (k+1) v=(eY S m k).testBit v:=by
  rw [Bool.eq_iff_iff,ae8 hv hm hk _ (Nat.le_refl _)]
  constructor
  · rintro (h|⟨w,_,_,hw,hd⟩)
    · omega
    · exact (yR hv hm hk).1 ⟨w,hw,hd⟩
  · intro h
    obtain ⟨w,hw,hd⟩:=(yR hv hm hk).2 h
    refine Or.inr ⟨w,by omega,?_,hw,hd⟩
    rcases hw with rfl|hw
    · exact Nat.le_refl _
    · have:=nK hv hm hk hw;omega
theorem Ar {S:Nat ->aK} {T U:Nat ->Bool}:∀m,(∀i,i<m ->T i=U i) ->jE S T m=jE S U m
  |0,_=>rfl
  | m+1,h=>by
    have ih:=Ar (S:=S) m fun i hi=>h i (by omega)
    cases e:T m with
    |true=>rw [Dh e,Dh (by rw [<- h m (by omega)];exact e),ih]
    |false=>rw [oD e,oD (by rw [<- h m (by omega)];exact e),ih]
def nU (S:Nat ->aK) (m k:Nat):List Int:=jE S (fun i=>(eY S m k).testBit i) k
theorem ahE {S:Nat ->aK} {m k:Nat} (hv:vsB S m=true) (hm:m<=10) (hk:k<m):jE S (nO S m k (k+1)) k=nU S m k:=Ar k fun i hi=>ajF hv hm hk hi
theorem Dz (S:Nat ->aK) (m k:Nat):(nU S m k).length<=k:=wD _ _ _
theorem Ez {S : Nat ->aK} {m k i:Nat} (hv:vsB S m=true) (hm:m<=10) (hk:k<m) (hi:i<m):iX (nU S m k).length (zL (nU S m k)) (S i).nu=(eY S m k).testBit i:=by
  have e : nU S m k=jE S (fun i=>(eY S m k).testBit i&&decide (i<k)) m:=by
    have h1 : ∀ j,k<=j ->j<=m ->jE S (fun i=>(eY S m k).testBit i&&decide (i<k)) j=jE S (fun i=>(eY S m k).testBit i&&decide (i<k)) k:=by
      intro j
      induction j with
      | zero => intro h _;have:k=0:=by omega
                subst this;rfl
      | succ j ih=>
        intro h hj
        rcases (by omega:k=j+1 \/ k<=j) with rfl|g
        · rfl
        · rw [oD (by rw [decide_eq_false (by omega),Bool.and_false]),ih g (by omega)]
    rw [h1 m (by omega) (Nat.le_refl m)]
    exact Ar k fun i hi=>by rw [decide_eq_true hi,Bool.and_true]
  rw [Bool.eq_iff_iff,adJ,e,YX hv hi,Bool.and_eq_true,decide_eq_true_eq]
  exact ⟨fun h=>h.1,fun h=>⟨h,nK hv hm hk h⟩⟩
def nJ (m:Nat) (F:Nat ->Bool):List CV:=(List.range m).map fun v=>CV.iv (.g (.bool (F v)))
theorem pR (m:Nat) (F:Nat ->Bool):(nJ m F).length=m:=by simp [nJ]
theorem rF (m:Nat) (F:Nat ->Bool):∀c,c∈nJ m F ->kg c:=fun c hc=>by obtain ⟨x,_,rfl⟩:=List.mem_map.1 hc;trivial
theorem F4 {m:Nat} {F:Nat ->Bool} {k:Nat} (h:k<m):(nJ m F).getD k .any= .iv (.g (.bool (F k))):=by
  unfold nJ;simp [List.getD_eq_getElem?_getD,List.getElem?_range h]
theorem I7 {m:Nat} {F:Nat ->Bool} {k:Nat} (h:k<m):List.take k (nJ m F)++[.iv (.g (.bool true))]++List.drop (k+1) (nJ m F)=nJ m (fun v=>F v||decide (v=k)):=by
  apply List.ext_getElem
  · simp [nJ];omega
  · intro i h1 h2
    have hi:i<m:=by simpa [nJ] using h2
    simp only [nJ,List.getElem_append,List.length_append,List.length_take,List.length_map,List.length_range,List.getElem_map,List.getElem_range,List.getElem_take,List.getElem_drop,List.length_cons,List.length_nil]
    rcases Nat.lt_trichotomy i k with g|g|g
    · rw [dif_pos (by omega),dif_pos (by omega),decide_eq_false (by omega),Bool.or_false]
    · subst g
      rw [dif_pos (by omega),dif_neg (by omega)]
      simp
    · rw [dif_neg (by omega),decide_eq_false (by omega),Bool.or_false]
      rw [show k+1+(i - (min k m+(0+1)))=i by omega]
theorem qL (m:Nat) (F:Nat ->Bool) (i:Nat):List.map (CV.bW i) (nJ m F)=nJ m F:=jc i (rF m F)
theorem o9 (m:Nat) (F:Nat ->Bool) (i:Nat) (cs:List CV):List.map (mJ i cs) (nJ m F)=nJ m F:=yu _ (rF m F)
theorem AJ:∀m,nV [.iv (.g (.bool false))] m=nJ m (fun _=>false):=fun m=>by
  have h:∀m,nV [.iv (.g (.bool false))] m=List.replicate m (.iv (.g (.bool false))):=fun m=>by
    induction m with
    |zero=>rfl
    |succ m ih=>show _++nV _ m=_;rw [ih];rfl
  rw [h]
  unfold nJ
  apply List.ext_getElem
  · simp
  · intro i h1 h2;simp
theorem vE (a:Nat ->Int) (y:Int):iX 0 a y=false:=by
  unfold iX;simp
theorem UN (k c:Nat):((k:Int) - (c:Int)).toNat=k - c:=by omega
theorem Bn {S:Nat ->aK} {m:Nat} {y:Int} (h:eT S m y<m):Cj S m y=((eT S m y:Nat):Int):=if_pos h
theorem ajj {S:Nat ->aK} {m k c u:Nat} (h:k - c<m) (hu:(nO S m k c (k - c)=true /\ u<=(S (k - c)).q) \/ (nO S m k c (k - c)=false /\ u=0)):(nJ m (nI (nO S m k c) S m (k - c) u)).getD (k - c) .any= .iv (.g (.bool (nO S m k c (k - c)))):=by
  rw [F4 h,ajz (hu.imp (fun g=>g.1) id)]
theorem ahI {S:Nat ->aK} {m k c:Nat} (h:nO S m k c (k - c)=true):nI (nO S m k c) S m (k - c) (S (k - c)).q=nO S m k (c+1):=by
  funext v;show _=if _ then _ else _;rw [if_pos h]
theorem afb {S:Nat ->aK} {m k c:Nat} (h:nO S m k c (k - c)=false):nO S m k c=nO S m k (c+1):=by
  funext v;show _=if _ then _ else _;rw [if_neg (by rw [h];decide)]
theorem ajy {S:Nat ->aK} {m k c u:Nat} (hu:(nO S m k c (k - c)=true /\ u<=(S (k - c)).q) \/ (nO S m k c (k - c)=false /\ u=0)) (hc:nO S m k c (k - c)=false \/ ((S (k - c)).q:Int)<=(u:Int)):nI (nO S m k c) S m (k - c) u=nO S m k (c+1):=by
  rcases hu with ⟨h1,h2⟩|⟨h1,rfl⟩
  · rcases hc with hc|hc
    · rw [hc] at h1;cases h1
    · obtain rfl:u=(S (k - c)).q:=by omega
      exact ahI h1
  · exact afb h1
def be2 (S:Nat ->aK) (L:List (Nat × Nat)) (i o:Nat):Int:=if o=0 then (S (L.getD i (0,0)).1).nu else (S (L.getD i (0,0)).2).nu
def UK (S:Nat ->aK) (l:List (Nat × Nat)):List Int:=l.flatMap fun p=>[(S p.1).nu,(S p.2).nu]
theorem rG (S:Nat ->aK):∀l:List (Nat × Nat),(UK S l).length=l.length*2
  | []=>rfl
  | p::l=>by
    have:=rG S l
    show ([_,_]++UK S l).length=_
    rw [List.length_append,this];simp;omega
theorem Ra (S:Nat ->aK):∀(l:List (Nat × Nat)) (i o:Nat),i<l.length ->o<2 ->zL (UK S l) (i*2+o)=be2 S l i o
  | [],i,o,h,_=>absurd h (Nat.not_lt_zero i)
  | p::l,0,o,_,ho=>by
    rcases (by omega:o=0 \/ o=1) with rfl|rfl<;>rfl
  | p::l,i+1,o,hi,ho=>by
    have ih:=Ra S l i o (by simpa using hi) ho
    rw [show (i+1)*2+o=i*2+o+1+1 by omega]
    exact ih
theorem ach (S:Nat ->aK) (l:List (Nat × Nat)) (i k:Nat):UK S (l++[(i,k)])=UK S l++[(S i).nu,(S k).nu]:=by unfold UK;rw [List.flatMap_append];rfl
theorem Ev (zs:List Int) (a b:Int) (i:Nat):List.map (CV.bW i) (dL zs++[.iv (.g (.int .i64 a)),.iv (.g (.int .i64 b))])=dL (zs++[a,b]):=by
  have e:dL zs++[.iv (.g (.int .i64 a)),.iv (.g (.int .i64 b))]=dL (zs++[a,b]):=by unfold dL;simp
  rw [e];exact aZ _ i
theorem ahx {P:Nat ->Nat} {m i t:Nat} (h:(P (i+1+t)).testBit i=false):lF P (fun _ _=>true) m i++mV P (fun _ _=>true) i (t+1)=(lF P (fun _ _=>true) m i++mV P (fun _ _=>true) i t)++[(i,i+1+t)]:=by
  rw [Zr (P:=P) (X:=fun _ _=>true) h rfl,List.append_assoc]
theorem ZB {P:Nat ->Nat} {m i t:Nat} (h:(P (i+1+t)).testBit i=true):lF P (fun _ _=>true) m i++mV P (fun _ _=>true) i (t+1)=(lF P (fun _ _=>true) m i++mV P (fun _ _=>true) i t):=by
  rw [TA (P:=P) (X:=fun _ _=>true) (Or.inl h)]
theorem YR {P:Nat ->Nat} {m i t:Nat} (hm:m<=10) (hi:i<m) (ht:i+1+t<=m):(lF P (fun _ _=>true) m i++mV P (fun _ _=>true) i t).length<=1000:=by
  have h1:=vR P (fun _ _=>true) m i
  have h2:=y8 P (fun _ _=>true) i t
  have h3:i*m<=10*10:=Nat.mul_le_mul (by omega) hm
  rw [List.length_append];omega
theorem abG (S:Nat ->aK) (l:List (Nat × Nat)):∀i o,i<l.length ->o<2 ->(Fu ((dL (UK S l)).getD (i*2+o) .any)).eqv (kF (be2 S l) i o):=fun i o hi ho=>by
  have h:i*2+o<(UK S l).length:=by rw [rG];omega
  rw [uG _ _ h]
  show IV.eqv (.g (.int .i64 (zL (UK S l) (i*2+o)))) _
  rw [Ra S l i o hi ho];exact rfl
def Fa (x:bF):List (Nat × Nat):=lF (dU x) (fun _ _=>true) x.m x.m
def bP (x:bF) (i:Nat):Nat × Nat:=(Fa x).getD i (0,0)
def OP (x:bF) (i:Nat):List (Nat × Nat):=((Fa x).take i).filter fun p=>dQ x p.1 p.2
theorem Vd (x:bF):OP x 0=[]:=rfl
theorem J2 {x:bF} {i:Nat} (h:i<(Fa x).length):(Fa x)[i]=bP x i:=by unfold bP;rw [List.getD_eq_getElem?_getD,List.getElem?_eq_getElem h];rfl
theorem ahH {x:bF} {i:Nat} (h:i<(Fa x).length) (g:dQ x (bP x i).1 (bP x i).2=true):OP x (i+1)=OP x i++[bP x i]:=by
  unfold OP;rw [List.take_succ_eq_append_getElem h,List.filter_append,J2 h];simp [List.filter,g]
theorem aaA {x:bF} {i:Nat} (h:i<(Fa x).length) (g:dQ x (bP x i).1 (bP x i).2=false):OP x (i+1)=OP x i:=by
  unfold OP;rw [List.take_succ_eq_append_getElem h,List.filter_append,J2 h];simp [List.filter,g]
theorem Og {P:Nat ->Nat} {X:Nat ->Nat ->Bool} {i:Nat}:∀t,(mV P (fun _ _=>true) i t).filter (fun p=>X p.1 p.2)=mV P X i t
  |0=>rfl
  | t +1=>by
    show (mV P (fun _ _=>true) i t++_).filter _=mV P X i t++_
    rw [List.filter_append,Og t]
    congr 1
    by_cases h:(P (i+1+t)).testBit i=false
    · rw [if_pos ⟨h,rfl⟩]
      by_cases g:X i (i+1+t)=true
      · rw [if_pos ⟨h,g⟩,List.filter_cons_of_pos (by exact g)];rfl
      · rw [if_neg (fun k=>g k.2),List.filter_cons_of_neg (by exact g)];rfl
    · rw [if_neg (fun k=>h k.1),if_neg (fun k=>h k.1)];rfl
theorem OE {P:Nat ->Nat} {X:Nat ->Nat ->Bool} {m:Nat}:∀i,(lF P (fun _ _=>true) m i).filter (fun p=>X p.1 p.2)=lF P X m i
  |0=>rfl
  | i+1=>by
    show (lF P (fun _ _=>true) m i++_).filter _=lF P X m i++_
    rw [List.filter_append,OE i,Og]
theorem VL (x:bF):OP x (Fa x).length=mg x:=by unfold OP;rw [List.take_length];exact OE x.m
theorem agP {x:bF} {i:Nat} (h:i<(Fa x).length):(bP x i).1<(bP x i).2 /\ (bP x i).2<x.m:=by
  have h1:bP x i∈Fa x:=by rw [<- J2 h];exact List.getElem_mem h
  have h2:=(yN (P:=dU x) (X:=fun _ _=>true) (Nat.le_refl x.m)).1 h1
  exact ⟨h2.2.1,h2.2.2.1⟩
theorem NT {x:bF} (hm:x.m<=10):(Fa x).length<=100:=Nat.le_trans (vR _ _ _ x.m) (show x.m*x.m<=10*10 from Nat.mul_le_mul hm hm)
theorem VB {x:bF} (hm:x.m<=10) (i:Nat):(OP x i).length<=100:=by
  have h1:(OP x i).length<=((Fa x).take i).length:=List.length_filter_le _ _
  have h2:=NT hm
  have h3:((Fa x).take i).length<=(Fa x).length:=by rw [List.length_take];omega
  omega
theorem ad3 (x:bF) (l:List (Nat × Nat)) (p:Nat × Nat):Vt x (l++[p])=Vt x l++[Ck x p 0,Ck x p 1,Ck x p 2,Ck x p 3]:=by unfold Vt;rw [List.flatMap_append];rfl
theorem adu (x:bF):∀i o,i<(mg x).length ->o<4 ->(Fu ((dL (Vt x (mg x))).getD (i*4+o) .any)).eqv (kF (BL x) i o):=fun i o hi ho=>by
  have h:i*4+o<(Vt x (mg x)).length:=by rw [vG];omega
  rw [uG _ _ h]
  show IV.eqv (.g (.int .i64 (zL (Vt x (mg x)) (i*4+o)))) _
  rw [U6 x _ i o hi ho];exact rfl
theorem TN (S:Nat ->aK) (L:List (Nat × Nat)) (i:Nat):be2 S L i 0=(S (L.getD i (0,0)).1).nu:=rfl
theorem UJ (S:Nat ->aK) (L:List (Nat × Nat)) (i:Nat):be2 S L i 1=(S (L.getD i (0,0)).2).nu:=rfl
theorem abk (x:bF) (i:Nat):(Fa x).getD i (0,0)=bP x i:=rfl
theorem Rq {S:Nat ->aK} {m i:Nat} (hv:vsB S m=true) (hi:i<m):Cj S m (S i).nu=(i:Int):=by rw [Bn (UO hi rfl),zI hv hi]
theorem U2 (x:bF):lF (eY x.S x.m) (fun _ _=>true) x.m x.m=Fa x:=rfl
theorem aeJ (S:Nat ->aK) (m:Nat) (hv:vsB S m=true) (hm:m<=10) (hq:∀i,i<m ->(S i).q<=9223372036854775807) (k:Nat) (hk:k<m) (a:Nat ->Int):au Tryz.prog 107 [.one (.lst 2 m (fA S)),.one (.lst 1 0 (bG a)),.one (.g (.int .i64 (S k).nu))] (.tup [.one (.lst 1 (nU S m k).length (bG (zL (nU S m k)))),.one (.g (.int .i64 (0)))]):=by
  have hixk:Cj S m (S k).nu=(k:Int):=(by rw [Bn (UO hk rfl),zI hv hk])
  have hu0:=I7 (F:=fun _=>false) hk
  have mk0:True:=trivial
  have mk1:True:=trivial
  have mk2:True:=trivial
  have mk3:True:=trivial
  have hixu:True:=trivial
  have hni:True:=trivial
  have hun:True:=trivial
  have hg2:True:=trivial
  have hua:True:=trivial
  refine ah Tryz.func107 rfl (by rw [Tryz.ntmps107];simp) ?_
  simp only [Tryz.ntmps107,zM,PT.tv,ak,Nat.zero_add,Nat.reduceAdd]
  repeat' (first
 |((with_reducible show AW _ _ _ _);first
 |(with_reducible first|refine aS (fun K hK=> ?_)|refine aI ?_|refine aX ?_|refine aT ?_|refine aC ?_|refine aB ?_)
 |(first
 |(with_reducible first|refine aP 0 [0,1,2] ?_|refine aP 1 [0,1,2] ?_|refine aP 2 [0,1,2,8] ?_|refine aP 3 [0,1,2,8,9] ?_|refine aP 5 [0,1,2] ?_|refine aP 6 [0,1,10] ?_|refine aP 8 [0,1,10] ?_|refine aP 9 [0,1,10,11] ?_|refine aP 10 [0,1,10,11] ?_|refine aP 11 [0,1,10,11,12] ?_|refine aP 12 [0,1,10,11,12] ?_|refine aP 13 [0,1,10,11,12] ?_|refine aP 14 [0,1,10,11,12,13] ?_|refine aP 15 [0,1,10,11,12,13] ?_|refine aP 16 [0,1,10,11,12,13] ?_|refine aP 17 [0,1,10,11,12,13] ?_|refine aP 18 [0,10,11] ?_|refine aP 19 [0,10,11,14] ?_|refine aP 20 [0,10,11,14,15] ?_|refine aP 21 [0,10,11,14,15] ?_|refine aP 22 [0,10,11,14,15] ?_|refine aP 23 [0,10,11,14,15] ?_|refine aP 24 [14] ?_))
 |((with_reducible show AW _ (Code.loop _) _ _);first
 |((with_reducible refine aL (c:=(Code.seq (Code.seq (Code.region 11 _ _) _) _)) (ι:=Nat) [0,1,10,11] (fun c=>[(12,iA .i64 ((k:Int) - (c:Int)))]) (fun c=>[(0,nJ m (nO S m k c))]) (fun c=>c<=k+1) (fun c=>k+1 - c) 0 ?lg11 ?l111 ?l211 ?li11 ?lr11);(case' lg11=>rintro c _);(case' li11=>try (omega));(case' lr11=>rintro c hcc KR hR11;simp only [bf,bN,hset,lk,if_true,if_false,xE,reduceIte,zN,bJ,bI,hv,hixk,hixu,hni,hun,hu0,hg2,AJ,pR,qL,o9,vE,UN,lN,maxLen,aZ,bH,aW,hua]))
 |((with_reducible refine aL (c:=(Code.seq (Code.seq (Code.region 14 _ _) _) _)) (ι:=Nat) [0,1,10,11,12] (fun u=>[(13,iA .i64 (u:Int))]) (fun u=>[(0,nJ m (nI (nO S m k c) S m (k - c) u))]) (fun u=>(nO S m k c (k - c)=true /\ u<=(S (k - c)).q) \/ (nO S m k c (k - c)=false /\ u=0)) (fun u=>(S (k - c)).q - u) 0 ?lg14 ?l114 ?l214 ?li14 ?lr14);(case' lg14=>rintro u _);(case' li14=>try ((simp;done)));(case' lr14=>rintro u hu KR hR14;clear hua;have hua:=ajj hcm hu;simp only [bf,bN,hset,lk,if_true,if_false,xE,reduceIte,zN,bJ,bI,hv,hixk,hixu,hni,hun,hu0,hg2,AJ,pR,qL,o9,vE,UN,lN,maxLen,aZ,bH,aW,hua]))
 |((with_reducible refine aL (c:=(Code.seq (Code.seq (Code.region 20 _ _) _) _)) (ι:=Nat) [0,10,11] (fun i=>[(14,.t (.one (.slc 1 0 (jE S (nO S m k (k+1)) i).length 1))),(15,iA .i64 (i:Int))]) (fun i=>[(1,dL (jE S (nO S m k (k+1)) i))]) (fun i=>i<=k) (fun i=>k - i) 0 ?lg20 ?l120 ?l220 ?li20 ?lr20);(case' lg20=>rintro i _);(case' li20=>try (omega));(case' lr20=>rintro i hi KR hR20;simp only [bf,bN,hset,lk,if_true,if_false,xE,reduceIte,zN,bJ,bI,hv,hixk,hixu,hni,hun,hu0,hg2,AJ,pR,qL,o9,vE,UN,lN,maxLen,aZ,bH,aW,hua]))))
 |((first|(with_reducible refine And.intro ?_ ?_)|(with_reducible refine Need.mk ?_));focus (first|exact True.intro|(with_reducible assumption)|omega|(intros;(repeat' (first|omega|(with_reducible refine And.intro ?_ ?_)));done)))
 |(with_reducible refine aA ?_)
 |((with_reducible show aY _ _ _ _ _ _);first
 |((with_reducible refine aH ?_ ?_)<;>(intro hc;(try simp only [zB,zC,reduceCtorEq] at hc);((try (exfalso;omega));(try (clear mk3;have ec:c=k+1:=(by omega);subst ec));(try (clear mk0;have hck:c<=k:=(by omega);have hcm:k - c<m:=(by omega);have hql:=MX hv hcm));(try (clear mk1 hixu hun;have hnt:=hc.1;have huq:u<(S (k - c)).q:=(by have:=hc.2;omega);have hia:=FE hv hcm huq;have him:eT S m ((S (k - c)).a u)<m:=(by omega);have hixu:=Bn him;have hun:=I7 (F:=nI (nO S m k c) S m (k - c) u) him));(try (clear mk2 hg2;have hik:i<k:=(by omega);have hnl:=wD S (nO S m k (k+1)) i;have hg2:=F4 (m:=m) (F:=nO S m k (k+1)) (k:=i) (by omega))));(try (exfalso;contradiction)))))
 |((with_reducible show aN _ _ _ _ _ _ _ _ _ _);first
 |(refine aj (k:=69) yX (JJ S m (by omega) hq) ?_ ?_)
 |(refine aj (k:=133) H6 (aaS a) ?_ ?_)
 |(refine aj (k:=32) kG (xG S m (by omega) hq (S k).nu) ?_ ?_)
 |(refine aj (k:=32) kG (xG S m (by omega) hq ((S (k - c)).a u)) ?_ ?_)
 |(refine aj (k:=28) kJ (qh 0 a ((S (k - c)).a u) (by decide)) ?_ ?_))
 |((with_reducible refine hR11 _ (c+1) ?_);(try clear hR11 KR))
 |((with_reducible refine hR14 _ (u+1) ?_);(try clear hR14 KR))
 |((with_reducible refine hR20 _ (i+1) ?_);(try clear hR20 KR))
 |((with_reducible refine Told.mk ?_);simp only [go_sem,reduceIte,reduceCtorEq,xA,xL,xD,xE,xM,xS,xB,bJ,bI,bG,hv,hixk,hixu,hni,hun,hu0,hg2,AJ,pR,qL,o9,vE,UN,lN,maxLen,aZ,bH,aW,hua]<;>(first|(((try simp (disch:=omega) only [aJ,Int.natCast_add,Int.cast_ofNat_Int,and_true,true_and,and_self]);(repeat' (first|omega|rfl|(with_reducible refine And.intro ?_ ?_)|((exact bO rfl (rF _ _)))));done))|(((try simp (disch:=omega) only [aJ,Int.natCast_add,Int.cast_ofNat_Int,and_true,true_and,and_self]);(repeat' (first|omega|(with_reducible refine And.intro ?_ ?_)|((exact bO rfl (rF _ _)))|((rw [ajy hu hc];exact bO rfl (rF _ _)))));done))|(((try simp (disch:=omega) only [aJ,Int.natCast_add,Int.cast_ofNat_Int,and_true,true_and,and_self]);(repeat' (first|omega|(with_reducible refine And.intro ?_ ?_)|((exact bO rfl (rF _ _)))|((rw [Dh (by assumption)];first|exact bO rfl (bU _)|(simp;done)))|((rw [oD (by assumption)];exact bO rfl (bU _)))|((rw [oD (by assumption)]))));done))))
 |((fail_if_success (with_reducible show AW _ _ _ _));simp (maxSteps:=2000000) only [go_sem,reduceIte,reduceCtorEq,xA,xL,xD,xE,xM,xS,xB,Tryz.f107,bJ,bI,bG,hv,hixk,hixu,hni,hun,hu0,hg2,AJ,pR,qL,o9,vE,UN,lN,maxLen,aZ,bH,aW,hua])
 |((with_reducible refine hK _ ?_);clear hK K)
 |(with_reducible apply_assumption -exfalso only [*]))
  all_goals ((have e0:i=k:=(by omega);subst e0;rw [<- ahE hv hm hk];exact ⟨fun c hc9=>(by have:=bU _ c hc9;cases c<;>trivial),rfl,fun i o hi ho=>p9 _ i o hi ho⟩))
theorem Ya (a:Nat ->Int):PT.eqv (.one (.g (.slice none 0 0))) (.one (.lst 1 0 (bG a))):=⟨rfl,rfl⟩
theorem aeF (S:Nat ->aK) (m:Nat) (hv:vsB S m=true) (hm:m<=10) (hq:∀i,i<m ->(S i).q<=9223372036854775807) (k:Nat) (hk:k<m):au Tryz.prog 107 [.one (.lst 2 m (fA S)),.one (.g (.slice none 0 0)),.one (.g (.int .i64 (S k).nu))] (.tup [.one (.lst 1 (nU S m k).length (bG (zL (nU S m k)))),.one (.g (.int .i64 (0)))]):=(aeJ S m hv hm hq k hk (fun _=>0)).eqv ⟨PT.aG _,Ya _,PT.aG _,trivial⟩ (PV.aG _)
theorem KD (S:Nat ->aK) (m:Nat) (hv:vsB S m=true) (hm:m<=10) (hq:∀i,i<m ->(S i).q<=9223372036854775807) (k:Nat) (hk:k<m):au Tryz.prog 71 [.one (.lst 2 m (fA S)),.one (.g (.int .i64 (S k).nu))] (.tup [.one (.lst 1 (nU S m k).length (bG (zL (nU S m k)))),.one (.g (.int .i64 (0)))]):=by
  refine ah Tryz.func71 rfl (by rw [Tryz.ntmps71];simp) ?_
  simp only [Tryz.ntmps71,zM,PT.tv,ak,Nat.zero_add,Nat.reduceAdd]
  repeat' (first
 |((with_reducible show AW _ _ _ _);first
 |(with_reducible first|refine aS (fun K hK=> ?_)|refine aT ?_)
 |(first
 |(with_reducible first|refine aP 0 [0,1] ?_|refine aP 1 [0,1] ?_)))
 |(((with_reducible refine Need.mk ?_));focus (exact True.intro))
 |(with_reducible refine aA ?_)
 |((with_reducible show aN _ _ _ _ _ _ _ _ _ _);first
 |(refine aj (k:=107) GV (aeF S m hv hm hq k hk) ?_ ?_))
 |((fail_if_success (with_reducible show AW _ _ _ _));simp (maxSteps:=2000000) only [go_sem,reduceIte,reduceCtorEq,xA,xL,xD,xE,xM,xS,xB,Tryz.f71,bJ,bI,bG])
 |((with_reducible refine hK _ ?_);clear hK K))
theorem abf (S:Nat ->aK) (m:Nat) (hv:vsB S m=true) (hm:m<=10) (hq:∀i,i<m ->(S i).q<=9223372036854775807):au Tryz.prog 39 [.one (.lst 2 m (fA S))] (.tup [.one (.lst 2 (lF (eY S m) (fun _ _=>true) m m).length (kF (be2 S (lF (eY S m) (fun _ _=>true) m m)))),.one (.g (.int .i64 (0)))]):=by
  have mk0:True:=trivial
  have mk1:True:=trivial
  have hkn:True:=trivial
  have hbh:True:=trivial
  refine ah Tryz.func39 rfl (by rw [Tryz.ntmps39];simp) ?_
  simp only [Tryz.ntmps39,zM,PT.tv,ak,Nat.zero_add,Nat.reduceAdd]
  repeat' (first
 |((with_reducible show AW _ _ _ _);first
 |(with_reducible first|refine aS (fun K hK=> ?_)|refine aI ?_|refine aX ?_|refine aT ?_|refine aC ?_|refine aB ?_)
 |(first
 |(with_reducible first|refine aP 0 [0] ?_|refine aP 1 [0] ?_|refine aP 2 [0,4] ?_|refine aP 4 [0] ?_|refine aP 5 [0,5] ?_|refine aP 6 [0,5,6] ?_|refine aP 7 [0,5,6] ?_|refine aP 8 [0,5,6] ?_|refine aP 9 [0,5,6,7] ?_|refine aP 10 [0,5,6,7] ?_|refine aP 11 [0,5,6,7] ?_|refine aP 12 [0,5,6,7,8] ?_)
 |((with_reducible refine aR (c:=Code.region 13 _ true) [0,5,6,7] ?_);(with_reducible refine zH 13 ?_ ?_ ?_ ?_ ?_);(focus kernel_rfl);(focus kernel_rfl);(focus kernel_rfl);(focus kernel_rfl))
 |(with_reducible refine aP 14 [5] ?_))
 |((with_reducible show AW _ (Code.loop _) _ _);first
 |((with_reducible refine aL (c:=(Code.seq (Code.seq (Code.region 6 _ _) _) _)) (ι:=Nat) [0] (fun i=>[(5,.t (.one (.slc 0 0 (lF (eY S m) (fun _ _=>true) m i).length 2))),(6,iA .i64 (i:Int))]) (fun i=>[(0,dL (UK S (lF (eY S m) (fun _ _=>true) m i)))]) (fun i=>i<=m) (fun i=>m - i) 0 ?lg6 ?l16 ?l26 ?li6 ?lr6);(case' lg6=>rintro i _);(case' li6=>try (omega));(case' lr6=>rintro i hi KR hR6;simp only [bf,bN,hset,lk,if_true,if_false,xE,reduceIte,zN,bJ,bI,hv,hkn,hbh,maxLen,aZ,Ev,aW,rG,MI]))
 |((with_reducible refine aL (c:=(Code.seq (Code.seq (Code.region 9 _ _) _) _)) (ι:=Nat) [0,6] (fun t=>[(5,.t (.one (.slc 0 0 (lF (eY S m) (fun _ _=>true) m i++mV (eY S m) (fun _ _=>true) i t).length 2))),(7,iA .i64 ((i:Int)+1+(t:Int)))]) (fun t=>[(0,dL (UK S (lF (eY S m) (fun _ _=>true) m i++mV (eY S m) (fun _ _=>true) i t)))]) (fun t=>i+1+t<=m) (fun t=>m - (i+1+t)) 0 ?lg9 ?l19 ?l29 ?li9 ?lr9);(case' lg9=>rintro t _);(case' li9=>try (omega));(case' lr9=>rintro t ht KR hR9;simp only [bf,bN,hset,lk,if_true,if_false,xE,reduceIte,zN,bJ,bI,hv,hkn,hbh,maxLen,aZ,Ev,aW,rG,MI]))))
 |((first|(with_reducible refine And.intro ?_ ?_)|(with_reducible refine Need.mk ?_));focus (first|exact True.intro|omega))
 |(with_reducible refine aA ?_)
 |((with_reducible show aY _ _ _ _ _ _);first
 |((with_reducible refine aH ?_ ?_)<;>(intro hc;(try simp only [zB,zC,reduceCtorEq] at hc);((try (exfalso;omega));(try (clear mk0 hkn;have hkm:(i+1+t)<m:=(by omega);have hkn:((i:Int)+1+(t:Int)).toNat=(i+1+t):=(by omega);have hbl:=Dz S m (i+1+t)));(try (clear hbh mk1;have hbh:=Ez hv hm hkm (i:=i) (by omega);have hll:=YR (P:=eY S m) hm (i:=i) (t:=t) (by omega) (by omega))));(try (exfalso;contradiction)))))
 |((with_reducible refine And.intro ?_ ?_);focus (((with_reducible show sN _ _ _ _=true);kernel_rfl)))
 |((with_reducible show aN _ _ _ _ _ _ _ _ _ _);first
 |(refine aj (k:=69) yX (JJ S m (by omega) hq) ?_ ?_)
 |(refine aj (k:=71) za (KD S m hv hm hq (i+1+t) (by omega)) ?_ ?_)
 |(refine aj (k:=28) kJ (qh (nU S m (i+1+t)).length (zL (nU S m (i+1+t))) (S i).nu (by omega)) ?_ ?_))
 |((with_reducible refine hR6 _ (i+1) ?_);(try clear hR6 KR))
 |((with_reducible refine hR9 _ (t+1) ?_);(try clear hR9 KR))
 |((with_reducible refine Told.mk ?_);simp only [go_sem,reduceIte,reduceCtorEq,xA,xL,xD,xE,xM,xS,xB,bJ,bI,bG,hv,hkn,hbh,maxLen,aZ,Ev,aW,rG,MI]<;>(first|(((try simp (disch:=omega) only [aJ,Int.natCast_add,Int.cast_ofNat_Int,and_true,true_and,and_self]);(repeat' (first|omega|rfl|(with_reducible refine And.intro ?_ ?_)|((rw [show t=m - (i+1) by omega];exact bO rfl (bU _)))|((rw [show t=m - (i+1) by omega];rfl))));done))|(((try simp (disch:=omega) only [aJ,Int.natCast_add,Int.cast_ofNat_Int,and_true,true_and,and_self]);(repeat' (first|omega|(with_reducible refine And.intro ?_ ?_)|((rw [Gv,List.append_nil];exact bO rfl (bU _)))|((rw [Gv,List.append_nil]))|((rw [ahx (by assumption)];first|exact congrArg (fun n=>CV.slc 0 0 n 2) (KI _ _).symm|(rw [ach];exact bO rfl (bU _))))|((rw [ZB (by assumption)];exact bO rfl (bU _)))|((rw [ZB (by assumption)]))));done))))
 |((fail_if_success (with_reducible show AW _ _ _ _));simp (maxSteps:=2000000) only [go_sem,reduceIte,reduceCtorEq,xA,xL,xD,xE,xM,xS,xB,Tryz.f39,bJ,bI,bG,hv,hkn,hbh,maxLen,aZ,Ev,aW,rG,MI])
 |((fail_if_success (with_reducible show AW _ _ _ _));simp (disch:=omega) only [aJ,dG,dH])
 |((with_reducible refine hK _ ?_);clear hK K)
 |(with_reducible apply_assumption -exfalso only [*]))
  all_goals ((have e0:i=m:=(by omega);subst e0;exact ⟨fun c hc9=>(by have:=bU _ c hc9;cases c<;>trivial),rfl,fun i o hi ho=>abG S _ i o hi ho⟩))
theorem Mx (x:bF) (hx:x.Ok):au Tryz.prog 38 [.one (.g (.slice none 0 0)),.one (.lst 2 x.m (fA x.S)),.one (.lst 1 x.mo (iJ x.O))] (.t (.one (.g (.int .i64 (cB (x0 x)))))):=(kR (x0 x) (aao hx)).eqv ⟨vQ _,PT.aG _,PT.aG _,trivial⟩ (PV.aG _)
theorem adn (x:bF) (hx:x.Ok) (he:cB (x0 x)≠0):au Tryz.prog 13 [.one (.lst 2 x.m (fA x.S)),.one (.lst 1 x.mo (iJ x.O))] (.tup [.one (.lst 4 (Kl (x0 x)) (kF (BL x))),.one (.g (.int .i64 (cB (x0 x))))]):=by
  refine ah Tryz.func13 rfl (by rw [Tryz.ntmps13];simp) ?_
  simp only [Tryz.ntmps13,zM,PT.tv,ak,Nat.zero_add,Nat.reduceAdd]
  repeat' (first
 |((with_reducible show AW _ _ _ _);first
 |(with_reducible first|refine aS (fun K hK=> ?_)|refine aT ?_|refine aC ?_)
 |((with_reducible first|refine aP 0 [0,1] ?_|refine aP 1 [0,1] ?_|refine aP 2 [0,1,6] ?_|refine aP 3 [6] ?_)))
 |(((with_reducible refine Need.mk ?_));focus (exact True.intro))
 |(with_reducible refine aA ?_)
 |((with_reducible show aY _ _ _ _ _ _);first
 |((with_reducible refine aH ?_ ?_)<;>(intro hc;(try simp only [zB,zC,reduceCtorEq] at hc);((try (exfalso;omega)));(try (exfalso;contradiction)))))
 |((with_reducible show aN _ _ _ _ _ _ _ _ _ _);first
 |(refine aj (k:=38) jC (Mx x hx) ?_ ?_))
 |((fail_if_success (with_reducible show AW _ _ _ _));simp (maxSteps:=2000000) only [go_sem,reduceIte,reduceCtorEq,xA,xL,xD,xE,xM,xS,xB,Tryz.f13])
 |((with_reducible refine hK _ ?_);clear hK K))
  all_goals (exact QL he)
theorem acG (x:bF) (hx:x.Ok) (he:cB (x0 x)=0):au Tryz.prog 13 [.one (.lst 2 x.m (fA x.S)),.one (.lst 1 x.mo (iJ x.O))] (.tup [.one (.lst 4 (Kl (x0 x)) (kF (BL x))),.one (.g (.int .i64 (cB (x0 x))))]):=by
  obtain ⟨hv0,_,hmo0,hop0,hm0,_⟩:=cK he
  have hv:vsB x.S x.m=true:=hv0
  have hmo:x.mo=x.m:=hmo0
  have hop:∀i,i<x.mo ->fO (x.O i).k (x.O i).o=true:=hop0
  have hm10:x.m<=10:=hm0
  have hxm:=hx.m
  have hxo:=hx.mo
  have hbl:=NT hm10
  have mk0:True:=trivial
  have hb1:True:=trivial
  have hb2:True:=trivial
  refine ah Tryz.func13 rfl (by rw [Tryz.ntmps13];simp) ?_
  simp only [Tryz.ntmps13,zM,PT.tv,ak,Nat.zero_add,Nat.reduceAdd]
  repeat' (first
 |((with_reducible show AW _ _ _ _);first
 |(with_reducible first|refine aS (fun K hK=> ?_)|refine aI ?_|refine aX ?_|refine aT ?_|refine aC ?_|refine aB ?_)
 |(first
 |(with_reducible first|refine aP 0 [0,1] ?_|refine aP 1 [0,1] ?_|refine aP 2 [0,1,6] ?_|refine aP 4 [0,1] ?_|refine aP 5 [0,1,7] ?_|refine aP 6 [0,1,7,9] ?_|refine aP 7 [0,1,7,9,10] ?_|refine aP 8 [0,1,7,9,10] ?_|refine aP 9 [0,1,7,9,10] ?_|refine aP 10 [0,1,7,9,10,11] ?_)
 |((with_reducible refine aR (c:=Code.region 11 _ true) [0,1,7,9,10,11,12] ?_);(with_reducible refine aD ?_ ?_ ?_ ?_);(focus kernel_rfl);(focus kernel_rfl);(focus kernel_rfl))
 |(with_reducible first|refine aP 12 [0,1,7,9,10,11,12,13,14] ?_|refine aP 13 [0,1,7,9,10,11,12,13,14] ?_|refine aP 14 [9] ?_))
 |((with_reducible show AW _ (Code.loop _) _ _);first
 |((with_reducible refine aL (c:=(Code.seq (Code.seq (Code.region 7 _ _) _) _)) (ι:=Nat) [0,1,7] (fun i=>[(9,.t (.one (.slc 0 0 (OP x i).length 4))),(10,iA .i64 (i:Int))]) (fun i=>[(0,dL (Vt x (OP x i)))]) (fun i=>i<=(Fa x).length) (fun i=>(Fa x).length - i) 0 ?lg7 ?l17 ?l27 ?li7 ?lr7);(case' lg7=>rintro i _);(case' li7=>try (omega));(case' lr7=>rintro i hi KR hR7;simp only [bf,bN,hset,lk,if_true,if_false,xE,reduceIte,zN,bJ,bI,dD,he,MI,TN,UJ,abk,U2,hb1,hb2,Vd,maxLen,aZ,LU,aW,vG]))))
 |((first|(with_reducible refine And.intro ?_ ?_)|(with_reducible refine Need.mk ?_));focus (first|exact True.intro|omega))
 |(with_reducible refine aA ?_)
 |((with_reducible show aY _ _ _ _ _ _);first
 |((with_reducible refine aH ?_ ?_)<;>(intro hc;(try simp only [zB,zC,reduceCtorEq] at hc);((try (exfalso;omega));(try (clear mk0 hb1 hb2;have hbi:i<(Fa x).length:=(by omega);have hlt:=agP hbi;have hm1:(bP x i).1<x.m:=(by omega);have hb1:=Rq hv hm1;have hb2:=Rq hv hlt.2;have hmo2:x.mo=x.m:=hmo;have hb3:(bP x i).1<x.mo:=(by omega);have hb4:(bP x i).2<x.mo:=(by omega);have hpl:=VB hm10 i)));(try (exfalso;contradiction)))))
 |((with_reducible refine And.intro ?_ ?_);focus ((with_reducible show fB _ _ _=true);kernel_rfl))
 |((with_reducible show aN _ _ _ _ _ _ _ _ _ _);first
 |(refine aj (k:=38) jC (Mx x hx) ?_ ?_)
 |(refine aj (k:=39) Ny (abf x.S x.m hv hm10 hx.q) ?_ ?_))
 |((with_reducible show dA _ _ _ _ _ _ _ _ _ _ _ _ _);first
 |(refine aV (k:=32) kG (xG x.S x.m hx.m hx.q (x.S (bP x i).1).nu) ?_ ?_)
 |(refine aV (k:=32) kG (xG x.S x.m hx.m hx.q (x.S (bP x i).2).nu) ?_ ?_)
 |(refine aV (k:=40) MB (acL (x.O (bP x i).1).k (x.O (bP x i).1).o (x.O (bP x i).2).k (x.O (bP x i).2).o (hx.k _ hb3) (hx.o _ hb3) (hx.k _ hb4) (hx.o _ hb4) (hop _ hb3) (hop _ hb4)) ?_ ?_))
 |((with_reducible refine hR7 _ (i+1) ?_);(try clear hR7 KR))
 |((with_reducible refine Told.mk ?_);simp only [go_sem,reduceIte,reduceCtorEq,xA,xL,xD,xE,xM,xS,xB,bJ,bI,dD,bG,he,MI,TN,UJ,abk,U2,hb1,hb2,Vd,maxLen,aZ,LU,aW,vG]<;>((((try simp (disch:=omega) only [aJ,Int.natCast_add,Int.cast_ofNat_Int,and_true,true_and,and_self]);(repeat' (first|omega|rfl|(with_reducible refine And.intro ?_ ?_)|((rw [ahH hbi (aaf (by assumption))];first|exact congrArg (fun n=>CV.slc 0 0 n 4) (KI _ _).symm|(rw [ad3];exact bO rfl (bU _))))|((rw [aaA hbi (SL (by assumption))];exact bO rfl (bU _)))|((rw [aaA hbi (SL (by assumption))]))));done))))
 |((fail_if_success (with_reducible show AW _ _ _ _));simp (maxSteps:=2000000) only [go_sem,reduceIte,reduceCtorEq,xA,xL,xD,xE,xM,xS,xB,Tryz.f13,bJ,bI,dD,bG,he,MI,TN,UJ,abk,U2,hb1,hb2,Vd,maxLen,aZ,LU,aW,vG])
 |((with_reducible refine hK _ ?_);clear hK K)
 |(with_reducible apply_assumption -exfalso only [*]))
  all_goals ((have e0:i=(Fa x).length:=(by omega);subst e0;rw [VL,ND he];exact ⟨fun c hc9=>(by have:=bU _ c hc9;cases c<;>trivial),rfl,fun i o hi ho=>adu x i o hi ho⟩))
theorem Tm (x:bF) (hx:x.Ok):au Tryz.prog 13 [.one (.lst 2 x.m (fA x.S)),.one (.lst 1 x.mo (iJ x.O))] (.tup [.one (.lst 4 (Kl (x0 x)) (kF (BL x))),.one (.g (.int .i64 (cB (x0 x))))]):=by
  by_cases he:cB (x0 x)=0
  · exact acG x hx he
  · exact adn x hx he
end Go.Proofs.YtmnejmpjmniiiaaGreatDoor
set_option maxRecDepth 100000
set_option maxHeartbeats 4000000
namespace Go.Proofs.YtmnejmpjmniiiaaGreatDoor
open Go.RowKit Go.Sea
open Nat renaming reduceAdd -> xA, reduceLT -> xL, reduceLeDiff -> xD, reduceEqDiff -> xE, reduceMul -> xM, reduceSub -> xS, reduceBEq -> xB
theorem Dj:aM Tryz.prog 13=true:=by kernel_rfl
theorem Dy:aM Tryz.prog 16=true:=by kernel_rfl
theorem Om:aM Tryz.prog 42=true:=by kernel_rfl
theorem rA:aM Tryz.prog 43=true:=by kernel_rfl
theorem E8:aM Tryz.prog 44=true:=by kernel_rfl
theorem Np:aM Tryz.prog 76=true:=by kernel_rfl
theorem Me:aM Tryz.prog 77=true:=by kernel_rfl
attribute [go_sem] Dj Dy Om rA E8 Np Me
theorem Vi:∀(l m:List Nat),l.Pairwise (· < ·) ->m.Pairwise (· < ·) ->(∀x,x∈l↔x∈m) ->l=m
  | [],[],_,_,_=>rfl
  | [],b::m,_,_,h=>absurd ((h b).2 (List.mem_cons_self ..)) List.not_mem_nil
  |a::l,[],_,_,h=>absurd ((h a).1 (List.mem_cons_self ..)) List.not_mem_nil
  | a ::l,b::m,hl,hm,h=>by
    rw [List.pairwise_cons] at hl hm
    have e:a=b:=by
      rcases List.mem_cons.1 ((h a).1 (List.mem_cons_self ..)) with e|h1
      · exact e
      · rcases List.mem_cons.1 ((h b).2 (List.mem_cons_self ..)) with e|h2
        · exact e.symm
        · have:=hm.1 a h1;have:=hl.1 b h2;omega
    subst e
    rw [Vi l m hl.2 hm.2 fun x=>⟨fun hx=> ?_,fun hx=> ?_⟩]
    · rcases List.mem_cons.1 ((h x).1 (List.mem_cons_of_mem _ hx)) with e|h1
      · have:=hl.1 x hx;omega
      · exact h1
    · rcases List.mem_cons.1 ((h x).2 (List.mem_cons_of_mem _ hx)) with e|h1
      · have:=hm.1 x hx;omega
      · exact h1
theorem Zt {c:Nat ->Nat}:∀i,(∀j k,j<k ->k<i ->c j<c k) ->(lI c i).Pairwise (· < ·)
  |0,_=>by unfold lI;simp
  | i+1,h=>by
    rw [XR,List.pairwise_append]
    refine ⟨Zt i fun j k h1 h2=>h j k h1 (by omega),List.pairwise_singleton ..,fun a ha b hb=> ?_⟩
    obtain ⟨j,hj,rfl⟩:=Qi.1 ha
    rw [List.mem_singleton.1 hb]
    exact h j i hj (by omega)
theorem QS {x:bF} (he:cB x=0) {q:Nat} {a:Nat ->Int} (hs:fK x.S x.m q a=true):bl (eG x q a)=lI (cI x a) q:=by
  obtain ⟨hv,_,_,_,hm,_⟩:=cK he
  obtain ⟨h1,h2⟩:=wz hv hs
  refine Vi _ _ (aam _) (Zt q h2) fun t=> ?_
  rw [Aj,Qi]
  unfold eG
  rw [jS]
  constructor
  · rintro ⟨_,u,hu,e⟩;exact ⟨u,hu,e⟩
  · rintro ⟨u,hu,e⟩
    refine ⟨?_,u,hu,e⟩
    have:=(h1 u hu).1
    unfold cI at e;omega
theorem Nb {q:Nat} {a:Nat ->Int} {y:Int}:iX q a y=true↔∃u,u<q /\ a u=y:=by rw [<- Kg,EO]
theorem vI {x:bF} (he:cB x=0) {q:Nat} {a:Nat ->Int} (hs:fK x.S x.m q a=true) {i:Nat} (hi:i<x.m):(eG x q a).testBit i=iX q a (x.S i).nu:=by
  have h:=Q8 (cK he).1 hs
  unfold eG
  rw [h,Bool.eq_iff_iff,mX]
  exact ⟨fun g=>g.2,fun g=>⟨hi,g⟩⟩
theorem LH {x:bF} (he:cB x=0) {q:Nat} {a:Nat ->Int} (hs:fK x.S x.m q a=true) {i:Nat} (h:(eG x q a).testBit i=true):i<x.m:=by
  have e:=Q8 (cK he).1 hs
  unfold eG at h
  rw [e,mX] at h
  exact h.1
def KA (S:Nat ->aK) (m q:Nat) (a:Nat ->Int):Bool:=decide (∀j,j<q ->∀u,u<(S (eT S m (a j))).q ->iX q a ((S (eT S m (a j))).a u)=true)
theorem MR {x:bF} (he:cB x=0) {q:Nat} {a:Nat ->Int} (hs:fK x.S x.m q a=true):KA x.S x.m q a=decide (iR (dU x) (eG x q a)=eG x q a):=by
  obtain ⟨hv,_,_,_,hm,_⟩:=cK he
  obtain ⟨h1,h2⟩:=wz hv hs
  have hin:iV x.m (eG x q a):=qI fun i hi=>of_decide_eq_true hs i hi
  have hb:∀t,(eG x q a).testBit t=true↔∃u,u<q /\ eT x.S x.m (a u)=t:=fun t=>jS q
  refine decide_eq_decide.2 (Iff.trans ?_ (Ru he hin).symm)
  constructor
  · intro h
    have key:∀n i,i<n ->(eG x q a).testBit i=true ->∀k,(dU x i).testBit k=true ->(eG x q a).testBit k=true:=by
      intro n
      induction n with
      |zero=>intro i hi;omega
      | succ n ih=>
        intro i hi hbi k hk
        have him:=LH he hs hbi
        obtain ⟨j,hj,e⟩:=(hb i).1 hbi
        obtain ⟨u,hu,g⟩:=(mq hv him).1 hk
        have h3:=h j hj u (by rw [e];exact hu)
        rw [e] at h3
        obtain ⟨j',hj',e'⟩:=Nb.1 h3
        have h4:(eG x q a).testBit (eT x.S x.m ((x.S i).a u))=true:=(hb _).2 ⟨j',hj',by rw [e']⟩
        rcases g with g|g
        · rw [g];exact h4
        · exact ih _ (by have:=FE hv him hu;omega) h4 k g
    exact fun i hi k hk=>key (i+1) i (Nat.lt_succ_self i) hi k hk
  · intro h j hj u hu
    have him:=(h1 j hj).1
    have hbi:(eG x q a).testBit (eT x.S x.m (a j))=true:=(hb _).2 ⟨j,hj,rfl⟩
    have h3:=h _ hbi (eT x.S x.m ((x.S (eT x.S x.m (a j))).a u)) ((mq hv him).2 ⟨u,hu,Or.inl rfl⟩)
    obtain ⟨j',hj',e'⟩:=(hb _).1 h3
    refine Nb.2 ⟨j',hj',?_⟩
    have ht:=FE hv him hu
    rw [<- (h1 j' hj').2,e',pE (by omega)]
theorem YB {x:bF} (he:cB x=0) {q:Nat} {a:Nat ->Int} (hs:fK x.S x.m q a=true) (h:∀i,i<(mg x).length ->(iX q a (BL x i 0)&&iX q a (BL x i 1))=false):Ih (fP (mg x)) (eG x q a)=true:=by
  obtain ⟨hv,_,_,_,hm,_⟩:=cK he
  have hin:iV x.m (eG x q a):=qI fun i hi=>of_decide_eq_true hs i hi
  have h10:eG x q a<1024:=Nat.lt_of_lt_of_le hin (j4 hm)
  have key:∀p,p∈mg x ->(eG x q a).testBit p.1=true ->(eG x q a).testBit p.2=true ->False:=by
    intro p hp h1 h2
    obtain ⟨i,hi,e⟩:=List.mem_iff_getElem.1 hp
    have g:=h i hi
    have e2:(mg x).getD i (0,0)=p:=by rw [List.getD_eq_getElem?_getD,List.getElem?_eq_getElem hi,e];rfl
    unfold BL at g
    rw [e2] at g
    have g':(iX q a (x.S p.1).nu&&iX q a (x.S p.2).nu)=false:=g
    rw [<- vI he hs (LH he hs h1),<- vI he hs (LH he hs h2),h1,h2] at g'
    cases g'
  refine (S9 h10).2 fun i k hi hk=> ?_
  cases e:(fP (mg x) i).testBit k with
  |false=>rfl
  |true=>exact (((yE i k).1 e).elim (fun g=>key _ g hi hk) (fun g=>key _ g hk hi)).elim
theorem Xf {x:bF} (he:cB x=0) {q:Nat} {a:Nat ->Int} (hs:fK x.S x.m q a=true) {i:Nat} (hi:i<(mg x).length) (h:iX q a (BL x i 0)=true /\ iX q a (BL x i 1)=true):dS (iU x) (eG x q a)=false:=by
  have hin:iV x.m (eG x q a):=qI fun i hi=>of_decide_eq_true hs i hi
  refine aa4 he hin ?_
  have hp:(mg x).getD i (0,0)∈mg x:=by
    rw [List.getD_eq_getElem?_getD,List.getElem?_eq_getElem hi];exact List.getElem_mem hi
  obtain ⟨h1,h2,_⟩:=vw.1 hp
  exact M9 he (i:=((mg x).getD i (0,0)).1) (k:=((mg x).getD i (0,0)).2) hp (by rw [vI he hs (by omega)];exact h.1) (by rw [vI he hs h2];exact h.2)
theorem Jz (x:bF) (s:Nat):dS (iU x) s=(decide (iR (dU x) s=s)&&Ih (fP (mg x)) s&&gu x.O (j3 x) (bl s)):=rfl
theorem ae3 {x:bF} (he:cB x=0) {q:Nat} {a:Nat ->Int} (hs:fK x.S x.m q a=true) (h:KA x.S x.m q a=false):false=dS (iU x) (eG x q a):=by
  rw [Jz,<- MR he hs,h];rfl
theorem afU {x:bF} (he:cB x=0) {q:Nat} {a:Nat ->Int} (hs:fK x.S x.m q a=true) (h:KA x.S x.m q a=true) (hf:∀i,i<(mg x).length ->(iX q a (BL x i 0)&&iX q a (BL x i 1))=false):gu x.O (j3 x) (bl (eG x q a))=dS (iU x) (eG x q a):=by
  rw [Jz,<- MR he hs,h,YB he hs hf];rfl
def bhN (x:bF) (q:Nat) (a:Nat ->Int):Nat:=if gu x.O (j3 x) (bl (eG x q a))=true then (gD x.O (j3 x) (bl (eG x q a))).n else 0
def bhF (x:bF) (q:Nat) (a:Nat ->Int):Nat ->aF:=(gD x.O (j3 x) (bl (eG x q a))).f
theorem aiX {x:bF} (he:cB x=0) {q:Nat} {a:Nat ->Int} (hs:fK x.S x.m q a=true) {i:Nat} (hi:i<q) (h:CZ (gD x.O (j3 x) (lI (cI x a) i)).n (gD x.O (j3 x) (lI (cI x a) i)).f (x.O (cI x a i)).k (x.O (cI x a i)).o≠0):bhN x q a=0 /\ false=gu x.O (j3 x) (bl (eG x q a)):=by
  have e:gu x.O (j3 x) (bl (eG x q a))=false:=by
    rw [QS he hs]
    have hp:∀n,i<n ->gu x.O (j3 x) (lI (cI x a) n)=false:=by
      intro n
      induction n with
      |zero=>intro g;omega
      | succ n ih=>
        intro g
        rw [XR,JL]
        rcases (by omega:n=i \/ i<n) with rfl|g2
        · rw [decide_eq_false (show ¬JM (gD x.O (j3 x) (lI (cI x a) n)) (x.O (cI x a n))=0 from h),Bool.and_false]
        · rw [ih g2];rfl
    exact hp q hi
  unfold bhN;rw [e];exact ⟨rfl,rfl⟩
theorem ajv {x:bF} (he:cB x=0) {q:Nat} {a:Nat ->Int} (hs:fK x.S x.m q a=true) (h:gu x.O (j3 x) (lI (cI x a) q)=true):gu x.O (j3 x) (bl (eG x q a))=true /\ gD x.O (j3 x) (bl (eG x q a))=gD x.O (j3 x) (lI (cI x a) q):=by
  rw [QS he hs];exact ⟨h,rfl⟩
theorem afG {x:bF} (hx:x.Ok) (he:cB x=0) {l:List Nat} (h:gu x.O (j3 x) l=true):(gD x.O (j3 x) l).Ok:=yG ⟨(of_decide_eq_true (cK he).2.1).1,hx.f⟩ h
theorem aju {x:bF} {c:Nat ->Nat} {i:Nat} (h:gu x.O (j3 x) (lI c i)=true) (h2:CZ (gD x.O (j3 x) (lI c i)).n (gD x.O (j3 x) (lI c i)).f (x.O (c i)).k (x.O (c i)).o=0):gu x.O (j3 x) (lI c (i+1))=true:=by rw [XR];exact Rf h h2
def Qc (S:Nat ->aK) (m q:Nat) (a:Nat ->Int) (i:Nat):Nat ->Bool
  |0=>iX q a (S i).nu
  |j+1=>Qc S m q a i j||(eY S m (eT S m (a j))).testBit i
theorem Mf (S:Nat ->aK) (m q:Nat) (a:Nat ->Int) (i:Nat):Qc S m q a i 0=iX q a (S i).nu:=rfl
theorem ZR {S:Nat ->aK} {m q:Nat} {a:Nat ->Int} {i:Nat}:∀j,Qc S m q a i j=true↔iX q a (S i).nu=true \/ ∃u,u<j /\ (eY S m (eT S m (a u))).testBit i=true
  |0=>by simp [Qc]
  | j + 1=>by
    show (Qc S m q a i j||_)=true↔_
    rw [Bool.or_eq_true,ZR j]
    constructor
    · rintro ((h|⟨u,h1,h2⟩)|h)
      · exact Or.inl h
      · exact Or.inr ⟨u,by omega,h2⟩
      · exact Or.inr ⟨j,by omega,h⟩
    · rintro (h|⟨u,h1,h2⟩)
      · exact Or.inl (Or.inl h)
      · rcases (by omega:u=j \/ u<j) with rfl|g
        · exact Or.inr h2
        · exact Or.inl (Or.inr ⟨u,g,h2⟩)
theorem afY {x:bF} (he:cB x=0) {q:Nat} {a:Nat ->Int} (hs:fK x.S x.m q a=true):jE x.S (fun i=>Qc x.S x.m q a i q) x.m=jE x.S (iR (dU x) (eG x q a)).testBit x.m:=by
  obtain ⟨hv,_,_,_,hm,_⟩:=cK he
  have hin:iV x.m (eG x q a):=qI fun i hi=>of_decide_eq_true hs i hi
  refine Ar x.m fun i hi=> ?_
  rw [Bool.eq_iff_iff,ZR,ow (Nat.lt_of_lt_of_le hin (j4 hm)),vI he hs hi]
  refine or_congr Iff.rfl ⟨fun ⟨u,hu,h⟩=>⟨_,(jS q).2 ⟨u,hu,rfl⟩,h⟩,fun ⟨k,hk,h⟩=> ?_⟩
  obtain ⟨u,hu,e⟩:=(jS q).1 hk
  exact ⟨u,hu,by rw [e];exact h⟩
theorem afn {S:Nat ->aK} {m q j u:Nat} {a:Nat ->Int} (hj:(j:Int)<q) (hu:(u:Int)<(S (eT S m (a j))).q) (h:iX q a ((S (eT S m (a j))).a u)=false):false=KA S m q a:=(decide_eq_false fun g=>by rw [g j (by omega) u (by omega)] at h;cases h).symm
theorem ahu {S:Nat ->aK} {m q j:Nat} {a:Nat ->Int} (hj:(q:Int)<=j) (h:∀j',j'<j ->∀u,u<(S (eT S m (a j'))).q ->iX q a ((S (eT S m (a j'))).a u)=true):true=KA S m q a:=(decide_eq_true fun i hi=>h i (by omega)).symm
theorem adl {a b:Bool} (h:a=false \/ b=false):(a&&b)=false:=by rcases h with h|h<;>simp [h]
theorem acr (x:bF) (a:Nat ->Int) (i:Nat):eT x.S x.m (a i)=cI x a i:=rfl
theorem acX (S:Nat ->aK) (m:Nat) (hv:vsB S m=true) (hm:m<=10) (hq:∀i,i<m ->(S i).q<=9223372036854775807) (q:Nat) (a:Nat ->Int) (hqq:q<=9223372036854775807) (hs:fK S m q a=true):au Tryz.prog 76 [.one (.lst 2 m (fA S)),.one (.lst 1 q (bG a))] (.t (.one (.g (.bool (KA S m q a))))):=by
  have hsx:=wz hv hs
  have mk0:True:=trivial
  have hij:True:=trivial
  refine ah Tryz.func76 rfl (by rw [Tryz.ntmps76];simp) ?_
  simp only [Tryz.ntmps76,zM,PT.tv,ak,Nat.zero_add,Nat.reduceAdd]
  repeat' (first
 |((with_reducible show AW _ _ _ _);first
 |(with_reducible first|refine aS (fun K hK=> ?_)|refine aI ?_|refine aX ?_|refine aT ?_|refine aC ?_|refine aB ?_)
 |(first
 |(with_reducible first|refine aP 0 [0,1] ?_|refine aP 1 [0,1] ?_|refine aP 2 [0,1,5] ?_|refine aP 3 [0,1,5] ?_|refine aP 4 [0,1,5] ?_|refine aP 5 [0,1,5,6] ?_|refine aP 6 [0,1,5,6,7] ?_|refine aP 7 [0,1,5,6,7] ?_|refine aP 8 [0,1,5,6,7] ?_|refine aP 9 [] ?_|refine aP 10 [] ?_))
 |((with_reducible show AW _ (Code.loop _) _ _);first
 |((with_reducible refine aL (c:=(Code.seq (Code.seq (Code.region 2 _ _) _) _)) (ι:=Nat) [0,1] (fun j=>[(5,iA .i64 (j:Int))]) (fun j=>[]) (fun j=>j<=q /\ (∀j',j'<j ->∀u,u<(S (eT S m (a j'))).q ->iX q a ((S (eT S m (a j'))).a u)=true)) (fun j=>q - j) 0 ?lg2 ?l12 ?l22 ?li2 ?lr2);(case' lg2=>rintro j _);(case' li2=>try (exact ⟨Nat.zero_le _,fun i hi=>absurd hi (Nat.not_lt_zero _)⟩));(case' lr2=>rintro j ⟨hj,haj⟩ KR hR2;simp only [bf,bN,hset,lk,if_true,if_false,xE,reduceIte,zN,bJ,bI,hij]))
 |((with_reducible refine aL (c:=(Code.seq (Code.seq (Code.region 6 _ _) _) _)) (ι:=Nat) [0,1,5,6] (fun u=>[(7,iA .i64 (u:Int))]) (fun u=>[]) (fun u=>u<=(S (eT S m (a j))).q /\ (∀u',u'<u ->iX q a ((S (eT S m (a j))).a u')=true)) (fun u=>(S (eT S m (a j))).q - u) 0 ?lg6 ?l16 ?l26 ?li6 ?lr6);(case' lg6=>rintro u _);(case' li6=>try (exact ⟨Nat.zero_le _,fun i hi=>absurd hi (Nat.not_lt_zero _)⟩));(case' lr6=>rintro u ⟨hu,hau⟩ KR hR6;simp only [bf,bN,hset,lk,if_true,if_false,xE,reduceIte,zN,bJ,bI,hij]))))
 |((first|(with_reducible refine And.intro ?_ ?_)|(with_reducible refine Need.mk ?_));focus (first|exact True.intro|omega))
 |(with_reducible refine aA ?_)
 |((with_reducible show aY _ _ _ _ _ _);first
 |((with_reducible refine aH ?_ ?_)<;>(intro hc;(try simp only [zB,zC,reduceCtorEq] at hc);((try (exfalso;omega));(try (clear mk0 hij;have hji:=(hsx.1 j (by omega)).1;have hij:=Bn hji;have hql:=MX hv hji)));(try (exfalso;contradiction)))))
 |((with_reducible show aN _ _ _ _ _ _ _ _ _ _);first
 |(refine aj (k:=32) kG (xG S m (by omega) hq (a j)) ?_ ?_)
 |(refine aj (k:=28) kJ (qh q a ((S (eT S m (a j))).a u) hqq) ?_ ?_))
 |((with_reducible refine hR2 _ (j+1) ?_);(try clear hR2 KR))
 |((with_reducible refine hR6 _ (u+1) ?_);(try clear hR6 KR))
 |((with_reducible refine Told.mk ?_);simp only [go_sem,reduceIte,reduceCtorEq,xA,xL,xD,xE,xM,xS,xB,bJ,bI,bG,hij]<;>((((try simp (disch:=omega) only [aJ,Int.natCast_add,Int.cast_ofNat_Int,and_true,true_and,and_self]);(repeat' (first|omega|(with_reducible refine And.intro ?_ ?_)|(exact all_succ (by assumption) (by assumption))|((exact all_succ (by assumption) (fun t ht=>hau t (by omega))))));done))))
 |((fail_if_success (with_reducible show AW _ _ _ _));simp (maxSteps:=2000000) only [go_sem,reduceIte,reduceCtorEq,xA,xL,xD,xE,xM,xS,xB,Tryz.f76,bJ,bI,bG,hij])
 |((with_reducible refine hK _ ?_);clear hK K)
 |(with_reducible apply_assumption -exfalso only [*]))
  all_goals (first|exact afn (by assumption) (by assumption) hc|exact ahu (by assumption) haj)
theorem ac1 (S:Nat ->aK) (m:Nat) (hv:vsB S m=true) (hm:m<=10) (hq:∀i,i<m ->(S i).q<=9223372036854775807) (y:Int) (hy:eT S m y<m):au Tryz.prog 71 [.one (.lst 2 m (fA S)),.one (.g (.int .i64 y))] (.tup [.one (.lst 1 (nU S m (eT S m y)).length (bG (zL (nU S m (eT S m y))))),.one (.g (.int .i64 (0)))]):=by
  have h:=KD S m hv hm hq (eT S m y) hy
  rwa [pE hy] at h
theorem adS (S:Nat ->aK) (m:Nat) (hv:vsB S m=true) (hm:m<=10) (hq:∀i,i<m ->(S i).q<=9223372036854775807) (q:Nat) (a:Nat ->Int) (hqq:q<=9223372036854775807) (hs:fK S m q a=true):au Tryz.prog 55 [.one (.lst 2 m (fA S)),.one (.lst 1 q (bG a))] (.t (.one (.lst 1 (jE S (fun i=>Qc S m q a i q) m).length (bG (zL (jE S (fun i=>Qc S m q a i q) m)))))):=by
  have hsx:=wz hv hs
  have hqm:=yH hv hs
  have mk0:True:=trivial
  have mk1:True:=trivial
  have mk2:True:=trivial
  have hbh:True:=trivial
  refine ah Tryz.func55 rfl (by rw [Tryz.ntmps55];simp) ?_
  simp only [Tryz.ntmps55,zM,PT.tv,ak,Nat.zero_add,Nat.reduceAdd]
  repeat' (first
 |((with_reducible show AW _ _ _ _);first
 |(with_reducible first|refine aS (fun K hK=> ?_)|refine aI ?_|refine aX ?_|refine aT ?_|refine aC ?_|refine aB ?_)
 |(first
 |(with_reducible first|refine aP 0 [0,1] ?_|refine aP 1 [0,1] ?_|refine aP 2 [0,1,5] ?_|refine aP 3 [0,1,5,6] ?_|refine aP 4 [0,1,5,6] ?_|refine aP 5 [0,1,5,6] ?_|refine aP 6 [0,1,5,6,7] ?_|refine aP 7 [0,1,5,6,7,8] ?_|refine aP 8 [0,1,5,6,7,8] ?_|refine aP 9 [0,1,5,6,7,8] ?_|refine aP 10 [0,1,5,6,7,8,9] ?_|refine aP 11 [0,1,5,6,7] ?_|refine aP 12 [0,1,5,6] ?_|refine aP 13 [5] ?_))
 |((with_reducible show AW _ (Code.loop _) _ _);first
 |((with_reducible refine aL (c:=(Code.seq (Code.seq (Code.region 3 _ _) _) _)) (ι:=Nat) [0,1] (fun i=>[(5,.t (.one (.slc 0 0 (jE S (fun i=>Qc S m q a i q) i).length 1))),(6,iA .i64 (i:Int))]) (fun i=>[(0,dL (jE S (fun i=>Qc S m q a i q) i))]) (fun i=>i<=m) (fun i=>m - i) 0 ?lg3 ?l13 ?l23 ?li3 ?lr3);(case' lg3=>rintro i _);(case' li3=>try (omega));(case' lr3=>rintro i hi KR hR3;simp only [bf,bN,hset,lk,if_true,if_false,xE,reduceIte,zN,bJ,bI,Mf,hbh,lN,maxLen,aZ,bH,aW]))
 |((with_reducible refine aL (c:=(Code.seq (Code.seq (Code.region 7 _ _) _) _)) (ι:=Nat) [0,1,5,6] (fun j=>[(7,.t (.one (.iv (.g (.bool (Qc S m q a i j)))))),(8,iA .i64 (j:Int))]) (fun j=>[]) (fun j=>j<=q) (fun j=>q - j) 0 ?lg7 ?l17 ?l27 ?li7 ?lr7);(case' lg7=>rintro j _);(case' li7=>try (omega));(case' lr7=>rintro j hj KR hR7;simp only [bf,bN,hset,lk,if_true,if_false,xE,reduceIte,zN,bJ,bI,Mf,hbh,lN,maxLen,aZ,bH,aW]))))
 |((first|(with_reducible refine And.intro ?_ ?_)|(with_reducible refine Need.mk ?_));focus (first|exact True.intro|omega|(intro _;(with_reducible assumption))|(intros;(repeat' (first|omega|(with_reducible refine And.intro ?_ ?_)));done)|(simp;done)))
 |(with_reducible refine aA ?_)
 |((with_reducible show aY _ _ _ _ _ _);first
 |((with_reducible refine aH ?_ ?_)<;>(intro hc;(try simp only [zB,zC,reduceCtorEq] at hc);((try (exfalso;omega));(try (clear mk0;have him:i<m:=(by omega);have hnl:=wD S (fun i=>Qc S m q a i q) i));(try (clear mk1 hbh;have hji:=(hsx.1 j (by omega)).1;have hbl:=Dz S m (eT S m (a j));have hbh:=Ez hv hm hji him));(try (clear mk2;have ej:j=q:=(by omega);subst ej)));(try (exfalso;contradiction)))))
 |((with_reducible show aN _ _ _ _ _ _ _ _ _ _);first
 |(refine aj (k:=71) za (ac1 S m hv hm hq (a j) hji) ?_ ?_)
 |(refine aj (k:=28) kJ (qh q a (S i).nu hqq) ?_ ?_))
 |((with_reducible show bK _ _ _ _ _ _ _ _ _ _);(refine aQ (k:=28) kJ (fun hg=>qh (nU S m (eT S m (a j))).length (zL (nU S m (eT S m (a j)))) (S i).nu (by omega)) ?_ ?_))
 |((with_reducible refine hR3 _ (i+1) ?_);(try clear hR3 KR))
 |((with_reducible refine hR7 _ (j+1) ?_);(try clear hR7 KR))
 |((with_reducible refine Told.mk ?_);simp only [go_sem,reduceIte,reduceCtorEq,xA,xL,xD,xE,xM,xS,xB,bJ,bI,bG,Mf,hbh,lN,maxLen,aZ,bH,aW]<;>((((try simp (disch:=omega) only [aJ,Int.natCast_add,Int.cast_ofNat_Int,and_true,true_and,and_self]);(repeat' (first|omega|rfl|(with_reducible refine And.intro ?_ ?_)|((exact bO rfl (bU _)))|((rw [Dh (by assumption)];first|exact bO rfl (bU _)|(simp;done)))|((rw [oD (by assumption)];exact bO rfl (bU _)))|((rw [oD (by assumption)]))));done))))
 |((fail_if_success (with_reducible show AW _ _ _ _));simp (maxSteps:=2000000) only [go_sem,reduceIte,reduceCtorEq,xA,xL,xD,xE,xM,xS,xB,Tryz.f55,bJ,bI,bG,Mf,hbh,lN,maxLen,aZ,bH,aW])
 |((with_reducible refine hK _ ?_);clear hK K)
 |(with_reducible apply_assumption -exfalso only [*]))
  all_goals ((have e0:i=m:=(by omega);subst e0;exact ⟨fun c hc9=>(by have:=bU _ c hc9;cases c<;>trivial),rfl,fun i o hi ho=>p9 _ i o hi ho⟩))
theorem TJ (x:bF) (hx:x.Ok) (he:cB x=0) (q:Nat) (a:Nat ->Int) (hqq:q<=9223372036854775807) (hs:fK x.S x.m q a=true):au Tryz.prog 44 [.one (.lst 9 x.n (bq x.f)),.one (.lst 2 x.m (fA x.S)),.one (.lst 1 x.mo (iJ x.O)),.one (.lst 1 q (bG a))] (.tup [.one (.lst 9 (bhN x q a) (bq (bhF x q a))),.one (.g (.bool (gu x.O (j3 x) (bl (eG x q a)))))]):=by
  have hxm:=hx.m
  obtain ⟨hv,_,hmo,_,hm10,_⟩:=cK he
  have hsx:=wz hv hs
  have hqm:=yH hv hs
  have mk0:True:=trivial
  have hij:True:=trivial
  refine ah Tryz.func44 rfl (by rw [Tryz.ntmps44];simp) ?_
  simp only [Tryz.ntmps44,zM,PT.tv,ak,Nat.zero_add,Nat.reduceAdd]
  repeat' (first
 |((with_reducible show AW _ _ _ _);first
 |(with_reducible first|refine aS (fun K hK=> ?_)|refine aI ?_|refine aX ?_|refine aT ?_|refine aC ?_|refine aB ?_)
 |(first
 |(with_reducible first|refine aP 0 [0,1,2,3] ?_|refine aP 1 [0,1,2,3] ?_|refine aP 2 [1,2,3,10] ?_|refine aP 3 [1,2,3,10,11] ?_|refine aP 4 [1,2,3,10,11] ?_|refine aP 5 [1,2,3,10,11] ?_|refine aP 6 [1,2,3,11,12,14] ?_|refine aP 7 [] ?_|refine aP 8 [1,2,3,11,12] ?_|refine aP 9 [10] ?_))
 |((with_reducible show AW _ (Code.loop _) _ _);first
 |((with_reducible refine aL (c:=(Code.seq (Code.seq (Code.region 3 _ _) _) _)) (ι:=Nat) [1,2,3] (fun i=>[(10,.t (.one (.iv (.lst 9 (gD x.O (j3 x) (lI (cI x a) i)).n (bq (gD x.O (j3 x) (lI (cI x a) i)).f))))),(11,iA .i64 (i:Int))]) (fun i=>[]) (fun i=>i<=q /\ gu x.O (j3 x) (lI (cI x a) i)=true) (fun i=>q - i) 0 ?lg3 ?l13 ?l23 ?li3 ?lr3);(case' lg3=>rintro i _);(case' li3=>try (exact ⟨Nat.zero_le _,rfl⟩));(case' lr3=>rintro i ⟨hi,hrb⟩ KR hR3;simp only [bf,bN,hset,lk,if_true,if_false,xE,reduceIte,zN,bJ,bI,dD,hij,acr]))))
 |((first|(with_reducible refine And.intro ?_ ?_)|(with_reducible refine Need.mk ?_));focus (first|exact True.intro|omega))
 |(with_reducible refine aA ?_)
 |((with_reducible show aY _ _ _ _ _ _);first
 |((with_reducible refine aH ?_ ?_)<;>(intro hc;(try simp only [zB,zC,reduceCtorEq] at hc);((try (exfalso;omega));(try (clear mk0 hij;have hji:cI x a i<x.m:=(hsx.1 i (by omega)).1;have hij:Cj x.S x.m (a i)=((cI x a i:Nat):Int):=Bn hji;have hci:cI x a i<x.mo:=(by omega);have hRk:=afG hx he hrb;have hRn:=hRk.n)));(try (exfalso;contradiction)))))
 |((with_reducible show aN _ _ _ _ _ _ _ _ _ _);first
 |(refine aj (k:=32) kG (xG x.S x.m hx.m hx.q (a i)) ?_ ?_)
 |(refine aj (k:=77) Me (SN (gD x.O (j3 x) (lI (cI x a) i)).n (gD x.O (j3 x) (lI (cI x a) i)).f (x.O (cI x a i)).k (x.O (cI x a i)).o (by omega) hRk.f (hx.k _ hci) (hx.o _ hci)) ?_ ?_))
 |((with_reducible refine hR3 _ (i+1) ?_);(try clear hR3 KR))
 |((with_reducible refine Told.mk ?_);simp only [go_sem,reduceIte,reduceCtorEq,xA,xL,xD,xE,xM,xS,xB,bJ,bI,dD,bG,hij,acr]<;>((((try simp (disch:=omega) only [aJ,Int.natCast_add,Int.cast_ofNat_Int,and_true,true_and,and_self]);(repeat' (first|omega|(with_reducible refine And.intro ?_ ?_)|((exact Or.inl rfl))|((exact Or.inl (by rw [<- abD];rfl)))|((exact aju hrb (by assumption)))));done))))
 |((fail_if_success (with_reducible show AW _ _ _ _));simp (maxSteps:=2000000) only [go_sem,reduceIte,reduceCtorEq,xA,xL,xD,xE,xM,xS,xB,Tryz.f44,bJ,bI,dD,bG,hij,acr])
 |((with_reducible refine hK _ ?_);clear hK K)
 |(with_reducible apply_assumption -exfalso only [*]))
  all_goals (first|(have e:=aiX he hs (i:=i) (by omega) hc;exact e)|(have ei:q=i:=(by omega);subst ei;have e:=ajv he hs hrb;unfold bhN bhF;rw [if_pos e.1,e.2,e.1];exact ⟨⟨rfl,fun i o _ _=>IV.aG _⟩,rfl⟩))
theorem QH (x:bF) (hx:x.Ok) (he:cB x=0) (q:Nat) (a:Nat ->Int) (hqq:q<=9223372036854775807) (hs:fK x.S x.m q a=true):au Tryz.prog 43 [.one (.lst 9 x.n (bq x.f)),.one (.lst 2 x.m (fA x.S)),.one (.lst 1 x.mo (iJ x.O)),.one (.lst 1 q (bG a))] (.t (.one (.g (.bool (dS (iU x) (eG x q a)))))):=by
  have hxm:=hx.m
  obtain ⟨hv,_,hmo,_,hm10,_⟩:=cK he
  have hpn:Kl (x0 x)=(mg x).length:=ND (ajc he)
  have hpl:=RP x hm10
  have mk0:True:=trivial
  have mk1:True:=trivial
  refine ah Tryz.func43 rfl (by rw [Tryz.ntmps43];simp) ?_
  simp only [Tryz.ntmps43,zM,PT.tv,ak,Nat.zero_add,Nat.reduceAdd]
  repeat' (first
 |((with_reducible show AW _ _ _ _);first
 |(with_reducible first|refine aS (fun K hK=> ?_)|refine aI ?_|refine aX ?_|refine aT ?_|refine aC ?_|refine aB ?_)
 |(first
 |(with_reducible first|refine aP 0 [0,1,2,3] ?_|refine aP 1 [0,1,2,3] ?_|refine aP 2 [] ?_|refine aP 3 [0,1,2,3] ?_|refine aP 4 [0,1,2,3,9] ?_|refine aP 5 [0,1,2,3,9,11] ?_|refine aP 6 [0,1,2,3,9,11] ?_|refine aP 7 [0,1,2,3,9,11] ?_|refine aP 8 [] ?_|refine aP 9 [0,1,2,3] ?_|refine aP 10 [13] ?_))
 |((with_reducible show AW _ (Code.loop _) _ _);first
 |((with_reducible refine aL (c:=(Code.seq (Code.seq (Code.region 5 _ _) _) _)) (ι:=Nat) [0,1,2,3,9] (fun i=>[(11,iA .i64 (i:Int))]) (fun i=>[]) (fun i=>i<=(mg x).length /\ (∀i',i'<i ->(iX q a (BL x i' 0)&&iX q a (BL x i' 1))=false)) (fun i=>(mg x).length - i) 0 ?lg5 ?l15 ?l25 ?li5 ?lr5);(case' lg5=>rintro i _);(case' li5=>try (exact ⟨Nat.zero_le _,fun i hi=>absurd hi (Nat.not_lt_zero _)⟩));(case' lr5=>rintro i ⟨hi,hai⟩ KR hR5;simp only [bf,bN,hset,lk,if_true,if_false,xE,reduceIte,zN,bJ,bI,dD,MI,hpn]))))
 |((first|(with_reducible refine And.intro ?_ ?_)|(with_reducible refine Need.mk ?_));focus (first|exact True.intro|omega|(intro _;(with_reducible assumption))|(intros;(repeat' (first|omega|(with_reducible refine And.intro ?_ ?_)));done)))
 |(with_reducible refine aA ?_)
 |((with_reducible show aY _ _ _ _ _ _);first
 |((with_reducible refine aH ?_ ?_)<;>(intro hc;(try simp only [zB,zC,reduceCtorEq] at hc);((try (exfalso;omega));(try (clear mk0;have hcl:KA x.S x.m q a=true:=hc));(try (clear mk1;have hff:=adl hc)));(try (exfalso;contradiction)))))
 |((with_reducible show aN _ _ _ _ _ _ _ _ _ _);first
 |(refine aj (k:=76) Np (acX x.S x.m hv hm10 hx.q q a hqq hs) ?_ ?_)
 |(refine aj (k:=13) Dj (Tm x hx) ?_ ?_)
 |(refine aj (k:=28) kJ (qh q a (BL x i 0) hqq) ?_ ?_)
 |(refine aj (k:=44) E8 (TJ x hx he q a hqq hs) ?_ ?_))
 |((with_reducible show bK _ _ _ _ _ _ _ _ _ _);(refine aQ (k:=28) kJ (fun hg=>qh q a (BL x i 1) hqq) ?_ ?_))
 |((with_reducible refine hR5 _ (i+1) ?_);(try clear hR5 KR))
 |((with_reducible refine Told.mk ?_);simp only [go_sem,reduceIte,reduceCtorEq,xA,xL,xD,xE,xM,xS,xB,bJ,bI,dD,bG,MI,hpn]<;>((((try simp (disch:=omega) only [aJ,Int.natCast_add,Int.cast_ofNat_Int,and_true,true_and,and_self]);(repeat' (first|omega|(with_reducible refine And.intro ?_ ?_)|(exact all_succ (by assumption) (by assumption))));done))))
 |((fail_if_success (with_reducible show AW _ _ _ _));simp (maxSteps:=2000000) only [go_sem,reduceIte,reduceCtorEq,xA,xL,xD,xE,xM,xS,xB,Tryz.f43,bJ,bI,dD,bG,MI,hpn])
 |((with_reducible refine hK _ ?_);clear hK K)
 |(with_reducible apply_assumption -exfalso only [*]))
  all_goals (first|exact ae3 he hs hc|exact (Xf he hs (by omega) hc).symm|exact afU he hs hcl (fun i' h=>hai i' (by omega)))
theorem acS (x:bF) (hx:x.Ok) (q:Nat) (a:Nat ->Int) (hqq:q<=9223372036854775807) (he:cB x=1):au Tryz.prog 16 [.one (.lst 9 x.n (bq x.f)),.one (.lst 2 x.m (fA x.S)),.one (.lst 1 x.mo (iJ x.O)),.one (.lst 1 q (bG a))] (.tup [.one (.g (.bool (iN x q a))),.one (.g (.int .i64 (fH x q a)))]):=by
  refine ah Tryz.func16 rfl (by rw [Tryz.ntmps16];simp) ?_
  simp only [Tryz.ntmps16,zM,PT.tv,ak,Nat.zero_add,Nat.reduceAdd]
  repeat' (first
 |((with_reducible show bK _ _ false _ _ _ _ _ _ _);(with_reducible refine eO (fun h=>by cases h) (fun _=> ?_)))
 |((with_reducible show iT _ _ false _ _ _ _);(with_reducible refine iy (fun h=>by cases h) (fun _=> ?_)))
 |((with_reducible show AW _ _ _ _);first
 |(with_reducible first|refine aS (fun K hK=> ?_)|refine aT ?_|refine aC ?_)
 |(first
 |(with_reducible first|refine aP 0 [0,1,2,3] ?_|refine aP 1 [0,1,2,3] ?_|refine aP 2 [0,1,2,3,10] ?_|refine aP 3 [] ?_)))
 |((first|(with_reducible refine And.intro ?_ ?_)|(with_reducible refine Need.mk ?_));focus (exact True.intro))
 |(with_reducible refine aA ?_)
 |((with_reducible show aY _ _ _ _ _ _);first
 |((with_reducible refine aH ?_ ?_)<;>(intro hc;(try simp only [zB,zC,reduceCtorEq] at hc);((try (exfalso;omega)));(try (exfalso;contradiction)))))
 |((with_reducible show aN _ _ _ _ _ _ _ _ _ _);first
 |(refine aj (k:=38) jC (kR x hx) ?_ ?_))
 |((fail_if_success (with_reducible show AW _ _ _ _));simp (maxSteps:=2000000) only [go_sem,reduceIte,reduceCtorEq,xA,xL,xD,xE,xM,xS,xB,Tryz.f16,he])
 |((with_reducible refine hK _ ?_);clear hK K))
  all_goals ((have e:=Zj (q:=q) (a:=a) he;have e2:=qE (x:=x) (q:=q) (a:=a) (by omega);rw [e,e2.2];exact ⟨rfl,rfl⟩))
theorem adB (x:bF) (hx:x.Ok) (q:Nat) (a:Nat ->Int) (hqq:q<=9223372036854775807) (he:cB x≠1) (hv:vsB x.S x.m=true):au Tryz.prog 16 [.one (.lst 9 x.n (bq x.f)),.one (.lst 2 x.m (fA x.S)),.one (.lst 1 x.mo (iJ x.O)),.one (.lst 1 q (bG a))] (.tup [.one (.g (.bool (iN x q a))),.one (.g (.int .i64 (fH x q a)))]):=by
  have mk0:True:=trivial
  have mk1:True:=trivial
  refine ah Tryz.func16 rfl (by rw [Tryz.ntmps16];simp) ?_
  simp only [Tryz.ntmps16,zM,PT.tv,ak,Nat.zero_add,Nat.reduceAdd]
  repeat' (first
 |((with_reducible show AW _ _ _ _);first
 |(with_reducible first|refine aS (fun K hK=> ?_)|refine aI ?_|refine aT ?_|refine aC ?_)
 |(first
 |(with_reducible first|refine aP 0 [0,1,2,3] ?_|refine aP 1 [0,1,2,3] ?_|refine aP 2 [0,1,2,3,10] ?_|refine aP 3 [] ?_|refine aP 4 [0,1,2,3,10] ?_|refine aP 5 [10] ?_|refine aP 6 [0,1,2,3] ?_)))
 |((first|(with_reducible refine And.intro ?_ ?_)|(with_reducible refine Need.mk ?_));focus (first|exact True.intro|(intro _;(with_reducible assumption))|(simp;done)))
 |(with_reducible refine aA ?_)
 |((with_reducible show aY _ _ _ _ _ _);first
 |((with_reducible refine aH ?_ ?_)<;>(intro hc;(try simp only [zB,zC,reduceCtorEq] at hc);((try (exfalso;omega));(try (clear mk0;have hsb:fK x.S x.m q a=true:=hc.2));(try (clear mk1;have h0:cB x=0:=hc)));(try (exfalso;contradiction)))))
 |((with_reducible show aN _ _ _ _ _ _ _ _ _ _);first
 |(refine aj (k:=38) jC (kR x hx) ?_ ?_)
 |(refine aj (k:=43) rA (QH x hx h0 q a hqq hsb) ?_ ?_))
 |((with_reducible show bK _ _ _ _ _ _ _ _ _ _);first
 |(refine aQ (k:=42) Om (fun hg=>abZ x.S x.m hx.m hx.q hv q a hqq) ?_ ?_))
 |((fail_if_success (with_reducible show AW _ _ _ _));simp (maxSteps:=2000000) only [go_sem,reduceIte,reduceCtorEq,xA,xL,xD,xE,xM,xS,xB,Tryz.f16])
 |((with_reducible refine hK _ ?_);clear hK K))
  all_goals (first|(have e:fH x q a=1:=Gz (hc.resolve_left he);have e2:=qE (x:=x) (q:=q) (a:=a) (by omega);rw [e,e2.2];exact ⟨rfl,rfl⟩)|(have e:=Bh he hsb;have e2:=qE (x:=x) (q:=q) (a:=a) (by omega);rw [e,e2.2];exact ⟨rfl,rfl⟩)|(have e:=Bh he hsb;rw [h0] at e;have k:=uh e;exact ⟨k.2.2.2.symm,e.symm⟩))
theorem agE {x:bF} (h:cB x≠1):vsB x.S x.m=true:=by
  cases e:vsB x.S x.m with
  |true=>rfl
  |false=>exact absurd (ac3 (Or.inl e)).symm h
theorem UG (x:bF) (hx:x.Ok) (q:Nat) (a:Nat ->Int) (hqq:q<=9223372036854775807):au Tryz.prog 16 [.one (.lst 9 x.n (bq x.f)),.one (.lst 2 x.m (fA x.S)),.one (.lst 1 x.mo (iJ x.O)),.one (.lst 1 q (bG a))] (.tup [.one (.g (.bool (iN x q a))),.one (.g (.int .i64 (fH x q a)))]):=by
  by_cases he:cB x=1
  · exact acS x hx q a hqq he
  · exact adB x hx q a hqq he (agE he)
theorem agc {x:bF} {q:Nat} {a:Nat ->Int} (h:fH x q a=0) (hb:iN x q a=true):bhN x q a=GL x q a /\ bhF x q a=pW x q a /\ 0=K7 x q a:=by
  obtain ⟨he,hs,hin,hB⟩:=uh h
  have e:=YM h hb
  rw [hB] at hb
  have hr:gu x.O (j3 x) (bl (eG x q a))=true:=by
    rw [Jz,Bool.and_eq_true] at hb;exact hb.2
  refine ⟨?_,rfl,e.1.symm⟩
  rw [e.2]
  unfold bhN rX Ht
  rw [if_pos hr,if_pos h,if_pos hb];rfl
theorem ade (x:bF) (hx:x.Ok) (q:Nat) (a:Nat ->Int) (hqq:q<=9223372036854775807):au Tryz.prog 18 [.one (.lst 9 x.n (bq x.f)),.one (.lst 2 x.m (fA x.S)),.one (.lst 1 x.mo (iJ x.O)),.one (.lst 1 q (bG a))] (.tup [.one (.lst 9 (GL x q a) (bq (pW x q a))),.one (.g (.int .i64 (K7 x q a)))]):=by
  have mk0:True:=trivial
  refine ah Tryz.func18 rfl (by rw [Tryz.ntmps18];simp) ?_
  simp only [Tryz.ntmps18,zM,PT.tv,ak,Nat.zero_add,Nat.reduceAdd]
  repeat' (first
 |((with_reducible show AW _ _ _ _);first
 |(with_reducible first|refine aS (fun K hK=> ?_)|refine aI ?_|refine aT ?_|refine aC ?_)
 |(first
 |(with_reducible first|refine aP 0 [0,1,2,3] ?_|refine aP 1 [0,1,2,3] ?_|refine aP 2 [0,1,2,3,10,11] ?_|refine aP 3 [11] ?_|refine aP 4 [0,1,2,3,10] ?_|refine aP 5 [] ?_|refine aP 6 [0,1,2,3] ?_|refine aP 7 [12] ?_)))
 |((first|(with_reducible refine And.intro ?_ ?_)|(with_reducible refine Need.mk ?_));focus (exact True.intro))
 |(with_reducible refine aA ?_)
 |((with_reducible show aY _ _ _ _ _ _);first
 |((with_reducible refine aH ?_ ?_)<;>(intro hc;(try simp only [zB,zC,reduceCtorEq] at hc);((try (exfalso;omega));(try (clear mk0;have h0:fH x q a=0:=hc)));(try (exfalso;contradiction)))))
 |((with_reducible show aN _ _ _ _ _ _ _ _ _ _);first
 |(refine aj (k:=16) Dy (UG x hx q a hqq) ?_ ?_)
 |(refine aj (k:=44) E8 (TJ x hx (uh h0).1 q a hqq (uh h0).2.1) ?_ ?_))
 |((fail_if_success (with_reducible show AW _ _ _ _));simp (maxSteps:=2000000) only [go_sem,reduceIte,reduceCtorEq,xA,xL,xD,xE,xM,xS,xB,Tryz.f18])
 |((with_reducible refine hK _ ?_);clear hK K))
  all_goals (first|(have e:=Xu (x:=x) (q:=q) (a:=a) hc;rw [e.1,e.2];exact ⟨rfl,rfl⟩)|(have e:=Y9 (x:=x) (q:=q) (a:=a) h0 hc;rw [e.1,e.2];exact ⟨rfl,rfl⟩)|(have e:=agc (x:=x) (q:=q) (a:=a) h0 hc;rw [e.1,e.2.1,<- e.2.2];exact ⟨⟨rfl,fun i o _ _=>IV.aG _⟩,rfl⟩))
end Go.Proofs.YtmnejmpjmniiiaaGreatDoor
