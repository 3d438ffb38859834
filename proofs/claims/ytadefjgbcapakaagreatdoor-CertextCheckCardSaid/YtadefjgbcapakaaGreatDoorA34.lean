/-
  CertextCheck: the law returns true whatever the input; machine, functions, plain law (part 34 of 47.)
-/
import Derived.Test.YtadefjgbcapakaaGreatDoorA33
set_option linter.unusedVariables false
set_option linter.unusedSimpArgs false
namespace Go.Proofs.YtadefjgbcapakaaGreatDoor.Pl
open IntKind (i64)
open Go Vm
abbrev Att:Type:=Bs×Int×Bs
def Ht (e:Att) (seen:List Att):Int :=
  if DL e.1=none then 11
  else if e.2.2=[]∨Lu e.2.1 e.2.2=false then 13
  else if 64<e.2.2.length then 2
  else if seen.any (fun x=>x.1==e.1)=true then 10 else 0
theorem AkO (N:Nat) (q:List Att) (e:Att) (hl:q.length<N) (hs:q.length≤1048576) (fin:Unit→Option Int) :
    Ak (X:=Int×Bs×Int×Bs) (Y:=Unit) (U4 fun t43b b33792_0b b33792_1b b33792_2b k3 x4 =>
                         bif decide (t43b< ↑q.length)then
                           Vm.chk (decide (0≤t43b))
                             (Vm.chk (decide (t43b< ↑q.length))
                               (bif (q.getD t43b.toNat ([],0,[])).1==b33792_0b then
                                 some 10
                               else k3 (i64.wrap (t43b+1),b33792_0b,b33792_1b,b33792_2b)))
                         else x4 ()) N (0,e.1,e.2.1,e.2.2) fin=if q.any (fun x=>x.1==e.1)=true then some 10 else fin ():=by
  refine Eq.trans (Ez (S:=Unit) (mk:=fun i _=>(i,e.1,e.2.1,e.2.2)) (out:=fun a=>a) q ([],0,[]) (fun _ _=>True) (fun x (_:Unit)=>if(!(x.1==e.1))=true then .inr ()else .inl (some 10)) ?_ ?_ N () trivial hl) ?_
  ·intro i a hi _
   refine Io (p:=fun x:Att=> !(x.1==e.1)) (fun h k=> ?_) (fun h=>⟨fun k=> ?_,trivial⟩)
   ·dsimp only[U4]
    have h':((q.getD i ([],0,[])).1==e.1)=true:=by simpa using h
    rw[show((i:Int)).toNat=i by omega,decide_eq_true (by omega),cond_true,decide_eq_true (by omega),Aj,Aj,h',cond_true]
   ·dsimp only[U4]
    have h':((q.getD i ([],0,[])).1==e.1)=false:=by simpa using h
    rw[show((i:Int)).toNat=i by omega,decide_eq_true (by omega),cond_true,decide_eq_true (by omega),Aj,Aj,h',cond_false,w64 (by omega) (by omega)]
  ·intro a k _
   dsimp only[U4]
   rw[decide_eq_false (by omega),cond_false]
  ·rw[OA (p:=fun x:Att=> !(x.1==e.1))]
   rw[show q.any (fun x=>x.1==e.1)= !(q.all fun x=> !(x.1==e.1)) by rw[List.not_all_eq_any_not];simp]
   cases q.all fun x=> !(x.1==e.1)<;>rfl
def RN (e:Att):Prop:=e.1.length≤1048576∧e.2.2.length≤1048576
def L6 (e:Att) (seen:List Att):Option Int ⊕ List Att:=if Ht e seen=0 then .inr (seen++[e])else .inl (some (Ht e seen))
def AfC (p:List Att):Option Int:=Jg L6 (fun _=>some 0) p []
theorem nD (v:Bs):(v==[])=decide (v=[]):=by cases v<;>rfl
theorem AgW (N:Nat) (p:List Att) (hN:1048578<N) (hp: ∀ e∈p,RN e):ER N p=if p=[]then some 14 else if 4<p.length then some 2 else AfC p:=by
  unfold ER
  try simp only[clR]
  by_cases h0:p=[]
  ·subst h0;rfl
  ·have hpos:=List.length_pos_iff.2 h0
   have hb:(((p.length:Nat):Int)==0)=false:=beq_false_of_ne (by omega)
   rw[hb,cond_false,if_neg h0]
   by_cases h4:4<p.length
   ·rw[if_pos h4,decide_eq_true (by omega),cond_true]
   ·rw[if_neg h4,decide_eq_false (by omega),cond_false]
    refine Rt (S:=List Att) (mk:=fun i _=>i) p ([],0,[]) (fun i s=>s=p.take i) L6 (fun _=>some 0) ?_ ?_ N [] rfl (by omega)
    ·intro i s hi hs
     subst hs
     have hm:=hp p[i] (List.getElem_mem hi)
     have hcut:AO p 0 i=p.take i:=rfl
     have htk:p.take i++[p[i]]=p.take (i+1):=by rw[List.take_add_one,List.getElem?_eq_getElem hi];rfl
     have hlt:(p.take i).length≤4:=by rw[List.length_take];omega
     rw[getD_lt p i _ hi]
     generalize he:p[i]=e at hm htk
     have ho:=(TS N e.1 (by omega) hm.1 (by have:=hm.1;omega)).1
     have ht:=AdK N e.2.1 e.2.2 (by have:=hm.2;omega) hm.2
     have hsl:=fun fin=>AkO N (p.take i) e (by omega) (by omega) fin
     unfold L6
     by_cases a1:DL e.1=none
     ·have hat:Ht e (p.take i)=11:=by unfold Ht;rw[if_pos a1]
      rw[hat,if_neg (by decide)]
      intro k
      dsimp only
      rw[show((i:Int)).toNat=i by omega,getD_lt p i _ hi,he,decide_eq_true (show(i:Int)<(p.length:Int) by omega),cond_true,decide_eq_true (show(0:Int)≤(i:Int) by omega),Aj,Aj,ho,Ae,a1]
      rfl
     ·have hsome:(DL e.1).isSome=true:=by cases hq:DL e.1 with
        | none=>exact absurd hq a1
        | some l=>rfl
      rw[hsome]at ho
      by_cases a2:e.2.2=[]∨Lu e.2.1 e.2.2=false
      ·have hat:Ht e (p.take i)=13:=by unfold Ht;rw[if_neg a1,if_pos a2]
       rw[hat,if_neg (by decide)]
       intro k
       dsimp only
       rw[show((i:Int)).toNat=i by omega,getD_lt p i _ hi,he,decide_eq_true (show(i:Int)<(p.length:Int) by omega),cond_true,decide_eq_true (show(0:Int)≤(i:Int) by omega),Aj,Aj,ho,Ae,ht,nD]
       rcases a2 with a2 | a2
       ·rw[decide_eq_true a2];rfl
       ·rw[a2];cases decide (e.2.2=[])<;>rfl
      ·have a3: ¬ e.2.2=[]:=fun h=>a2 (Or.inl h)
       have a4:Lu e.2.1 e.2.2=true:=by
         cases hq:Lu e.2.1 e.2.2 with
         | true=>rfl
         | false=>exact absurd (Or.inr hq) a2
       by_cases a5:64<e.2.2.length
       ·have hat:Ht e (p.take i)=2:=by unfold Ht;rw[if_neg a1,if_neg a2,if_pos a5]
        rw[hat,if_neg (by decide)]
        intro k
        dsimp only
        rw[show((i:Int)).toNat=i by omega,getD_lt p i _ hi,he,decide_eq_true (show(i:Int)<(p.length:Int) by omega),cond_true,decide_eq_true (show(0:Int)≤(i:Int) by omega),Aj,Aj,ho,Ae,ht,nD,decide_eq_false a3,a4]
        rw[decide_eq_true (show(e.2.2.length:Int)>64 by omega)]
        rfl
       ·have hat:Ht e (p.take i)=if(p.take i).any (fun x=>x.1==e.1)=true then 10 else 0:=by unfold Ht;rw[if_neg a1,if_neg a2,if_neg a5]
        have go: ∀ k:Int→Option Int,(bif decide ((i:Int)<(p.length:Int))then k (i64.wrap ((i:Int)+1))else none)=k ((i:Int)+1):=fun k=>by
          rw[decide_eq_true (by omega),cond_true,w64 (by omega) (by omega)]
        have hw:i64.wrap ((i:Int)+1)=(i:Int)+1:=w64 (by omega) (by omega)
        rw[hat]
        by_cases a6:(p.take i).any (fun x=>x.1==e.1)=true
        ·rw[if_pos a6,if_neg (by decide)]
         intro k
         dsimp only
         rw[show((i:Int)).toNat=i by omega,getD_lt p i _ hi,he,decide_eq_true (show(i:Int)<(p.length:Int) by omega),cond_true,decide_eq_true (show(0:Int)≤(i:Int) by omega),Aj,Aj,ho,Ae,ht,nD,decide_eq_false a3,a4,decide_eq_false (show ¬(e.2.2.length:Int)>64 by omega),decide_eq_true (show(i:Int)≤(p.length:Int) by omega),hcut,hsl,if_pos a6]
         rfl
        ·rw[if_neg a6,if_pos rfl]
         refine⟨fun k=> ?_,htk⟩
         dsimp only
         rw[show((i:Int)).toNat=i by omega,getD_lt p i _ hi,he,decide_eq_true (show(i:Int)<(p.length:Int) by omega),cond_true,decide_eq_true (show(0:Int)≤(i:Int) by omega),Aj,Aj,ho,Ae,ht,nD,decide_eq_false a3,a4,decide_eq_false (show ¬(e.2.2.length:Int)>64 by omega),decide_eq_true (show(i:Int)≤(p.length:Int) by omega),hcut,hsl,if_neg a6,hw]
         rfl
    ·intro s k _
     rw[decide_eq_false (by omega),cond_false]
theorem Ajl (N:Nat) (p:List Att) (i:Nat) (e:Att) (hi:i≤p.length) (hl:i<N) (hs:i≤1048576) (fin:Unit→Option Int) :
    Ak (X:=Int×Bs×Int×Bs) (Y:=Unit) (U4 fun t5b b33792_0b b33792_1b b33792_2b k3 x4 =>
                   bif decide (t5b<(i:Int))then
                     Vm.chk (decide (0≤t5b))
                       (Vm.chk (decide (t5b< ↑(List.length p)))
                         (bif (List.getD p t5b.toNat ([],0,[])).1==b33792_0b then some 10
                         else k3 (i64.wrap (t5b+1),b33792_0b,b33792_1b,b33792_2b)))
                   else x4 ()) N (0,e.1,e.2.1,e.2.2) fin=if(p.take i).any (fun x=>x.1==e.1)=true then some 10 else fin ():=by
  have hlen:(p.take i).length=i:=by rw[List.length_take];omega
  refine Eq.trans (Ez (S:=Unit) (mk:=fun i _=>(i,e.1,e.2.1,e.2.2)) (out:=fun a=>a) (p.take i) ([],0,[]) (fun _ _=>True) (fun x (_:Unit)=>if(!(x.1==e.1))=true then .inr ()else .inl (some 10)) ?_ ?_ N () trivial (by omega)) ?_
  ·intro j a hj _
   have hg:(p.take i).getD j ([],0,[])=p.getD j ([],0,[]):=by
     rw[getD_lt _ j _ hj,getD_lt p j _ (by omega),List.getElem_take]
   rw[hg]
   refine Io (p:=fun x:Att=> !(x.1==e.1)) (fun h k=> ?_) (fun h=>⟨fun k=> ?_,trivial⟩)
   ·dsimp only[U4]
    have h':((p.getD j ([],0,[])).1==e.1)=true:=by simpa using h
    rw[show((j:Int)).toNat=j by omega,decide_eq_true (by omega),cond_true,decide_eq_true (by omega),Aj,decide_eq_true (by omega),Aj,h',cond_true]
   ·dsimp only[U4]
    have h':((p.getD j ([],0,[])).1==e.1)=false:=by simpa using h
    rw[show((j:Int)).toNat=j by omega,decide_eq_true (by omega),cond_true,decide_eq_true (by omega),Aj,decide_eq_true (by omega),Aj,h',cond_false,w64 (by omega) (by omega)]
  ·intro a k _
   dsimp only[U4]
   rw[decide_eq_false (by omega),cond_false]
  ·rw[OA (p:=fun x:Att=> !(x.1==e.1))]
   rw[show(p.take i).any (fun x=>x.1==e.1)= !((p.take i).all fun x=> !(x.1==e.1)) by rw[List.not_all_eq_any_not];simp]
   cases (p.take i).all fun x=> !(x.1==e.1)<;>rfl
theorem mX (v:Bs):(((v.length:Nat):Int)==0)=decide (v=[]):=by
  cases v with
  | nil=>rfl
  | cons a r=>rw[decide_eq_false (by simp)];exact beq_false_of_ne (by rw[List.length_cons];omega)
theorem AcD (N:Nat) (p:List Att) (hN:1048578<N) (hp: ∀ e∈p,RN e) (h4:p.length≤4):Dh N p=AfC p:=by
  unfold Dh
  try simp only[clR]
  refine Rt (S:=List Att) (mk:=fun i _=>i) p ([],0,[]) (fun i s=>s=p.take i) L6 (fun _=>some 0) ?_ ?_ N [] rfl (by omega)
  ·intro i s hi hs
   subst hs
   have hm:=hp p[i] (List.getElem_mem hi)
   have htk:p.take i++[p[i]]=p.take (i+1):=by rw[List.take_add_one,List.getElem?_eq_getElem hi];rfl
   have hlt:(p.take i).length≤4:=by rw[List.length_take];omega
   rw[getD_lt p i _ hi]
   generalize he:p[i]=e at hm htk
   have ho:=(TS N e.1 (by omega) hm.1 (by have:=hm.1;omega)).2
   have ht:=jW N e.2.1 e.2.2 (by have:=hm.2;omega) hm.2 (by omega)
   have hsl:=fun fin=>Ajl N p i e (by omega) (by omega) (by omega) fin
   unfold L6
   by_cases a1:DL e.1=none
   ·have hat:Ht e (p.take i)=11:=by unfold Ht;rw[if_pos a1]
    rw[hat,if_neg (by decide)]
    intro k
    dsimp only
    rw[show((i:Int)).toNat=i by omega,getD_lt p i _ hi,he,decide_eq_true (show(i:Int)<(p.length:Int) by omega),cond_true,decide_eq_true (show(0:Int)≤(i:Int) by omega),Aj,Aj,ho,Ae,a1]
    rfl
   ·have hsome:(DL e.1).isSome=true:=by cases hq:DL e.1 with
      | none=>exact absurd hq a1
      | some l=>rfl
    rw[hsome]at ho
    by_cases a2:e.2.2=[]∨Lu e.2.1 e.2.2=false
    ·have hat:Ht e (p.take i)=13:=by unfold Ht;rw[if_neg a1,if_pos a2]
     rw[hat,if_neg (by decide)]
     intro k
     dsimp only
     rw[show((i:Int)).toNat=i by omega,getD_lt p i _ hi,he,decide_eq_true (show(i:Int)<(p.length:Int) by omega),cond_true,decide_eq_true (show(0:Int)≤(i:Int) by omega),Aj,Aj,ho,Ae,ht,mX]
     rcases a2 with a2 | a2
     ·rw[decide_eq_true a2];rfl
     ·rw[a2];cases decide (e.2.2=[])<;>rfl
    ·have a3: ¬ e.2.2=[]:=fun h=>a2 (Or.inl h)
     have a4:Lu e.2.1 e.2.2=true:=by
       cases hq:Lu e.2.1 e.2.2 with
       | true=>rfl
       | false=>exact absurd (Or.inr hq) a2
     by_cases a5:64<e.2.2.length
     ·have hat:Ht e (p.take i)=2:=by unfold Ht;rw[if_neg a1,if_neg a2,if_pos a5]
      rw[hat,if_neg (by decide)]
      intro k
      dsimp only
      rw[show((i:Int)).toNat=i by omega,getD_lt p i _ hi,he,decide_eq_true (show(i:Int)<(p.length:Int) by omega),cond_true,decide_eq_true (show(0:Int)≤(i:Int) by omega),Aj,Aj,ho,Ae,ht,mX,decide_eq_false a3,a4]
      rw[decide_eq_true (show(e.2.2.length:Int)>64 by omega)]
      rfl
     ·have hat:Ht e (p.take i)=if(p.take i).any (fun x=>x.1==e.1)=true then 10 else 0:=by unfold Ht;rw[if_neg a1,if_neg a2,if_neg a5]
      have go: ∀ k:Int→Option Int,(bif decide ((i:Int)<(p.length:Int))then k (i64.wrap ((i:Int)+1))else none)=k ((i:Int)+1):=fun k=>by
        rw[decide_eq_true (by omega),cond_true,w64 (by omega) (by omega)]
      have hw:i64.wrap ((i:Int)+1)=(i:Int)+1:=w64 (by omega) (by omega)
      rw[hat]
      by_cases a6:(p.take i).any (fun x=>x.1==e.1)=true
      ·rw[if_pos a6,if_neg (by decide)]
       intro k
       dsimp only
       rw[show((i:Int)).toNat=i by omega,getD_lt p i _ hi,he,decide_eq_true (show(i:Int)<(p.length:Int) by omega),cond_true,decide_eq_true (show(0:Int)≤(i:Int) by omega),Aj,Aj,ho,Ae,ht,mX,decide_eq_false a3,a4,decide_eq_false (show ¬(e.2.2.length:Int)>64 by omega),hsl,if_pos a6]
       rfl
      ·rw[if_neg a6,if_pos rfl]
       refine⟨fun k=> ?_,htk⟩
       dsimp only
       rw[show((i:Int)).toNat=i by omega,getD_lt p i _ hi,he,decide_eq_true (show(i:Int)<(p.length:Int) by omega),cond_true,decide_eq_true (show(0:Int)≤(i:Int) by omega),Aj,Aj,ho,Ae,ht,mX,decide_eq_false a3,a4,decide_eq_false (show ¬(e.2.2.length:Int)>64 by omega),hsl,if_neg a6,hw]
       rfl
  ·intro s k _
   rw[decide_eq_false (by omega),cond_false]
theorem Acx (p:List Att): ∃ v,AfC p=some v:=by
  have: ∀(l s:List Att),∃ v,Jg L6 (fun _=>some 0) l s=some v:=by
    intro l
    induction l with
    | nil=>intro s;exact⟨0,rfl⟩
    | cons e r ih =>
      intro s
      unfold Jg L6
      by_cases h:Ht e s=0
      ·rw[if_pos h];exact ih _
      ·rw[if_neg h];exact⟨_,rfl⟩
  exact this p []
def Lm (p:List Att):Int:=if p=[]then 14 else if 4<p.length then 2 else(AfC p).getD 0
theorem Ank (N:Nat) (p:List Att) (hN:1048578<N) (hp: ∀ e∈p,RN e):ER N p=some (Lm p):=by
  rw[AgW N p hN hp]
  unfold Lm
  obtain⟨v,hv⟩:=Acx p
  rw[hv]
  split
  ·rfl
  ·split<;>rfl
def Pn (p:List Att) (_:Unit):Option Int ⊕ Unit:=if Lm p=0 then .inr ()else .inl (some (Lm p))
def TF (n:List (List Att)):Option Int:=if 8<n.length then some 2 else Jg Pn (fun _=>some 0) n ()
def EG (n:List (List Att)):Prop:= ∀ p∈n,∀ e∈p,RN e
theorem AaJ (N:Nat) (n:List (List Att)) (hN:1048578<N) (hn:EG n):Iz N n=TF n:=by
  unfold Iz TF
  by_cases h8:8<n.length
  ·rw[if_pos h8,decide_eq_true (by omega),cond_true]
  ·rw[if_neg h8,decide_eq_false (by omega),cond_false]
   refine Rt (S:=Unit) (mk:=fun i _=>i) n [] (fun _ _=>True) Pn (fun _=>some 0) ?_ ?_ N () trivial (by omega)
   ·intro i s hi _
    rw[getD_lt n i [] hi]
    have hr:=Ank N n[i] hN (hn _ (List.getElem_mem hi))
    unfold Pn
    by_cases h:Lm n[i]=0
    ·rw[if_pos h]
     refine⟨fun k=> ?_,trivial⟩
     dsimp only
     rw[show((i:Int)).toNat=i by omega,getD_lt n i [] hi,decide_eq_true (by omega),cond_true,decide_eq_true (by omega),Aj,Aj,hr,Ae,h,w64 (by omega) (by omega)]
     rfl
    ·rw[if_neg h]
     intro k
     dsimp only
     rw[show((i:Int)).toNat=i by omega,getD_lt n i [] hi,decide_eq_true (by omega),cond_true,decide_eq_true (by omega),Aj,Aj,hr,Ae,show(Lm n[i] != 0)=true from bne_iff_ne.2 h,cond_true]
   ·intro s k _
    rw[decide_eq_false (by omega),cond_false]
theorem Aeq (N:Nat) (n:List (List Att)) (hN:1048578<N) (hn:EG n):ED N n=TF n:=by
  unfold ED TF
  by_cases h8:8<n.length
  ·rw[if_pos h8,decide_eq_true (by omega),cond_true]
  ·rw[if_neg h8,decide_eq_false (by omega),cond_false]
   refine Rt (S:=Unit) (mk:=fun i _=>i) n [] (fun _ _=>True) Pn (fun _=>some 0) ?_ ?_ N () trivial (by omega)
   ·intro i s hi _
    rw[getD_lt n i [] hi]
    have ha:=fun(h4:(n[i]).length≤4)=>AcD N n[i] hN (hn _ (List.getElem_mem hi)) h4
    obtain⟨v,hv⟩:=Acx n[i]
    have pre: ∀(A:Option Int) (K:List Att→Option Int),(bif decide ((i:Int)<(n.length:Int))then Vm.chk (decide ((0:Int)≤(i:Int))) (Vm.chk (decide ((i:Int)<(n.length:Int))) (K (n.getD (i:Int).toNat [])))else A)=K n[i]:=by
      intro A K
      rw[show((i:Int)).toNat=i by omega,getD_lt n i [] hi,decide_eq_true (by omega),cond_true,decide_eq_true (by omega),Aj,Aj]
    have key: ∀ k:Int→Option Int,(bif (((n[i].length:Nat):Int)==0)then some 14 else bif decide ((n[i].length:Int)>4)then some 2 else Ad (Dh N n[i]) fun r=>bif r != 0 then some r else k (i64.wrap ((i:Int)+1)))=if Lm n[i]=0 then k ((i:Int)+1)else some (Lm n[i]):=by
      intro k
      unfold Lm
      by_cases h0:n[i]=[]
      ·rw[h0];rfl
      ·have hpos:=List.length_pos_iff.2 h0
       rw[show(((n[i].length:Nat):Int)==0)=false from beq_false_of_ne (by omega),cond_false]
       simp only[if_neg h0]
       by_cases h4:4<n[i].length
       ·rw[decide_eq_true (by omega),cond_true];simp only[if_pos h4];rfl
       ·rw[decide_eq_false (by omega),cond_false,ha (by omega),hv,Ae,w64 (by omega) (by omega)]
        simp only[if_neg h4,Option.getD_some]
        by_cases hz:v=0
        ·rw[if_pos hz,hz];rfl
        ·rw[if_neg hz,show(v != 0)=true from bne_iff_ne.2 hz,cond_true]
    unfold Pn
    by_cases h:Lm n[i]=0
    ·rw[if_pos h]
     refine⟨fun k=> ?_,trivial⟩
     refine(pre _ (fun a=>bif (((a.length:Nat):Int)==0)then some 14 else bif decide ((a.length:Int)>4)then some 2 else Ad (Dh N a) fun r=>bif r != 0 then some r else k (i64.wrap ((i:Int)+1)))).trans ?_
     refine(key k).trans ?_
     rw[if_pos h]
    ·rw[if_neg h]
     intro k
     refine(pre _ (fun a=>bif (((a.length:Nat):Int)==0)then some 14 else bif decide ((a.length:Int)>4)then some 2 else Ad (Dh N a) fun r=>bif r != 0 then some r else k (i64.wrap ((i:Int)+1)))).trans ?_
     refine(key k).trans ?_
     rw[if_neg h]
   ·intro s k _
    rw[decide_eq_false (by omega),cond_false]
theorem Aev (N:Nat) (s:Bs) (c:UInt8) (hN:s.length+2<N) (hs:s.length≤1048576):Gz N s (c.toNat:Int)=some (Bo c s):=by
  unfold Gz
  try simp only[clR]
  refine Eq.trans (Fe (I:=fun x:Int×Int×List Bs=> ∃(a j:Nat) (acc:List Bs),x=((a:Int),(j:Int),acc)∧((a≤j∧j≤s.length∧c∉AO s a j)∨(a=s.length+1∧j=s.length+1))∧acc.length≤j) (μ :=fun x=>s.length+1 - x.2.1.toNat) (F:=fun x=>some (if x.1.toNat≤s.length then x.2.2++Bo c (s.drop x.1.toNat)else x.2.2)) ?_ N (0,0,[]) ⟨0,0,[],rfl,Or.inl ⟨Nat.le_refl _,Nat.zero_le _,by rw[Oq];exact List.not_mem_nil⟩,Nat.zero_le _⟩ (by show s.length+1 - 0<N;omega)) ?_
  ·rintro x ⟨a,j,acc,rfl,hi,hacc⟩ k hk
   dsimp only[U3]
   rw[show((a:Int)).toNat=a by omega,show((j:Int)).toNat=j by omega]
   rcases hi with ⟨h1,h2,h3⟩ | ⟨h1,h2⟩
   ·have hsplit:s.drop a=AO s a j++s.drop j:=by
      unfold AO
      conv=>lhs;rw[← List.take_append_drop j s]
      rw[List.drop_append_of_le_length (by rw[List.length_take];omega)]
    rw[decide_eq_true (show(j:Int)≤(s.length:Int) by omega),cond_true,decide_eq_true (show(0:Int)≤(j:Int) by omega)]
    simp only[Bool.true_or,Aj]
    by_cases hl:j<s.length
    ·rw[decide_eq_true (show(j:Int)<(s.length:Int) by omega),getD_lt s j 0 hl]
     simp only[Bool.true_or,Aj]
     rw[show(((j:Nat):Int)==((s.length:Nat):Int))=false from beq_false_of_ne (by omega),Bool.false_or]
     by_cases hc:s[j]=c
     ·rw[hc,show(((c.toNat:Nat):Int)==((c.toNat:Nat):Int))=true from beq_self_eq_true _,cond_true,decide_eq_true (by omega),Aj,decide_eq_true (by omega),Aj,decide_eq_true (by omega),Aj,w64 (by omega) (by omega),show((j:Int)+1)=((j+1:Nat):Int)from rfl]
      rw[hk _ ⟨j+1,j+1,_,rfl,Or.inl ⟨Nat.le_refl _,by omega,by rw[Oq];exact List.not_mem_nil⟩,by rw[List.length_append,List.length_singleton];omega⟩ (by show s.length+1 - ((j+1:Nat):Int).toNat<s.length+1 - ((j:Int)).toNat;omega)]
      show some (if((j+1:Nat):Int).toNat≤s.length then(acc++[AO s a j])++Bo c (s.drop ((j+1:Nat):Int).toNat)else _)=_
      rw[show((j+1:Nat):Int).toNat=j+1 by omega,if_pos (by omega),if_pos (by omega),hsplit,List.drop_eq_getElem_cons hl,hc,Lp _ _ _ h3,List.append_assoc]
      rfl
     ·have hne:(((s[j].toNat:Nat):Int)==((c.toNat:Nat):Int))=false:=beq_false_of_ne fun h=>hc (UInt8.toNat_inj.1 (by omega))
      rw[hne,cond_false,w64 (by omega) (by omega),show((j:Int)+1)=((j+1:Nat):Int)from rfl]
      rw[hk _ ⟨a,j+1,acc,rfl,Or.inl ⟨by omega,by omega,by rw[gU s h1 hl,List.mem_append,List.mem_singleton];rintro (h | h);exact h3 h;exact hc h.symm⟩,by omega⟩ (by show s.length+1 - ((j+1:Nat):Int).toNat<s.length+1 - ((j:Int)).toNat;omega)]
      show some (if((a:Int)).toNat≤s.length then acc++Bo c (s.drop ((a:Int)).toNat)else _)=_
      rw[show((a:Int)).toNat=a by omega]
    ·have hj:j=s.length:=by omega
     subst hj
     rw[show(((s.length:Nat):Int)==((s.length:Nat):Int))=true from beq_self_eq_true _]
     simp only[Bool.or_true,Bool.true_or,Aj,cond_true]
     rw[decide_eq_true (by omega),Aj,decide_eq_true (by omega),Aj,decide_eq_true (by omega),Aj,w64 (by omega) (by omega),show((s.length:Int)+1)=((s.length+1:Nat):Int)from rfl]
     rw[hk _ ⟨s.length+1,s.length+1,_,rfl,Or.inr ⟨rfl,rfl⟩,by rw[List.length_append,List.length_singleton];omega⟩ (by show s.length+1 - ((s.length+1:Nat):Int).toNat<s.length+1 - ((s.length:Int)).toNat;omega)]
     show some (if((s.length+1:Nat):Int).toNat≤s.length then _ else acc++[AO s a s.length])=_
     rw[if_neg (by omega),if_pos (by omega),hsplit,List.drop_length,List.append_nil,QV _ _ h3]
   ·subst h1;subst h2
    rw[decide_eq_false (by omega),cond_false,if_neg (by omega)]
  ·rfl
def Zf (c:UInt8):Bool:=JE c||decide (c.toNat=45)
def Ux (s:Bs):Bool:= !(decide (s.length<1)||decide (63<s.length)||decide ((s.getD 0 0).toNat=45)||decide ((s.getD (s.length - 1) 0).toNat=45))&&s.all Zf
theorem XM (N:Nat) (c:UInt8): ∃ a b,I5 N (c.toNat:Int)=some a∧Ie N (c.toNat:Int)=some b∧(a||b)=JE c:=by
  refine Y2 (P:=fun c=> ∃ a b,I5 N (c.toNat:Int)=some a∧Ie N (c.toNat:Int)=some b∧(a||b)=JE c) ?_ c
  intro n
  refine⟨(I5 0 ((UInt8.ofNat n.val).toNat:Int)).getD false,(Ie 0 ((UInt8.ofNat n.val).toNat:Int)).getD false,?_⟩
  show I5 0 _=_∧Ie 0 _=_∧_
  revert n
  decide +kernel
theorem AcS (N:Nat) (s:Bs) (hN:70<N) (hs:s.length≤1048576):TB N s=some (Ux s):=by
  unfold TB Ux
  try simp only[clR]
  by_cases h1:s.length<1
  ·have:s=[]:=List.length_eq_zero_iff.1 (by omega)
   subst this;rfl
  ·rw[decide_eq_false h1,decide_eq_false (show ¬(s.length:Int)<1 by omega),decide_eq_true (show(0:Int)<(s.length:Int) by omega),w64 (by omega) (by omega),decide_eq_true (show(0:Int)≤(s.length:Int) - 1 by omega),decide_eq_true (show(s.length:Int) - 1<(s.length:Int) by omega),show((s.length:Int) - 1).toNat=s.length - 1 by omega]
   simp only[Bool.true_or,Aj,Bool.false_or]
   have e1: ∀ c:UInt8,(((c.toNat:Nat):Int)==45)=decide (c.toNat=45):=fun c=>by
     by_cases h:c.toNat=45
     ·rw[h];rfl
     ·rw[decide_eq_false h];exact beq_false_of_ne (by omega)
   rw[e1,e1,show decide ((s.length:Int)>63)=decide (63<s.length) by congr 1;apply propext;omega]
   generalize decide ((s.getD 0 0).toNat=45)=q1
   generalize decide ((s.getD (s.length - 1) 0).toNat=45)=q2
   by_cases h2:63<s.length
   ·rw[decide_eq_true h2];rfl
   ·rw[decide_eq_false h2]
    cases q1<;>cases q2<;>first | rfl | skip
    rw[show(false||false||false)=false from rfl,cond_false,decide_eq_true (by omega),Aj]
    have hml:((s.map fun b=>((b.toNat:Nat):Int)).length)=s.length:=List.length_map ..
    refine Eq.trans (Ez (S:=Unit) (mk:=fun i _=>(i,s.map fun b=>((b.toNat:Nat):Int))) (out:=fun a=>a) s 0 (fun _ _=>True) (fun e (_:Unit)=>if Zf e=true then .inr ()else .inl (some false)) ?_ ?_ N () trivial (by omega)) ?_
    ·intro i a hi _
     obtain⟨x,y,hx,hy,hxy⟩:=XM N (s.getD i 0)
     have hg:(s.map fun b=>((b.toNat:Nat):Int)).getD i 0=(((s.getD i 0).toNat:Nat):Int):=by
       rw[getD_lt _ i 0 (by omega),getD_lt s i 0 hi,List.getElem_map]
     have hne:((((s.getD i 0).toNat:Nat):Int) != 45)= !decide ((s.getD i 0).toNat=45):=by rw[bne,e1]
     refine Io (p:=Zf) (fun h k=> ?_) (fun h=>⟨fun k=> ?_,trivial⟩)
     ·dsimp only[U2]
      unfold Zf at h
      rw[hml,show((i:Int)).toNat=i by omega,decide_eq_true (by omega),cond_true,decide_eq_true (by omega),Aj,decide_eq_true (by omega),Aj,hg,hx,Ae,hy,hne]
      rw[← hxy]at h
      generalize decide ((s.getD i 0).toNat=45)=z at h
      cases x<;>cases y<;>cases z<;>first | rfl | (exact absurd h (by decide))
     ·dsimp only[U2]
      unfold Zf at h
      rw[hml,show((i:Int)).toNat=i by omega,decide_eq_true (by omega),cond_true,decide_eq_true (by omega),Aj,decide_eq_true (by omega),Aj,hg,hx,Ae,hy,hne,w64 (by omega) (by omega)]
      rw[← hxy]at h
      generalize decide ((s.getD i 0).toNat=45)=z at h
      cases x<;>cases y<;>cases z<;>first | rfl | (exact absurd h (by decide))
    ·intro a k _
     dsimp only[U2]
     rw[hml,decide_eq_false (by omega),cond_false]
    ·rw[OA]
     cases s.all Zf<;>rfl
def GI (s:Bs):Bool:= !decide (128<s.length)&&(Bo 46 s).all Ux
theorem MZ (N:Nat) (s:Bs) (hN:200<N):Gg N s=some (GI s):=by
  unfold Gg GI
  by_cases h:128<s.length
  ·rw[decide_eq_true h,decide_eq_true (show(s.length:Int)>128 by omega),cond_true];rfl
  ·rw[decide_eq_false h,decide_eq_false (show ¬(s.length:Int)>128 by omega),cond_false]
   have hsp:strings_Split N s [46]=some (Bo 46 s):=by
     unfold strings_Split
     rw[decide_eq_true (by omega),Agd];rfl
   rw[hsp,Ae]
   have hlen:=PR 46 s
   generalize Bo 46 s=p at hlen ⊢
   refine Eq.trans (Ez (S:=Unit) (mk:=fun i _=>i) (out:=fun a=>a) p [] (fun _ _=>True) (fun e (_:Unit)=>if Ux e=true then .inr ()else .inl (some false)) ?_ ?_ N () trivial (by omega)) ?_
   ·intro i a hi _
    have hm:=hlen.2.2 (p.getD i []) (by rw[getD_lt p i [] hi];exact List.getElem_mem hi)
    have hlab:=AcS N (p.getD i []) (by omega) (by omega)
    refine Io (p:=Ux) (fun h k=> ?_) (fun h=>⟨fun k=> ?_,trivial⟩)
    ·dsimp only
     rw[show((i:Int)).toNat=i by omega,decide_eq_true (by omega),cond_true,decide_eq_true (by omega),Aj,Aj,hlab,Ae,h];rfl
    ·dsimp only
     rw[show((i:Int)).toNat=i by omega,decide_eq_true (by omega),cond_true,decide_eq_true (by omega),Aj,Aj,hlab,Ae,h,w64 (by omega) (by omega)];rfl
   ·intro a k _
    dsimp only
    rw[decide_eq_false (by omega),cond_false]
   ·rw[OA]
    cases p.all Ux<;>rfl
theorem Alr (c:UInt8) (n:Nat) (hn:n<256):(((c.toNat:Nat):Int)==(n:Int))=(c==UInt8.ofNat n):=by
  by_cases h:c=UInt8.ofNat n
  ·subst h
   rw[beq_self_eq_true,UInt8.toNat_ofNat',show n % 2 ^ 8=n from Nat.mod_eq_of_lt hn]
   exact beq_self_eq_true _
  ·rw[beq_false_of_ne h]
   refine beq_false_of_ne fun h2=>h ?_
   apply UInt8.toNat_inj.1
   rw[UInt8.toNat_ofNat',show n % 2 ^ 8=n from Nat.mod_eq_of_lt hn]
   omega
theorem An9 (c:UInt8) (n:Nat) (hn:n<256):(((c.toNat:Nat):Int) != (n:Int))= !(c==UInt8.ofNat n):=by
  unfold bne;rw[Alr c n hn]
theorem beq46 (c:UInt8):(((c.toNat:Nat):Int)==46)=(c==46):=Alr c 46 (by omega)
theorem Am4 (c:UInt8):(((c.toNat:Nat):Int)==45)=(c==45):=Alr c 45 (by omega)
theorem Aor (c:UInt8):(((c.toNat:Nat):Int) != 45)= !(c==45):=An9 c 45 (by omega)
theorem Aos (c:UInt8):(((c.toNat:Nat):Int) != 64)= !(c==64):=An9 c 64 (by omega)
theorem Aig (c:UInt8):decide (c.toNat=45)=(c==45):=by
  rw[← Am4]
  by_cases h:c.toNat=45
  ·rw[h];rfl
  ·rw[decide_eq_false h];exact(beq_false_of_ne (by omega)).symm
theorem Ja (N:Nat) (s:Bs) (hN:1048578<N):DV N s=some (GI s):=by
  unfold DV GI
  try simp only[clR]
  by_cases h1:128<s.length
  ·rw[xR (by omega),cond_true,Aei h1];rfl
  ·rw[AdY (by omega),cond_false,Aeh (by omega)]
   have hsp:Gz N s 46=some (Bo 46 s):=Aev N s 46 (by omega) (by omega)
   rw[hsp,Ae]
   have hlen:=PR 46 s
   generalize Bo 46 s=p at hlen ⊢
   refine Eq.trans (FO (S:=Unit) (R:=Bool) (mk:=fun i _=>(i:Int)) p [] (fun l _=>bif Ux l then .inr ()else .inl false) some (fun _=>some true) ?_ ?_ N () (by omega)) ?_
   ·intro i _ hi k
    have hm:=hlen.2.2 _ (getD_mem [] hi)
    dsimp only
    rw[show((i:Int)).toNat=i by omega]
    generalize p.getD i []=l at hm ⊢
    unfold Ux
    rw[Aig,Aig]
    by_cases h2:l.length<1
    ·simp (disch:=first | assumption | omega) only[Aw]
    ·by_cases h3:63<l.length
     ·simp (disch:=first | assumption | omega) only[Aw]
     ·simp (disch:=first | assumption | omega) only[Aw,Am4,AY]
      cases l.getD 0 0==45<;>cases l.getD (l.length - 1) 0==45<;>first | rfl | skip
      refine Eq.trans (FO (S:=Unit) (R:=Bool) (mk:=fun i _=>(i:Int)) l 0 (fun c _=>bif Zf c then .inr ()else .inl false) some (fun _=>k ((i+1:Nat):Int)) ?_ ?_ N () (by omega)) ?_
      ·intro j _ hj k
       simp (disch:=first | assumption | omega) only[Aw,Y4,Aor,AY]
       unfold Zf
       rw[Aig]
       cases JE (l.getD j 0)<;>cases l.getD j 0==45<;>rfl
      ·intro _ k
       simp (disch:=first | assumption | omega) only[Aw]
      ·rw[jC]
       cases l.all Zf<;>rfl
   ·intro _ k
    simp (disch:=first | assumption | omega) only[Aw]
   ·rw[jC]
    cases p.all Ux<;>rfl
theorem contains_one (c:UInt8) (s:Bs):Lib.contains s [c]=s.contains c:=by
  unfold Lib.contains
  rcases Ri c s with h | ⟨a,r,rfl,ha⟩
  ·rw[index_none c s h]
   have:s.contains c=false:=by simpa using h
   rw[this];rfl
  ·rw[uI c a r ha]
   have:(a++c::r).contains c=true:=by simp
   rw[this];exact decide_eq_true (by omega)
def Zv (s:Bs):Bool:=bif Lib.hasPrefix s [42,46]then decide (s.length≤128)&&GI (s.drop 2)&&(s.drop 2).contains 46 else GI s
theorem Aol {s p:Bs} (h:Lib.hasPrefix s p=true):Lib.trimPrefix s p=s.drop p.length:=by unfold Lib.trimPrefix;rw[if_pos h]
theorem Aok {s p:Bs} (h:Lib.hasPrefix s p=false):Lib.trimPrefix s p=s:=by unfold Lib.trimPrefix;rw[if_neg (by rw[h];decide)]
theorem yL (N:Nat) (s:Bs) (hN:1048578<N):KU N s=some (Zv s):=by
  unfold KU Zv strings_CutPrefix
  try simp only[clR]
  rw[Ae]
  cases hp:Lib.hasPrefix s [42,46]with
  | false=>rw[Aok hp,MZ N _ (by omega)];rfl
  | true =>
    rw[Aol hp,show s.drop ([42,46]:Bs).length=s.drop 2 from rfl]
    simp (disch:=first | assumption | omega) only[Aw,MZ,AlO,Option.getD_some]
    by_cases h:s.length≤128
    ·unfold strings_Contains
     rw[decide_eq_true (show(s.drop 2).length<4294967281 by rw[List.length_drop];omega),cond_true,contains_one,Eo h,Hg (by omega)]
     rfl
    ·rw[zL (by omega),Am6 (by omega)];simp [chk]
theorem Al9 (r:Bs):GI (42::46::r)=false:=by
  unfold GI
  rw[show(42::46::r:Bs)=[42]++46::r from rfl,Lp _ _ _ (by decide),List.all_cons,show Ux [42]=false by decide]
  simp
theorem AmO (r:Bs):GI (46::r)=false:=by
  unfold GI
  rw[show(46::r:Bs)=[]++46::r from rfl,Lp _ _ _ (by decide),List.all_cons,show Ux []=false by decide]
  simp
theorem AaN:GI []=false:=by decide
theorem AkT (s:Bs):decide (2≤(Bo 46 s).length)=s.contains 46:=by
  rcases Ri 46 s with h | ⟨a,r,rfl,ha⟩
  ·rw[QV _ _ h]
   have:s.contains 46=false:=by simpa using h
   rw[this];rfl
  ·rw[Lp _ _ _ ha]
   have:(a++46::r).contains 46=true:=by simp
   rw[this]
   have:=(PR 46 r).2.1
   exact decide_eq_true (by rw[List.length_cons];omega)
theorem Anq (s:Bs):(∃ r,s=42::46::r)∨(Lib.hasPrefix s [42,46]=false∧(AO s 0 2==[42,46])=false):=by
  match s with
  | []=>right;exact⟨rfl,rfl⟩
  | [a]=>right;exact⟨by simp [Lib.hasPrefix,List.isPrefixOf],by simp [AO]⟩
  | a::b::r =>
    by_cases h:a=42∧b=46
    ·left;exact⟨r,by rw[h.1,h.2]⟩
    ·right
     refine⟨?_,?_⟩
     ·cases hq:Lib.hasPrefix (a::b::r) [42,46]with
      | false=>rfl
      | true =>
        exfalso
        simp [Lib.hasPrefix,List.isPrefixOf]at hq
        exact h ⟨hq.1.symm,hq.2.symm⟩
     ·refine beq_false_of_ne fun hq=>h ?_
      simp [AO]at hq
      exact hq
theorem wC (N:Nat) (s:Bs) (hN:1048578<N) (hs:s.length≤1048576):JP N s=some (Zv s):=by
  unfold JP Zv
  try simp only[clR]
  have hsp:Gz N s 46=some (Bo 46 s):=Aev N s 46 (by omega) (by omega)
  rw[Ja N s hN,Ae,Ja N _ hN,hsp]
  simp only[Option.isSome_some,Option.getD_some,Bool.true_or,Aj]
  rcases Anq s with ⟨r,rfl⟩ | ⟨h1,h2⟩
  ·rw[Al9,show Lib.hasPrefix (42::46::r) [42,46]=true by simp [Lib.hasPrefix,List.isPrefixOf],cond_true,show(42::46::r:Bs).drop 2=r from rfl]
   rw[show AO (42::46::r:Bs) 2 (42::46::r:Bs).length=r by unfold AO;rw[List.take_length];rfl,show(AO (42::46::r:Bs) 0 2==[42,46])=true by simp [AO]]
   rw[show decide (((Bo 46 (42::46::r)).length:Int)>2)=r.contains 46 by
     rw[← AkT,show(42::46::r:Bs)=[42]++46::r from rfl,Lp _ _ _ (by decide),List.length_cons]
     congr 1;apply propext;omega]
   rw[show decide (((42::46::r:Bs).length:Int)≤128)=decide ((42::46::r:Bs).length≤128) by congr 1;apply propext;omega]
   rw[Hg (show(2:Int)≤((42::46::r:Bs).length:Int) by simp;omega)]
   cases r with
   | nil=>rw[AaN];simp [chk]
   | cons x r =>
     rw[xR (show((42::46::x::r:Bs).length:Int)>2 by simp;omega)]
     cases decide ((42::46::x::r:Bs).length≤128)<;>cases GI (x::r)<;>cases (x::r).contains 46<;>rfl
  ·rw[h1,cond_false,h2]
   have:decide (2≤((s.length:Nat):Int))=true∨decide (((s.length:Nat):Int)>2)=false:=by
     by_cases h:2≤s.length
     ·left;exact decide_eq_true (by omega)
     ·right;exact decide_eq_false (by omega)
   rcases this with h | h<;>rw[h]<;>cases GI s<;>cases decide (((s.length:Nat):Int)≤128)<;>simp [chk]
def Y8 (s:Bs):Bool:=(s==[])||GI s
theorem AeW (N:Nat) (s:Bs) (hN:1048578<N):Rl N s=some (Y8 s):=by
  unfold Rl Y8
  try simp only[clR]
  simp (disch:=first | assumption | omega) only[Aw,MZ,Option.isSome_some,Option.getD_some]
theorem Ad1 (N:Nat) (s:Bs) (hN:1048578<N):PD N s=some (Y8 s):=by
  unfold PD Y8
  try simp only[clR]
  simp (disch:=first | assumption | omega) only[Aw,Ja,Option.isSome_some,Option.getD_some]
