import Derived.Test.YtadefjgbcapakaaGreatDoorA20
set_option linter.all false
namespace Go.Proofs.YtadefjgbcapakaaGreatDoor.Pl
open IntKind (i64)
open Go Vm
theorem len0 {α :Type} (l:List α):(((l.length:Nat):Int)==0)=l.isEmpty:=by
  cases l with
  | nil=>rfl
  | cons a r=>exact beq_false_of_ne (by rw[List.length_cons];omega)
theorem Q8 (n k:Nat):decide ((n:Int)>(k:Int))=decide (k<n):=by congr 1;apply propext;omega
def DC (l:List Gn):Prop:= ∀ g∈l,Jr g
def Jl (l:List Gn) (c:Bool):Int:=Bq (fun g=>Dp g c) l
theorem XC (N:Nat) (l:List Gn) (hN:1048578<N) (hl:l.length<=1048576) (hs:DC l):EW N l=some (Jl l false):=by
  unfold EW
  refine(Wj (mk:=fun i=>(i:Int)) l (0,[],[]) (fun g=>Dp g false) some (some 0) ?_ ?_ N (by omega)).trans (first_some _)
  ·intro i hi k
   have h:=Ll N (l.getD i (0,[],[])) false hN (hs _ (getD_mem _ hi))
   simp (disch:=first | assumption | omega) only[Am,h,BZ]
  ·intro k
   simp (disch:=first | assumption | omega) only[Am]
theorem fD (N:Nat) (l:List Gn) (hN:1048578<N) (hs:DC l):IU N l=some (bif decide (16<l.length)then 2 else Jl l false):=by
  unfold IU
  rw[show decide (((l.length:Nat):Int)>16)=decide (16<l.length)from Q8 _ 16]
  by_cases h16:16<l.length
  ·rw[decide_eq_true h16];rfl
  ·rw[decide_eq_false h16,cond_false,cond_false]
   refine(Wj (mk:=fun i=>(i:Int)) l (0,[],[]) (fun g=>Dp g false) some (some 0) ?_ ?_ N (by omega)).trans (first_some _)
   ·intro i hi k
    have h:=JC N (l.getD i (0,[],[])) false hN (hs _ (getD_mem _ hi))
    simp (disch:=first | assumption | omega) only[Am,h,BZ]
   ·intro k
    simp (disch:=first | assumption | omega) only[Am]
abbrev Pt:Type:=List Gn×Int×Bool×List (List Att)
def Di (p:Pt):Prop:=DC p.1/\DF p.2.2.2/\ -9223372036854775808<=p.2.1/\p.2.1<=9223372036854775807
def ptI (p:Pt):Int :=
  bif (p.1.isEmpty&& !p.2.2.1)||(!p.2.2.2.isEmpty&& !p.2.2.1)then 7
  else bif Ba .andNot .i64 p.2.1 510 != 0 then 1
  else bif decide (16<p.1.length)then 2
  else bif Jl p.1 false != 0 then Jl p.1 false
  else bif !p.2.2.1 then 0
  else bif p.2.2.2.isEmpty then 14 else Et p.2.2.2
theorem XE (N:Nat) (p:Pt) (hN:1048578<N) (hs:Di p):GM N p=some (ptI p):=by
  obtain⟨g,r,b,n⟩:=p
  have hg:DC g:=hs.1
  have hn:DF n:=hs.2.1
  unfold GM ptI
  try simp only[clR]
  simp only[Dz,U5,len0,jK]
  have e: ∀ x y:Bool,(bif x then(bif x then some (7:Int)else none)else none)=(bif x then some 7 else none):=fun x y=>by cases x<;>rfl
  rw[show decide (((g.length:Nat):Int)>16)=decide (16<g.length)from Q8 _ 16]
  cases g.isEmpty&& !b with
  | true=>rfl
  | false =>
    rw[cond_false,Bool.false_or]
    cases (!n.isEmpty&& !b)with
    | true=>rfl
    | false =>
      rw[cond_false,cond_false]
      cases Ba .andNot .i64 r 510 != 0 with
      | true=>rfl
      | false =>
        rw[cond_false,cond_false]
        by_cases h16:16<g.length
        ·rw[decide_eq_true h16];rfl
        ·rw[decide_eq_false h16,cond_false,cond_false,XC N g hN (by omega) hg,Ae,Nh N n hN hn,Ae,Bc,Bc,Bc]
theorem MI (N:Nat) (l:List Pt) (hN:1048578<N) (hs: ∀ p∈l,Di p):BN N l=some (bif decide (4<l.length)then 2 else Bq ptI l):=by
  unfold BN
  rw[show decide (((l.length:Nat):Int)>4)=decide (4<l.length)from Q8 _ 4]
  by_cases h4:4<l.length
  ·rw[decide_eq_true h4];rfl
  ·rw[decide_eq_false h4,cond_false,cond_false]
   refine(Wj (mk:=fun i=>(i:Int)) l ([],0,false,[]) ptI some (some 0) ?_ ?_ N (by omega)).trans (first_some _)
   ·intro i hi k
    have h:=XE N (l.getD i ([],0,false,[])) hN (hs _ (getD_mem _ hi))
    simp (disch:=first | assumption | omega) only[Am,h,BZ]
   ·intro k
    simp (disch:=first | assumption | omega) only[Am]
theorem PN (N:Nat) (l:List Pt) (hN:1048578<N) (hs: ∀ p∈l,Di p):CU N l=some (bif decide (4<l.length)then 2 else Bq ptI l):=by
  unfold CU
  try simp only[clR]
  rw[show decide (((l.length:Nat):Int)>4)=decide (4<l.length)from Q8 _ 4]
  by_cases h4:4<l.length
  ·rw[decide_eq_true h4];rfl
  ·rw[decide_eq_false h4,cond_false,cond_false]
   refine(Wj (mk:=fun i=>(i:Int)) l ([],0,false,[]) ptI some (some 0) ?_ ?_ N (by omega)).trans (first_some _)
   ·intro i hi k
    have hm:=hs _ (getD_mem ([],0,false,[]) hi)
    have h1:=fun(h:DC (l.getD i ([],0,false,[])).1)=>fD N _ hN h
    have h1:=h1 hm.1
    have h2:=QN N _ hN hm.2.1
    simp (disch:=first | assumption | omega) only[Am,h1,h2,BZ,len0,jK]
    generalize l.getD i ([],0,false,[])=p
    unfold ptI
    cases p.1.isEmpty<;>cases p.2.2.1<;>cases p.2.2.2.isEmpty<;>cases Ba .andNot .i64 p.2.1 510 != 0<;>cases decide (16<p.1.length)<;>cases h5:Jl p.1 false != 0<;>simp [h5,chk]
   ·intro k
    simp (disch:=first | assumption | omega) only[Am]
abbrev St2:Type:=List Gn×List Gn
def AnZ (s:St2):Int:=bif s.1.isEmpty&&s.2.isEmpty then 7 else bif decide (16<s.1.length)||decide (16<s.2.length)then 2 else Bq (fun g=>Dp g true) (s.1++s.2)
def aX (s:Bs):Bool:=(Dt s).isSome
def Jq (s:Bs):Prop:=s.length<=1048576
def Afc (m:Bs×Bs):Prop:=Jq m.1/\Jq m.2
abbrev Ex:Type:=Bs×Bool×Bs
def zJ (x:Ex):Prop:=Jq x.1/\Jq x.2.2
abbrev Info:Type:=Bool×Bool×Int×Int×List Bs×List Bs×List (Bs×Bs)×Int×Int×Int×List Gn×Bool×List Gn×List Gn×Bs×Bs×List Pt×List Pt×List Ex
def spI (n:Int):Bool:=decide (n>= -1)&&decide (n<=64)
def AnP (hc:Bool) (s:St2):Int:=bif hc then AnZ s else bif !s.1.isEmpty|| !s.2.isEmpty then 7 else 0
def IK (l:List Pt):Int:=bif decide (4<l.length)then 2 else Bq ptI l
structure Aob (x:Info):Prop where
  pu:x.2.2.2.2.1.length<=1048576/\ ∀ s∈x.2.2.2.2.1,Jq s
  po:x.2.2.2.2.2.1.length<=1048576/\ ∀ s∈x.2.2.2.2.2.1,Jq s
  ma: ∀ s∈x.2.2.2.2.2.2.1,Afc s
  na:DC x.2.2.2.2.2.2.2.2.2.2.1
  pe:DC x.2.2.2.2.2.2.2.2.2.2.2.2.1
  ex:DC x.2.2.2.2.2.2.2.2.2.2.2.2.2.1
  pt: ∀ p∈x.2.2.2.2.2.2.2.2.2.2.2.2.2.2.2.2.1,Di p
  fr: ∀ p∈x.2.2.2.2.2.2.2.2.2.2.2.2.2.2.2.2.2.1,Di p
  un:x.2.2.2.2.2.2.2.2.2.2.2.2.2.2.2.2.2.2.length<=1048576/\ ∀ p∈x.2.2.2.2.2.2.2.2.2.2.2.2.2.2.2.2.2.2,zJ p
theorem vI {t:Nat} {c:Bs} (h:c.length<=131072):DZ t c=some (Sp.elem t c):=by unfold DZ;rw[if_pos h]
theorem vG (N t:Nat) (l:List Bs) (ht:t<256) (h31:t % 32≠31) (hN:1048578<N) (hl:l.length<=1000) (hs:l.flatten.length<=131072):Ci N (t:Int) l=some (Sp.elem t l.flatten,0):=by
  rw[qV N t l ht h31 (by omega) (by omega),vI hs];rfl
theorem SX (N t:Nat) (l:List Bs) (ht:t<256) (h31:t % 32≠31) (hN:1048578<N) (hl:l.length<=1000) (hs:l.flatten.length<=131072):Bd N (t:Int) l=some (Sp.elem t l.flatten):=by
  unfold Bd
  rw[SN N t l ht h31 (by omega) (by omega) (by omega),Ae,vI hs];rfl
theorem Afm (N t:Nat) (b:Bool) (l:List Bs) (ht:t<256) (h31:t % 32≠31) (hN:1048578<N) (hl:l.length<=1000) (hs:l.flatten.length<=131072):AV N b (t:Int) l=some (Sp.elem t l.flatten,b):=by
  rw[AfT N t b l ht h31 (by omega) (by omega),vI hs];simp
theorem Cj (a:Bs): [a].flatten=a:=by simp
theorem Adi (a b:Bs): [a,b].flatten=a++b:=by simp
theorem flat3 (a b c:Bs): [a,b,c].flatten=a++(b++c):=by simp
def KF (s:Bs):Bs:=(encR (Dt s)).1
theorem nP {s:Bs} (h:aX s=true):encR (Dt s)=(KF s,0)/\(KF s).length<=60:=by
  unfold aX at h
  unfold KF
  cases ha:Dt s with
  | none=>rw[ha]at h;cases h
  | some l =>
    refine⟨rfl,?_⟩
    obtain⟨h1,h2,h3,h4⟩:=TM ha
    show((UL l).map UInt8.ofNat).length<=60
    have hf:=(Zq h1 h3 h4).1
    have hs:(NY (40*l.getD 0 0+l.getD 1 0)).length<=5:=V5 _ hf
    have hr:=Akt NY 5 (l.drop 2) (fun x hx=>V5 x (by have:=h3 x (List.mem_of_mem_drop hx);omega))
    unfold UL
    rw[List.length_map,List.length_append]
    rw[List.length_drop]at hr
    omega
def vO (e:Att):Prop:=aX e.1=true/\(e.2.1=12\/e.2.1=19\/e.2.1=22)/\e.2.2.length<=64
theorem Alk {k:Int} {v:Bs} (h:KW k v=true):k=12\/k=19\/k=22:=by
  unfold KW at h
  by_cases h1:k=12
  ·exact .inl h1
  ·rw[if_neg h1]at h
   by_cases h2:k=19
   ·exact .inr (.inl h2)
   ·rw[if_neg h2]at h
    by_cases h3:k=22
    ·exact .inr (.inr h3)
    ·rw[if_neg h3]at h;cases h
theorem AlF {e:Att} {s:List Att} (h:G5 e s=0):vO e/\KW e.2.1 e.2.2=true/\e.2.2≠ []/\s.any (fun x=>x.1==e.1)=false:=by
  unfold G5 at h
  by_cases h1:Dt e.1=none
  ·rw[if_pos h1]at h;cases h
  ·rw[if_neg h1]at h
   by_cases h2:e.2.2=[]\/KW e.2.1 e.2.2=false
   ·rw[if_pos h2]at h;cases h
   ·rw[if_neg h2]at h
    by_cases h3:64<e.2.2.length
    ·rw[if_pos h3]at h;cases h
    ·rw[if_neg h3]at h
     have ht:KW e.2.1 e.2.2=true:=by
       cases hq:KW e.2.1 e.2.2 with
       | true=>rfl
       | false=>exact absurd (Or.inr hq) h2
     refine⟨⟨?_,Alk ht,by omega⟩,ht,fun hn=>h2 (Or.inl hn),?_⟩
     ·unfold aX
      cases hq:Dt e.1 with
      | none=>exact absurd hq h1
      | some l=>rfl
     ·cases hq:s.any (fun x=>x.1==e.1)with
      | false=>rfl
      | true=>rw[hq,if_pos rfl]at h;cases h
theorem AeP {r:List Att} (h:KL r=0):r≠ []/\r.length<=4/\ ∀ e∈r,vO e:=by
  unfold KL at h
  by_cases h1:r=[]
  ·rw[if_pos h1]at h;cases h
  ·rw[if_neg h1]at h
   by_cases h2:4<r.length
   ·rw[if_pos h2]at h;cases h
   ·rw[if_neg h2]at h
    refine⟨h1,by omega,?_⟩
    unfold AeO at h
    have: ∀(l s:List Att),(Iu KX (fun _=>some (0:Int)) l s).getD 0=0-> ∀ e∈l,vO e:=by
      intro l
      induction l with
      | nil=>intro s _ e he;cases he
      | cons x t ih =>
        intro s hs e he
        unfold Iu KX at hs
        by_cases hx:G5 x s=0
        ·rw[if_pos hx]at hs
         rcases List.mem_cons.1 he with rfl | he
         ·exact(AlF hx).1
         ·exact ih _ hs e he
        ·rw[if_neg hx]at hs
         exact absurd hs hx
    exact this r [] h
theorem uC {n:List (List Att)} (h:Et n=0):n.length<=8/\ ∀ r∈n,KL r=0:=by
  unfold Et Ua at h
  by_cases h8:8<n.length
  ·rw[if_pos h8]at h;cases h
  ·rw[if_neg h8]at h
   refine⟨by omega,?_⟩
   have: ∀(l:List (List Att)) (s:Unit),(Iu Pq (fun _=>some (0:Int)) l s).getD 0=0-> ∀ e∈l,KL e=0:=by
     intro l
     induction l with
     | nil=>intro s _ e he;cases he
     | cons x t ih =>
       intro s hs e he
       unfold Iu Pq at hs
       by_cases hx:KL x=0
       ·rw[if_pos hx]at hs
        rcases List.mem_cons.1 he with rfl | he
        ·exact hx
        ·exact ih _ hs e he
       ·rw[if_neg hx]at hs
        exact absurd hs hx
   exact this n () h
def JU (e:Att):Bs:=Sp.elem 48 (Sp.elem 6 (KF e.1)++Sp.elem e.2.1.toNat e.2.2)
theorem AdC {e:Att} (h:vO e):(JU e).length<=139:=by
  have h1:=(nP h.1).2
  have h2:=h.2.2
  unfold JU
  have:=Sp.BM 48 (Sp.elem 6 (KF e.1)++Sp.elem e.2.1.toNat e.2.2)
  have:=Sp.BM 6 (KF e.1)
  have:=Sp.BM e.2.1.toNat e.2.2
  rw[List.length_append]at *
  omega
def QJ (r:List Att):Bs:=Sp.elem 49 (Gj (r.map JU))
theorem kC (l:List Bs):(Gj l).length=l.flatten.length:=by
  unfold Gj
  rw[List.length_flatten,List.length_flatten]
  exact((List.mergeSort_perm l _).map _).sum_nat
theorem uM {r:List Att} (h:KL r=0):(QJ r).length<=561/\(r.map JU).flatten.length<=556:=by
  obtain⟨_,h4,ha⟩:=AeP h
  have h1:=Hr (g:=JU) (M:=139) (l:=r) (fun e he=>AdC (ha e he))
  have h2:=Sp.BM 49 (Gj (r.map JU))
  have h3:=kC (r.map JU)
  unfold QJ
  omega
def nmB (n:List (List Att)):Bs:=Sp.elem 48 (n.map QJ).flatten
theorem Yt {n:List (List Att)} (h:Et n=0):(nmB n).length<=4493/\(n.map QJ).flatten.length<=4488:=by
  obtain⟨h8,hr⟩:=uC h
  have h1:=Hr (g:=QJ) (M:=561) (l:=n) (fun e he=>(uM (hr e he)).1)
  have h2:=Sp.BM 48 (n.map QJ).flatten
  unfold nmB
  omega
theorem Aex {k:Int} (h:k=12\/k=19\/k=22):k=(k.toNat:Int)/\k.toNat<256/\k.toNat % 32≠31:=by omega
theorem iJ (N:Nat) (e:Att) (hN:1048578<N) (hs:KO e) (h:vO e):Fg N e=some (JU e,0):=by
  obtain⟨o1,o2⟩:=nP h.1
  obtain⟨k1,k2,k3⟩:=Aex h.2.1
  have h64:=h.2.2
  have l1:=Sp.BM 6 (KF e.1)
  have l2:=Sp.BM e.2.1.toNat e.2.2
  have w1:Ci N 6 [KF e.1]=_:=vG N 6 [KF e.1] (by omega) (by omega) hN (by simp) (by rw[Cj];omega)
  have w2:=vG N e.2.1.toNat [e.2.2] k2 k3 hN (by simp) (by rw[Cj];omega)
  have w3:Ci N 48 [Sp.elem 6 (KF e.1),Sp.elem e.2.1.toNat e.2.2]=_:=vG N 48 [Sp.elem 6 (KF e.1),Sp.elem e.2.1.toNat e.2.2] (by omega) (by omega) hN (by simp) (by rw[Adi,List.length_append];omega)
  rw[Cj]at w1 w2
  rw[Adi]at w3
  rw[<- k1]at w2
  unfold Fg
  rw[Ac0 N e.1 (by omega) hs.1,o1]
  simp only[Ae]
  rw[w1,Ae,w2,Ae,w3,Ae]
  rfl
theorem AbR {n:List (List Att)} (h:DF n) {i:Nat} (hi:i<n.length): ∀ e∈n.getD i [],KO e:=fun e he=>h _ (getD_mem [] hi) e he
theorem wJ (N:Nat) (n:List (List Att)) (hN:1048578<N) (hs:DF n):OU N n=some (bif Et n != 0 then([],Et n)else(nmB n,0)):=by
  unfold OU
  try simp only[clR]
  rw[Nh N n hN hs,Ae,<- Bc]
  refine CW fun h0=> ?_
  have h0:Et n=0:=by simpa using h0
  obtain⟨h8,hr⟩:=uC h0
  have hnl:=Yt h0
  refine(Z5 (mk:=fun i acc=>((i:Int),acc)) n [] QJ (fun l=>Ac (Ci N 48 l) fun r62=>some (r62.fst,r62.snd)) ?_ ?_ N (by omega)).trans ?_
  ·intro i acc hi hacc k
   have hri:=hr _ (getD_mem [] hi)
   have hsi:=AbR hs hi
   obtain⟨r0,r4,ra⟩:=AeP hri
   have hrl:=uM hri
   have hpos:=List.length_pos_iff.2 r0
   dsimp only[U2]
   rw[Int.toNat_natCast]
   generalize n.getD i []=r at *
   simp (disch:=first | assumption | omega) only[Am]
   refine(Z5 (mk:=fun j a=>((j:Int),a,acc)) r ([],0,[]) JU (fun l=>Ac (KU N l) fun r48=>Ac (Ci N 49 [r48]) fun r50=>bif r50.snd != 0 then some ([],r50.snd)else chk (decide ((acc.length+1)*17<=140737488355328)) (k ((i:Int)+1,acc++[r50.fst]))) ?_ ?_ N (by omega)).trans ?_
   ·intro j a hj ha k
    have he:=iJ N _ hN (hsi _ (getD_mem ([],0,[]) hj)) (ra _ (getD_mem ([],0,[]) hj))
    simp (disch:=first | assumption | omega) only[Am,he,BZ]
   ·intro a k ha
    simp (disch:=first | assumption | omega) only[Am]
   ·have w:Ci N 49 [Gj (r.map JU)]=_:=vG N 49 [Gj (r.map JU)] (by omega) (by omega) hN (by simp) (by rw[Cj,kC];omega)
    rw[Cj]at w
    unfold KU
    rw[Adp (by rw[List.length_map];omega),nO (by rw[List.length_map];omega),nO (by omega)]
    simp only[Bool.and_self,cond_true,Ae]
    rw[w,Ae]
    simp (disch:=first | assumption | omega) only[Am,BZ]
    rfl
  ·intro acc k ha
   simp (disch:=first | assumption | omega) only[Am]
  ·have w:Ci N 48 (n.map QJ)=_:=vG N 48 (n.map QJ) (by omega) (by omega) hN (by rw[List.length_map];omega) (by omega)
   rw[w,Ae];rfl
theorem AhO (N:Nat) (s:Bs) (hN:1048578<N) (hs:Jq s) (h:aX s=true):WR N s=some (Sp.elem 6 (KF s)):=by
  obtain⟨o1,o2⟩:=nP h
  have w:Bd N 6 [KF s]=_:=SX N 6 [KF s] (by omega) (by omega) hN (by simp) (by rw[Cj];omega)
  rw[Cj]at w
  unfold WR
  unfold Jq at hs
  rw[kL N s (by omega) hs (by omega),o1,Ae,w,Ae]
theorem AbX (N:Nat) (n:List (List Att)) (hN:1048578<N) (hs:DF n):IM N n=some (bif Et n != 0 then([],Et n)else(nmB n,0)):=by
  unfold IM
  try simp only[clR]
  rw[QN N n hN hs,Ae,<- Bc]
  refine CW fun h0=> ?_
  have h0:Et n=0:=by simpa using h0
  obtain⟨h8,hr⟩:=uC h0
  have hnl:=Yt h0
  refine(Aaj (mk:=fun i t=>(t,(i:Int))) n [] QJ (fun t=>Ac (Bd N 48 [t]) fun r30=>some (r30,0)) ?_ ?_ N (by omega)).trans ?_
  ·intro i t hi ht k
   have hri:=hr _ (getD_mem [] hi)
   have hsi:=AbR hs hi
   obtain⟨r0,r4,ra⟩:=AeP hri
   have hrl:=uM hri
   have hat:IP N (n.getD i [])=some ((n.getD i []).map JU):=by
     generalize n.getD i []=r at *
     unfold IP
     try simp only[clR]
     refine(Z5 (mk:=fun j a=>((j:Int),a)) r ([],0,[]) JU some ?_ ?_ N (by omega)).trans rfl
     ·intro j a hj ha k
      have hm:=ra _ (getD_mem ([],0,[]) hj)
      have hsm:=hsi _ (getD_mem ([],0,[]) hj)
      have ho:=AhO N _ hN hsm.1 hm.1
      have hal:=AdC hm
      obtain⟨k1,k2,k3⟩:=Aex hm.2.1
      have h64:=hm.2.2
      have o2:=(nP hm.1).2
      dsimp only[U2]
      rw[Int.toNat_natCast]
      generalize r.getD j ([],0,[])=e at *
      have l1:=Sp.BM 6 (KF e.1)
      have l2:=Sp.BM e.2.1.toNat e.2.2
      have w2:=SX N e.2.1.toNat [e.2.2] k2 k3 hN (by simp) (by rw[Cj];omega)
      have w3:Bd N 48 [Sp.elem 6 (KF e.1),Sp.elem e.2.1.toNat e.2.2]=_:=SX N 48 [Sp.elem 6 (KF e.1),Sp.elem e.2.1.toNat e.2.2] (by omega) (by omega) hN (by simp) (by rw[Adi,List.length_append];omega)
      rw[Cj]at w2
      rw[Adi]at w3
      rw[<- k1]at w2
      simp (disch:=first | assumption | omega) only[Am,ho,w2,w3,BZ]
      rfl
     ·intro a k ha
      simp (disch:=first | assumption | omega) only[Am]
   have hor:=AaU N ((n.getD i []).map JU) hN (by rw[List.length_map];omega) (by omega)
   have w:Bd N 49 [Gj ((n.getD i []).map JU)]=_:=SX N 49 [Gj ((n.getD i []).map JU)] (by omega) (by omega) hN (by simp) (by rw[Cj,kC];omega)
   rw[Cj]at w
   have hw:Sp.elem 49 (Gj ((n.getD i []).map JU))=QJ (n.getD i []):=rfl
   simp (disch:=first | assumption | omega) only[Am,hat,hor,w,hw,BZ]
  ·intro t k
   simp (disch:=first | assumption | omega) only[Am]
  ·have w:Bd N 48 [(n.map QJ).flatten]=_:=SX N 48 [(n.map QJ).flatten] (by omega) (by omega) hN (by simp) (by rw[Cj];omega)
   rw[w,Ae,Cj];rfl
def JA (g:Gn):Bs:=bif g.1==4 then Sp.elem 164 (nmB g.2.2)else Sp.elem (128+g.1).toNat g.2.1
theorem Ak6 {s:Bs} (h:E8 s=true):s.length<=128:=by
  rcases Nat.lt_or_ge 128 s.length with hl | hl
  ·rw[yB hl]at h;cases h
  ·exact hl
theorem Agf {s:Bs} (h:FX s=true):s.length<=128:=by
  rcases Nat.lt_or_ge 128 s.length with hl | hl
  ·rw[Abv hl]at h;cases h
  ·exact hl
theorem AlU {k:Int} {s:Bs} {c:Bool} (h:sH k s c=true):s.length<=128/\(k=1\/k=2\/k=7):=by
  unfold sH at h
  by_cases h1:k=1
  ·subst h1
   refine⟨?_,.inl rfl⟩
   rw[Jb rfl,cond_true]at h
   cases c with
   | true =>
     unfold mbP at h
     rw[cond_true,Bool.and_eq_true,decide_eq_true_eq]at h
     exact h.1
   | false=>exact Ak6 h
  ·rw[Ja h1,cond_false]at h
   by_cases h2:k=2
   ·subst h2
    refine⟨?_,.inr (.inl rfl)⟩
    rw[Jb rfl,cond_true]at h
    cases c with
    | true =>
      unfold YQ at h
      rw[cond_true,Bool.or_eq_true]at h
      rcases h with h | h
      ·have:s=[]:=by simpa using h
       subst this;exact Nat.zero_le _
      ·exact Agf h
    | false =>
      rw[cond_false]at h
      unfold ZK at h
      cases hq:Lib.hasPrefix s [42,46]with
      | true =>
        rw[hq,cond_true,Bool.and_eq_true,Bool.and_eq_true,decide_eq_true_eq]at h
        exact h.1.1
      | false=>rw[hq]at h;exact Agf h
   ·rw[Ja h2,cond_false]at h
    by_cases h7:k=7
    ·subst h7
     refine⟨?_,.inr (.inr rfl)⟩
     rw[Jb rfl,cond_true]at h
     cases c with
     | true =>
       rw[cond_true]at h
       unfold aI at h
       cases hq:(decide (s.length=8)||decide (s.length=32))with
       | false=>rw[hq]at h;cases h
       | true=>rw[Bool.or_eq_true,decide_eq_true_eq,decide_eq_true_eq]at hq;omega
     | false =>
       rw[cond_false]at h
       unfold YN at h
       rw[Bool.or_eq_true,decide_eq_true_eq,decide_eq_true_eq]at h;omega
    ·rw[Ja h7]at h;cases h
theorem Aa3 {g:Gn} {c:Bool} (h:Dp g c=0):(g.1=4/\g.2.1=[]/\Et g.2.2=0)\/((g.1=1\/g.1=2\/g.1=7)/\g.2.1.length<=128/\g.2.2=[]/\sH g.1 g.2.1 c=true):=by
  unfold Dp at h
  by_cases h4:g.1=4
  ·rw[Jb h4,cond_true]at h
   cases hq:g.2.1==[]with
   | true=>rw[hq]at h;exact .inl ⟨h4,by simpa using hq,h⟩
   | false=>rw[hq]at h;cases h
  ·rw[Ja h4,cond_false]at h
   cases hq:sH g.1 g.2.1 c&&g.2.2.isEmpty with
   | false=>rw[hq]at h;cases h
   | true =>
     rw[Bool.and_eq_true]at hq
     obtain⟨h1,h2⟩:=AlU hq.1
     exact .inr ⟨h2,h1,by simpa using hq.2,hq.1⟩
theorem sG {g:Gn} {c:Bool} (h:Dp g c=0):(JA g).length<=4498:=by
  unfold JA
  rcases Aa3 h with ⟨h1,_,h3⟩ | ⟨h1,h2,_,_⟩
  ·rw[Jb h1,cond_true]
   have:=Sp.BM 164 (nmB g.2.2)
   have:=(Yt h3).1
   omega
  ·rw[Ja (by omega),cond_false]
   have:=Sp.BM (128+g.1).toNat g.2.1
   omega
def iT (g:Gn) (c:Bool):Bs×Int:=bif Dp g c != 0 then([],Dp g c)else(JA g,0)
theorem Wl (N:Nat) (g:Gn) (c:Bool) (hN:1048578<N) (hs:Jr g):EY N g c=some (iT g c):=by
  unfold EY iT
  try simp only[clR]
  rw[Ll N g c hN hs,Ae,<- Bc]
  refine CW fun h0=> ?_
  have h0:Dp g c=0:=by simpa using h0
  unfold JA
  rcases Aa3 h0 with ⟨h1,_,h3⟩ | ⟨h1,h2,_,_⟩
  ·have hl:=(Yt h3).1
   have w:Ci N 164 [nmB g.2.2]=_:=vG N 164 [nmB g.2.2] (by omega) (by omega) hN (by simp) (by rw[Cj];omega)
   rw[Cj]at w
   rw[AdF h1,cond_false,Jb h1,cond_true,wJ N g.2.2 hN hs.2,Ae,h3,h1]
   show Ac (Ci N 164 [nmB g.2.2]) _=_
   rw[w,Ae]
  ·have hk:(128+g.1)=((128+g.1).toNat:Int):=by omega
   have w:=vG N (128+g.1).toNat [g.2.1] (by omega) (by omega) hN (by simp) (by rw[Cj];omega)
   rw[Cj,<- hk]at w
   rw[AdG (by omega),cond_true,Ja (by omega),cond_false,w64 (by omega) (by omega),w,Ae]
theorem qZ (N:Nat) (g:Gn) (c:Bool) (hN:1048578<N) (hs:Jr g):Gv N g c=some (iT g c):=by
  unfold Gv iT
  try simp only[clR]
  rw[JC N g c hN hs,Ae,<- Bc]
  refine CW fun h0=> ?_
  have h0:Dp g c=0:=by simpa using h0
  unfold JA
  rcases Aa3 h0 with ⟨h1,_,h3⟩ | ⟨h1,h2,_,_⟩
  ·have hl:=(Yt h3).1
   have w:Bd N 164 [nmB g.2.2]=_:=SX N 164 [nmB g.2.2] (by omega) (by omega) hN (by simp) (by rw[Cj];omega)
   rw[Cj]at w
   rw[Jb h1,cond_true,cond_true,AbX N g.2.2 hN hs.2,Ae,h3,h1]
   show Ac (Bd N 164 [nmB g.2.2]) _=_
   rw[w,Ae]
  ·have hk:(128+g.1)=((128+g.1).toNat:Int):=by omega
   have w:=SX N (128+g.1).toNat [g.2.1] (by omega) (by omega) hN (by simp) (by rw[Cj];omega)
   rw[Cj,<- hk]at w
   rw[Ja (by omega),cond_false,cond_false,w64 (by omega) (by omega),w,Ae]
def QU (c:Bool) (g:Gn):Bs:=bif Dp g c != 0 then []else JA g
theorem Ab0 (c:Bool) (g:Gn):(QU c g).length<=4498:=by
  unfold QU
  cases h:Dp g c != 0 with
  | true=>exact Nat.zero_le _
  | false=>exact sG (c:=c) (by simpa using h)
theorem AiR (g:Gn) (c:Bool):iT g c=(QU c g,Dp g c):=by
  unfold iT QU
  cases h:Dp g c != 0 with
  | true=>rfl
  | false=>rw[show Dp g c=0 by simpa using h];rfl
theorem Ab1 {c:Bool} {l:List Gn} (h:Bq (fun g=>Dp g c) l=0):l.map (QU c)=l.map JA:=by
  refine List.map_congr_left fun g hg=> ?_
  have:=jX h g hg
  unfold QU
  rw[show Dp g c=0 from this];rfl
def ER (l:List Gn):Bs:=(l.map JA).flatten
def nJ (l:List Gn):Bs×Int:=bif l.isEmpty then([],7)else bif decide (16<l.length)then([],2)else bif Jl l false != 0 then([],Jl l false)else(ER l,0)
theorem Ab7 {l:List Gn} {c:Bool} (h:Bq (fun g=>Dp g c) l=0) (h16:l.length<=16):(ER l).length<=71968:=by
  have:=Hr (g:=JA) (M:=4498) (l:=l) (fun g hg=>sG (c:=c) (jX h g hg))
  unfold ER
  omega
theorem dV (N:Nat) (l:List Gn) (hN:1048578<N) (hs:DC l):EG N l=some (nJ l):=by
  unfold EG nJ MN
  try simp only[clR]
  rw[len0,show decide (((l.length:Nat):Int)>16)=decide (16<l.length)from Q8 _ 16]
  cases he:l.isEmpty with
  | true=>rfl
  | false =>
    rw[cond_false,cond_false]
    by_cases h16:16<l.length
    ·rw[decide_eq_true h16];rfl
    ·rw[decide_eq_false h16,cond_false,cond_false,Ae]
     show Ap _ N _ _=_
     refine(rE (mk:=fun i t=>(t,(i:Int))) l (0,[],[]) (fun g=>Dp g false) (QU false) (fun e=>some ([],e)) (fun t=>some (t,0)) ?_ ?_ N (by omega)).trans ?_
     ·intro i t hi ht k
      have hg:=Wl N _ false hN (hs _ (getD_mem (0,[],[]) hi))
      have hl:=Hr (g:=QU false) (M:=4498) (l:=l) (fun g _=>Ab0 false g)
      rw[AiR]at hg
      simp (disch:=first | assumption | omega) only[Am,hg,BZ]
     ·intro t k
      simp (disch:=first | assumption | omega) only[Am]
     ·unfold Jl
      rw[<- Bc]
      refine CW fun h=> ?_
      rw[Ab1 (by simpa using h)];rfl
theorem aZ (N:Nat) (l:List Gn) (hN:1048578<N) (hs:DC l):Gp N l=some (nJ l):=by
  unfold Gp nJ
  try simp only[clR]
  rw[len0,show decide (((l.length:Nat):Int)>16)=decide (16<l.length)from Q8 _ 16]
  cases he:l.isEmpty with
  | true=>rfl
  | false =>
    rw[cond_false,cond_false]
    by_cases h16:16<l.length
    ·rw[decide_eq_true h16];rfl
    ·rw[decide_eq_false h16,cond_false,cond_false]
     refine(rE (mk:=fun i t=>(t,(i:Int))) l (0,[],[]) (fun g=>Dp g false) (QU false) (fun e=>some ([],e)) (fun t=>some (t,0)) ?_ ?_ N (by omega)).trans ?_
     ·intro i t hi ht k
      have hg:=qZ N _ false hN (hs _ (getD_mem (0,[],[]) hi))
      have hl:=Hr (g:=QU false) (M:=4498) (l:=l) (fun g _=>Ab0 false g)
      rw[AiR]at hg
      simp (disch:=first | assumption | omega) only[Am,hg,BZ]
     ·intro t k
      simp (disch:=first | assumption | omega) only[Am]
     ·unfold Jl
      rw[<- Bc]
      refine CW fun h=> ?_
      rw[Ab1 (by simpa using h)];rfl
def AmM (t:Nat) (c:Bs):Bs×Int:=((DZ t c).getD [],if(DZ t c).isNone then 2 else 0)
def flB (n:Int):Bs:=((GI 70 n).getD ([],0)).1
theorem flags_all (M:Nat): ∀ n:Fin 512,GI (M+70) (n.val:Int)=some (flB (n.val:Int),0)/\L6 (M+70) (n.val:Int)=some (flB (n.val:Int),0)/\(flB (n.val:Int)).length<=3 :=
  of_decide_eq_true (by kernel_rfl)
theorem WW (N:Nat) (n:Int) (hN:1048578<N) (h0:0<=n) (h1:n<512):GI N n=some (flB n,0)/\L6 N n=some (flB n,0)/\(flB n).length<=3:=by
  obtain⟨M,rfl⟩: ∃ M,N=M+70:=⟨N - 70,by omega⟩
  have:=flags_all M ⟨n.toNat,by omega⟩
  rw[show((⟨n.toNat,by omega⟩:Fin 512).val:Int)=n from Int.toNat_of_nonneg h0]at this
  exact this
def spP (r:Bs) (k:Nat):Bool:=k==0||(!r.isEmpty&&(r.getD (r.length - 1) 0).toNat % 2 ^ k==0)
theorem Ann:((List.range 256).all fun b=>(List.range 8).all fun k=>(Ba BinOp.and .u8 (b:Int) (IntKind.u8.wrap (IntKind.u8.wrap (1*2 ^ min k 8) - 1))==0)==(b % 2 ^ k==0))=true:=by kernel_rfl
theorem Amr {b k:Nat} (hb:b<256) (hk:k<8):(Ba BinOp.and .u8 (b:Int) (IntKind.u8.wrap (IntKind.u8.wrap (1*2 ^ min k 8) - 1))==0)=(b % 2 ^ k==0):=by
  have h:=List.all_eq_true.1 (List.all_eq_true.1 Ann b (List.mem_range.2 hb)) k (List.mem_range.2 hk)
  exact beq_iff_eq.1 h
theorem Ala (N:Nat) (r:Bs) (k:Nat) (hk:k<8) (hr:r.length<=1048576):P8 N r (k:Int)=some (spP r k):=by
  unfold P8 spP
  try simp only[clR]
  have hu:IntKind.u64.wrap (k:Int)=(k:Int):=by
    show((k:Int) % 18446744073709551616)=k
    omega
  cases hr0:r with
  | nil =>
    by_cases h0:k=0
    ·subst h0;rfl
    ·rw[show((k:Int)==0)=false by simp;omega,show(k==0)=false by simp [h0]]
     rfl
  | cons x y =>
    rw[<- hr0]
    have hp:0<r.length:=by rw[hr0];exact Nat.succ_pos _
    have hn:(r==[])=false:=by rw[hr0];rfl
    have he:r.isEmpty=false:=by rw[hr0];rfl
    have hb:=(r.getD (r.length - 1) 0).toNat_lt
    rw[hu,hn,he]
    by_cases h0:k=0
    ·subst h0;rfl
    ·simp (disch:=first | assumption | omega) only[Am,Amr hb hk]
     rw[show(k==0)=false by simp [h0]]
     rfl
def I9 (s:Bs):Bs×Int×Int:=match s with
  | []=>([],0,7)
  | u::r=>bif decide (7<u.toNat)|| !spP r u.toNat then([],0,7)else(r,(u.toNat:Int),0)
theorem AdJ (u:UInt8) (r:Bs):Ar (u::r) 1 (u::r).length=r:=by
  show((u::r).take (u::r).length).drop 1=r
  rw[List.take_length];rfl
theorem AeH (N:Nat) (s:Bs) (hs:s.length<=1048576):WE N s=some (I9 s):=by
  cases s with
  | nil=>rfl
  | cons u r =>
    have hr:r.length<=1048576:=by rw[List.length_cons]at hs;omega
    have hu:=u.toNat_lt
    unfold WE I9
    try simp only[clR]
    rw[AdJ]
    have hl:(u::r).length=r.length+1:=rfl
    have hn:((u::r)==([]:Bs))=false:=rfl
    by_cases h7:7<u.toNat
    ·simp (disch:=first | assumption | omega) only[Am,hl,hn,List.getD_cons_zero]
    ·have hS:=Ala N r u.toNat (by omega) hr
     simp (disch:=first | assumption | omega) only[Am,hl,hn,List.getD_cons_zero,hS,Option.isSome_some,Option.getD_some]
     rw[Bc]
theorem Anm:((List.range 256).all fun b=>(List.range 8).all fun k=>((b:Int).tmod (i64.wrap (1*2 ^ min k 64)) != 0)== !(b % 2 ^ k==0))=true:=by kernel_rfl
theorem Aml {b k:Nat} (hb:b<256) (hk:k<8):((b:Int).tmod (i64.wrap (1*2 ^ min k 64)) != 0)= !(b % 2 ^ k==0):=by
  have h:=List.all_eq_true.1 (List.all_eq_true.1 Anm b (List.mem_range.2 hb)) k (List.mem_range.2 hk)
  exact beq_iff_eq.1 h
theorem Amm {k:Nat} (hk:k<8):(i64.wrap (1*2 ^ min k 64) != 0)=true:=by
  have h:=List.all_eq_true.1 (show((List.range 8).all fun k=>(i64.wrap (1*2 ^ min k 64) != 0))=true by kernel_rfl) k (List.mem_range.2 hk)
  exact h
theorem Ac9 (N:Nat) (s:Bs) (hs:s.length<=1048576):Ud N s=some (I9 s):=by
  cases s with
  | nil=>rfl
  | cons u r =>
    have hr:r.length<=1048576:=by rw[List.length_cons]at hs;omega
    have hu:=u.toNat_lt
    unfold Ud I9 spP
    try simp only[clR]
    rw[AdJ]
    have hl:(u::r).length=r.length+1:=rfl
    by_cases h7:7<u.toNat
    ·simp (disch:=first | assumption | omega) only[Am,hl,List.getD_cons_zero]
    ·by_cases h0:u.toNat=0
     ·simp (disch:=first | assumption | omega) only[Am,hl,List.getD_cons_zero,h0]
      rfl
     ·have hz:=Amm (k:=u.toNat) (by omega)
      cases hr0:r with
      | nil =>
        have hl: [u].length=1:=rfl
        simp (disch:=first | assumption | omega) only[Am,hl,List.getD_cons_zero,hz]
        rw[show(u.toNat==0)=false by simp [h0]]
        rfl
      | cons x y =>
        rw[<- hr0]
        have hp:0<r.length:=by rw[hr0];exact Nat.succ_pos _
        have he:r.isEmpty=false:=by rw[hr0];rfl
        have hb:=(r.getD (r.length - 1) 0).toNat_lt
        have hg:(u::r).getD (r.length+1 - 1) 0=r.getD (r.length - 1) 0:=by
          rw[show r.length+1 - 1=r.length by omega]
          rw[hr0];rfl
        have hm:=Aml hb (show u.toNat<8 by omega)
        simp (disch:=first | assumption | omega) only[Am,hl,List.getD_cons_zero,hz,hg,hm]
        rw[show(u.toNat==0)=false by simp [h0],he,Bc]
        rfl
theorem Ah3 {E R S:Type} (f:E->S->S): ∀(l:List E) (s:S),Gt (R:=R) (fun e s=>.inr (f e s)) l s= .inr (l.foldl (fun s e=>f e s) s):=by
  intro l
  induction l with
  | nil=>intro s;rfl
  | cons e r ih=>intro s;rw[FB];exact ih _
theorem QB {X Y S ρ :Type} {B:X->(X->Option ρ)->(Y->Option ρ)->Option ρ} {kx:Y->Option ρ} (mk:Nat->S->X) (n:Nat) (f:Nat->S->S) (fin:S->Option ρ)
    (h: ∀(i:Nat) (s:S),i<n-> ∀ k,B (mk i s) k kx=k (mk (i+1) (f i s)))
    (hend: ∀(s:S) (k:X->Option ρ),B (mk n s) k kx=fin s) (N:Nat) (s:S) (hN:n<N):Ap B N (mk 0 s) kx=fin ((List.range n).foldl (fun s i=>f i s) s):=by
  refine(GV (R:=Unit) mk (List.range n) 0 (fun i s=>.inr (f i s)) (fun _=>none) fin ?_ ?_ N s (by rw[List.length_range];exact hN)).trans ?_
  ·intro i s hi k
   rw[List.length_range]at hi
   rw[AeM hi];exact h i s hi k
  ·intro s k;rw[List.length_range];exact hend s k
  ·rw[Ah3];rfl
def SI (r:Bs) (i:Nat):Bool:=(r.getD (i / 8) 0).toNat / 2 ^ (7 - i % 8) % 2==1
theorem AmE:((List.range 256).all fun b=>(List.range 8).all fun k=>((Ba BinOp.and .u8 ((b:Int).fdiv (2 ^ min k 8)) 1==1)==(b / 2 ^ k % 2==1))&&(((((b:Int).fdiv (2 ^ min k 8)).tmod 2==1)==(b / 2 ^ k % 2==1))&&((((b:Int).fdiv (2 ^ min k 8)).tmod 2==0)== !(b / 2 ^ k % 2==1))))=true:=by kernel_rfl
theorem Aai {b k:Nat} (hb:b<256) (hk:k<8):(Ba BinOp.and .u8 ((b:Int).fdiv (2 ^ min k 8)) 1==1)=(b / 2 ^ k % 2==1)/\(((b:Int).fdiv (2 ^ min k 8)).tmod 2==1)=(b / 2 ^ k % 2==1)/\(((b:Int).fdiv (2 ^ min k 8)).tmod 2==0)= !(b / 2 ^ k % 2==1):=by
  have h:=List.all_eq_true.1 (List.all_eq_true.1 AmE b (List.mem_range.2 hb)) k (List.mem_range.2 hk)
  simp only[Bool.and_eq_true]at h
  exact⟨beq_iff_eq.1 h.1,beq_iff_eq.1 h.2.1,beq_iff_eq.1 h.2.2⟩
theorem Abj {x:Int} (h0:0<=x) (h1:x<18446744073709551616):IntKind.u64.wrap x=x:=by
  show x % 18446744073709551616=x
  omega
theorem qM (N:Nat) (r:Bs) (i:Nat) (hr:r.length<=1048576) (hi:i<8*r.length):QI N r (i:Int)=some (SI r i):=by
  unfold QI
  try simp only[clR]
  have e1:(i:Int).tdiv 8=((i / 8:Nat):Int):=rfl
  have e2:(i:Int).tmod 8=((i % 8:Nat):Int):=rfl
  have e3:IntKind.u64.wrap ((i % 8:Nat):Int)=((i % 8:Nat):Int):=Abj (by omega) (by omega)
  have e4:IntKind.u64.wrap (7 - ((i % 8:Nat):Int))=((7 - i % 8:Nat):Int):=by rw[Abj (by omega) (by omega)];omega
  rw[e1,e2,e3,e4]
  have hb:=(Aai (r.getD (i / 8) 0).toNat_lt (show 7 - i % 8<8 by omega)).1
  simp (disch:=first | assumption | omega) only[Am,hb]
  rfl
theorem AdE (s:Bs) (h:((I9 s).2.2 != 0)=false): ∃ r k,I9 s=(r,((k:Nat):Int),0)/\k<8/\(r=[]->k=0)/\r.length<=s.length:=by
  cases s with
  | nil=>cases h
  | cons u r =>
    unfold I9 at h ⊢
    dsimp only at h ⊢
    cases hb:decide (7<u.toNat)|| !spP r u.toNat with
    | true=>rw[hb]at h;cases h
    | false =>
      rw[Bool.or_eq_false_iff]at hb
      have h7:=of_decide_eq_false hb.1
      refine⟨r,u.toNat,rfl,by omega,fun hr=> ?_,by rw[List.length_cons];omega⟩
      subst hr
      have:=hb.2
      unfold spP at this
      by_cases h0:u.toNat=0
      ·exact h0
      ·rw[show(u.toNat==0)=false by simp [h0]]at this
       cases this
def flV (r:Bs) (n:Nat):Int×Int :=
  bif decide (0<n)&& !SI r (n - 1)then(0,7)else bif decide (16<n)then(0,1)else
  ((List.range n).foldl (fun acc i=>bif SI r i then Ba .or .i64 acc (i64.wrap (1*2 ^ min i 64))else acc) 0,0)
def flP (s:Bs):Int×Int:=bif (I9 s).2.2 != 0 then(0,(I9 s).2.2)else flV (I9 s).1 (8*(I9 s).1.length - (I9 s).2.1.toNat)
theorem Ac4 (N:Nat) (s:Bs) (hN:1048578<N) (hs:s.length<=1048576):Pz N s=some (flP s):=by
  unfold Pz flP
  try simp only[clR]
  rw[AeH N s hs,Ae]
  cases h:(I9 s).2.2 != 0 with
  | true=>rfl
  | false =>
    obtain⟨r,k,he,hk,h0,hr⟩:=AdE s h
    rw[he]
    dsimp only[cond_false]
    unfold flV
    have hz:r.length=0->k=0:=fun e=>h0 (List.length_eq_zero_iff.1 e)
    have e1:i64.wrap (8*(r.length:Int))=((8*r.length:Nat):Int):=by rw[w64 (by omega) (by omega)];omega
    have e2:i64.wrap (((8*r.length:Nat):Int) - (k:Int))=((8*r.length - k:Nat):Int):=by rw[w64 (by omega) (by omega)];omega
    rw[e1,e2,Int.toNat_natCast]
    have hn:8*r.length - k<=8*r.length:=Nat.sub_le _ _
    generalize 8*r.length - k=n at hn
    by_cases hn0:n=0
    ·subst hn0
     simp (disch:=first | assumption | omega) only[Am]
     refine(QB (fun i acc=>(acc,(i:Int))) 0 (fun i acc=>acc) (fun acc=>some (acc,0)) ?_ ?_ N 0 (by omega)).trans rfl
     ·intro i acc hi k2;omega
     ·intro acc k2
      simp (disch:=first | assumption | omega) only[Am]
    ·have e3:i64.wrap ((n:Int) - 1)=((n - 1:Nat):Int):=by rw[w64 (by omega) (by omega)];omega
     have hB:=qM N r (n - 1) (by omega) (by omega)
     rw[e3,hB]
     by_cases h16:16<n
     ·simp (disch:=first | assumption | omega) only[Am,Option.isSome_some,Option.getD_some]
      rw[Bc]
     ·simp (disch:=first | assumption | omega) only[Am,Option.isSome_some,Option.getD_some]
      rw[<- Bc]
      refine CW fun _=> ?_
      refine(QB (fun i acc=>(acc,(i:Int))) n (fun i acc=>bif SI r i then Ba .or .i64 acc (i64.wrap (1*2 ^ min i 64))else acc) (fun acc=>some (acc,0)) ?_ ?_ N 0 (by omega)).trans rfl
      ·intro i acc hi k2
       have hB:=qM N r i (by omega) (by omega)
       have hu:=Abj (x:=(i:Int)) (by omega) (by omega)
       simp (disch:=first | assumption | omega) only[Am,hB,hu]
       cases SI r i<;>rfl
      ·intro acc k2
       simp (disch:=first | assumption | omega) only[Am]
theorem AaS (N:Nat) (s:Bs) (hN:1048578<N) (hs:s.length<=1048576):QZ N s=some (flP s):=by
  unfold QZ flP
  try simp only[clR]
  rw[Ac9 N s hs,Ae]
  cases h:(I9 s).2.2 != 0 with
  | true=>rfl
  | false =>
    obtain⟨r,k,he,hk,h0,hr⟩:=AdE s h
    rw[he]
    dsimp only[cond_false]
    unfold flV
    have hz:r.length=0->k=0:=fun e=>h0 (List.length_eq_zero_iff.1 e)
    have e1:i64.wrap (8*(r.length:Int))=((8*r.length:Nat):Int):=by rw[w64 (by omega) (by omega)];omega
    have e2:i64.wrap (((8*r.length:Nat):Int) - (k:Int))=((8*r.length - k:Nat):Int):=by rw[w64 (by omega) (by omega)];omega
    rw[e1,e2,Int.toNat_natCast]
    have hn:8*r.length - k<=8*r.length:=Nat.sub_le _ _
    have hlast:0<8*r.length - k->((((r.getD (r.length - 1) 0).toNat:Int).fdiv (2 ^ min k 8)).tmod 2==0)= !SI r (8*r.length - k - 1):=by
      intro hp
      rw[(Aai (r.getD (r.length - 1) 0).toNat_lt hk).2.2]
      unfold SI
      rw[show(8*r.length - k - 1) / 8=r.length - 1 by omega,show 7 - (8*r.length - k - 1) % 8=k by omega]
    have hpos:0<8*r.length - k->0<r.length:=by omega
    generalize 8*r.length - k=n at hn hlast hpos
    by_cases hn0:n=0
    ·subst hn0
     simp (disch:=first | assumption | omega) only[Am]
     refine(QB (fun i acc=>(acc,(i:Int))) 0 (fun i acc=>acc) (fun acc=>some (acc,0)) ?_ ?_ N 0 (by omega)).trans rfl
     ·intro i acc hi k2;omega
     ·intro acc k2
      simp (disch:=first | assumption | omega) only[Am]
    ·have hL:=hlast (by omega)
     have hp:=hpos (by omega)
     by_cases h16:16<n
     ·simp (disch:=first | assumption | omega) only[Am,hL]
      rw[Bc]
     ·simp (disch:=first | assumption | omega) only[Am,hL]
      rw[<- Bc]
      refine CW fun _=> ?_
      refine(QB (fun i acc=>(acc,(i:Int))) n (fun i acc=>bif SI r i then Ba .or .i64 acc (i64.wrap (1*2 ^ min i 64))else acc) (fun acc=>some (acc,0)) ?_ ?_ N 0 (by omega)).trans rfl
      ·intro i acc hi k2
       have f1:(i:Int).tdiv 8=((i / 8:Nat):Int):=rfl
       have f2:(i:Int).tmod 8=((i % 8:Nat):Int):=rfl
       have f3:(7:Int) - ((i % 8:Nat):Int)=((7 - i % 8:Nat):Int):=by omega
       have hb:=(Aai (r.getD (i / 8) 0).toNat_lt (show 7 - i % 8<8 by omega)).2.1
       dsimp only[U2]
       rw[f1,f2,f3]
       simp (disch:=first | assumption | omega) only[Am,hb]
       unfold SI
       cases (r.getD (i / 8) 0).toNat / 2 ^ (7 - i % 8) % 2==1<;>rfl
      ·intro acc k2
       simp (disch:=first | assumption | omega) only[Am]
def DJ (s:Bs) (t:Int):El×Int:=bif (BI s).2 != 0 then((0,[],[]),(BI s).2)else bif (BI s).1.1 != t then((0,[],[]),5)else((BI s).1,0)
theorem AgW (N:Nat) (s:Bs) (t:Int) (hN:1048578<N) (hs:s.length<=1048576):Q4 N s t=some (DJ s t):=by
  unfold Q4 DJ
  try simp only[clR]
  rw[aU N s (by omega) (by omega),Ae]
  simp only[Bc]
theorem Afl (N:Nat) (s:Bs) (t:Int) (hN:1048578<N) (hs:s.length<=1048576):MZ N s t=some (DJ s t):=by
  unfold MZ DJ
  try simp only[clR]
  rw[Vl N s (by omega) (by omega),Ae]
  simp only[Bc]
theorem NS (s:Bs) (t:Int):(DJ s t).1.2.1.length<=s.length:=by
  have hc:=Hy s
  unfold DJ
  cases (BI s).2 != 0 with
  | true=>show 0<=_;omega
  | false =>
    cases (BI s).1.1 != t with
    | true=>show 0<=_;omega
    | false=>exact hc.1
def st1 (l:List El):List Gn×Int :=
  bif (BC l 160).2.1 then(bif (DJ (BC l 160).1.2.1 160).2 != 0 then([],(DJ (BC l 160).1.2.1 160).2)else E5 (DJ (BC l 160).1.2.1 160).1.2.1)else([],0)
def st2 (l:List El):Int×Int :=
  bif (BC l 129).2.1 then(bif (flP (BC l 129).1.2.1).2 != 0 then(0,(flP (BC l 129).1.2.1).2)else bif (flP (BC l 129).1.2.1).1==0 then(0,7)else((flP (BC l 129).1.2.1).1,0))else(0,0)
def Q9 (s:Bs):List (List Att)×Int :=
  bif (E5 s).2 != 0 then([],(E5 s).2)else bif ((E5 s).1.length:Int) != 1||((E5 s).1.getD 0 (0,[],[])).1 != 4 then([],7)else(((E5 s).1.getD 0 (0,[],[])).2.2,0)
def st3 (l:List El):(Bool×List (List Att))×Int :=
  bif (BC l 162).2.1 then(bif (Q9 (BC l 162).1.2.1).2 != 0 then((false,[]),(Q9 (BC l 162).1.2.1).2)else((true,(Q9 (BC l 162).1.2.1).1),0))else((false,[]),0)
def r1 (l:List El):List El:=(BC l 160).2.2
def r2 (l:List El):List El:=(BC (r1 l) 129).2.2
def r3 (l:List El):List El:=(BC (r2 l) 162).2.2
def zP:Pt:=([],0,false,[])
def ptD (l:List El):Pt×Int :=
  bif (st1 l).2 != 0 then(zP,(st1 l).2)else bif (st2 (r1 l)).2 != 0 then(zP,(st2 (r1 l)).2)else bif (st3 (r2 l)).2 != 0 then(zP,(st3 (r2 l)).2)else
  bif decide (r3 l≠ [])then(zP,4)else(((st1 l).1,(st2 (r1 l)).1,(st3 (r2 l)).1.1,(st3 (r2 l)).1.2),0)
theorem Jv {l:List El} (hg:Good 1048576 l) (t:Int) (h:(BC l t).2.1=true):(BC l t).1.2.1.length<=1048576:=by have:=((sN hg t).2 h).content;omega
theorem Aa6 {l:List El} (hg:Good 1048576 l):Good 1048576 (r1 l):=(sN hg 160).1
theorem nH {l:List El} (hg:Good 1048576 l):Good 1048576 (r2 l):=(sN (Aa6 hg) 129).1
theorem Anp (N:Nat) (l:List El) (hN:1048578<N) (hg:Good 1048576 l) (J:List El×List Gn->Option (Pt×Int×List El)) :
    (Ac (D8 N l 160) fun r20=>bif r20.2.1 then Ac (Q4 N r20.1.2.1 160) fun r27=>bif r27.2 != 0 then some (zP,r27.2,r20.2.2)else Ac (Ec N r27.1.2.1) fun r37=>bif r37.2 != 0 then some (zP,r37.2,r20.2.2)else J (r20.2.2,r37.1)else J (r20.2.2,[]))
      = bif (st1 l).2 != 0 then some (zP,(st1 l).2,r1 l)else J (r1 l,(st1 l).1):=by
  rw[Ad0,Ae]
  unfold st1 r1
  cases h1:(BC l 160).2.1 with
  | false=>rfl
  | true =>
    have hl1:=Jv hg 160 h1
    have ho:=NS (BC l 160).1.2.1 160
    rw[cond_true,cond_true,AgW N _ 160 hN hl1,Ae]
    cases h2:(DJ (BC l 160).1.2.1 160).2 != 0 with
    | true=>rw[cond_true,cond_true,h2];rfl
    | false=>rw[cond_false,cond_false,Qe N _ hN (by omega),Ae]
theorem Anq (N:Nat) (l:List El) (hN:1048578<N) (hg:Good 1048576 l) (J:List El×Int->Option (Pt×Int×List El)) :
    (Ac (D8 N l 129) fun r47=>bif r47.2.1 then Ac (Pz N r47.1.2.1) fun r54=>bif r54.2 != 0 then some (zP,r54.2,r47.2.2)else bif r54.1==0 then some (zP,7,r47.2.2)else J (r47.2.2,r54.1)else J (r47.2.2,0))
      = bif (st2 l).2 != 0 then some (zP,(st2 l).2,(BC l 129).2.2)else J ((BC l 129).2.2,(st2 l).1):=by
  rw[Ad0,Ae]
  unfold st2
  cases h1:(BC l 129).2.1 with
  | false=>rfl
  | true =>
    have hl1:=Jv hg 129 h1
    rw[cond_true,cond_true,Ac4 N _ hN hl1,Ae]
    cases h2:(flP (BC l 129).1.2.1).2 != 0 with
    | true=>rw[cond_true,cond_true,h2];rfl
    | false =>
      rw[cond_false,cond_false]
      cases (flP (BC l 129).1.2.1).1==0<;>rfl
theorem Anr (N:Nat) (l:List El) (hN:1048578<N) (hg:Good 1048576 l) (J:List El×Bool×List (List Att)->Option (Pt×Int×List El)) :
    (Ac (D8 N l 162) fun r68=>bif r68.2.1 then Ac (Ec N r68.1.2.1) fun r75=>bif r75.2 != 0 then some (zP,r75.2,r68.2.2)else chk (decide ((0:Int)<(r75.1.length:Int))||((r75.1.length:Int) != 1))<|bif ((r75.1.length:Int) != 1)||((r75.1.getD 0 (0,[],[])).1 != 4)then some (zP,7,r68.2.2)else chk (decide ((0:Int)<(r75.1.length:Int)))<|J (r68.2.2,true,(r75.1.getD 0 (0,[],[])).2.2)else J (r68.2.2,false,[]))
      = bif (st3 l).2 != 0 then some (zP,(st3 l).2,(BC l 162).2.2)else J ((BC l 162).2.2,(st3 l).1.1,(st3 l).1.2):=by
  rw[Ad0,Ae]
  unfold st3 Q9
  cases h1:(BC l 162).2.1 with
  | false=>rfl
  | true =>
    have hl1:=Jv hg 162 h1
    rw[cond_true,cond_true,Qe N _ hN hl1,Ae]
    cases h2:(E5 (BC l 162).1.2.1).2 != 0 with
    | true=>simp only[h2,cond_true]
    | false =>
      rw[cond_false,cond_false]
      by_cases h3:(E5 (BC l 162).1.2.1).1.length=1
      ·simp (disch:=first | assumption | omega) only[Am,h3]
       cases ((E5 (BC l 162).1.2.1).1.getD 0 (0,[],[])).1 != 4<;>simp<;>rfl
      ·have h4:(((E5 (BC l 162).1.2.1).1.length:Int) != 1)=true:=by simp;omega
       rw[h4,Bool.or_true,Ai,Bool.true_or]
       rfl
theorem Aap (N:Nat) (l:List El) (hN:1048578<N) (hg:Good 1048576 l): ∃ rest,Gs N l=some ((ptD l).1,(ptD l).2,rest):=by
  unfold Gs
  try simp only[clR]
  rw[FW]
  refine Exists.imp (fun rest h=>Eq.trans (Anp N l hN hg _) h) ?_
  unfold ptD
  cases h1:(st1 l).2 != 0 with
  | true=>exact⟨_,rfl⟩
  | false =>
    rw[cond_false,cond_false]
    dsimp only[U2]
    rw[FW]
    refine Exists.imp (fun rest h=>Eq.trans (Anq N (r1 l) hN (Aa6 hg) (fun p=>U3 _ (p.1,(st1 l).1,p.2))) h) ?_
    cases h2:(st2 (r1 l)).2 != 0 with
    | true=>exact⟨_,rfl⟩
    | false =>
      rw[cond_false,cond_false]
      dsimp only[U3]
      rw[FW]
      refine Exists.imp (fun rest h=>Eq.trans (Anr N (r2 l) hN (nH hg) (fun p=>U5 _ (p.1,(st1 l).1,(st2 (r1 l)).1,p.2.1,p.2.2))) h) ?_
      cases h3:(st3 (r2 l)).2 != 0 with
      | true=>exact⟨_,rfl⟩
      | false =>
        rw[cond_false,cond_false]
        dsimp only[U5]
        rw[Al7,Ae]
        show ∃ rest,(bif (if r3 l=[]then(0:Int)else 4) != 0 then some (zP,(if r3 l=[]then(0:Int)else 4),r3 l)else some (((st1 l).1,(st2 (r1 l)).1,(st3 (r2 l)).1.1,(st3 (r2 l)).1.2),0,r3 l))=_
        by_cases h4:r3 l=[]
        ·rw[if_pos h4,decide_eq_false (fun h=>h h4)];exact⟨_,rfl⟩
        ·rw[if_neg h4,decide_eq_true h4];exact⟨_,rfl⟩
def rg (x:Int):Prop:= -9223372036854775808<=x/\x<=9223372036854775807
theorem rg0:rg 0:=⟨by decide,by decide⟩
theorem Als (x:Int):rg (i64.wrap x):=by
  by_cases h:x % 18446744073709551616>=9223372036854775808
  ·rw[show i64.wrap x=x % 18446744073709551616 - 18446744073709551616 from if_pos (decide_eq_true h)]
   exact⟨by omega,by omega⟩
  ·rw[show i64.wrap x=x % 18446744073709551616 from if_neg (fun e=>h (of_decide_eq_true e))]
   exact⟨by omega,by omega⟩
theorem AiO (r:Bs) (n:Nat):rg (flV r n).1:=by
  have key: ∀(l:List Nat) (a:Int),rg a->rg (l.foldl (fun acc i=>bif SI r i then Ba .or .i64 acc (i64.wrap (1*2 ^ min i 64))else acc) a):=by
    intro l
    induction l with
    | nil=>intro a h;exact h
    | cons x y ih =>
      intro a h
      refine ih _ ?_
      dsimp only
      cases SI r x with
      | false=>exact h
      | true=>exact Als _
  unfold flV
  cases decide (0<n)&& !SI r (n - 1)with
  | true=>exact rg0
  | false =>
    cases decide (16<n)with
    | true=>exact rg0
    | false=>exact key _ 0 rg0
theorem AiN (s:Bs):rg (flP s).1:=by
  unfold flP
  cases (I9 s).2.2 != 0 with
  | true=>exact rg0
  | false=>exact AiO _ _
theorem AgX (s:Bs) (hs:s.length<=1048576):DF (Q9 s).1:=by
  have h:=(xB s hs).1
  unfold Q9
  cases (E5 s).2 != 0 with
  | true=>intro p hp;cases hp
  | false =>
    cases hb:((E5 s).1.length:Int) != 1||((E5 s).1.getD 0 (0,[],[])).1 != 4 with
    | true=>intro p hp;cases hp
    | false =>
      rw[Bool.or_eq_false_iff]at hb
      have h1:(E5 s).1.length=1:=by
        have:=hb.1
        simp at this;omega
      exact(h _ (getD_mem (0,[],[]) (by omega))).2
theorem AjB {l:List El} (hg:Good 1048576 l):DC (st1 l).1:=by
  unfold st1
  cases h1:(BC l 160).2.1 with
  | false=>intro g hgm;cases hgm
  | true =>
    have hl1:=Jv hg 160 h1
    have ho:=NS (BC l 160).1.2.1 160
    cases (DJ (BC l 160).1.2.1 160).2 != 0 with
    | true=>intro g hgm;cases hgm
    | false=>exact(xB _ (by omega)).1
theorem AjC (l:List El):rg (st2 l).1:=by
  unfold st2
  cases (BC l 129).2.1 with
  | false=>exact rg0
  | true =>
    cases (flP (BC l 129).1.2.1).2 != 0 with
    | true=>exact rg0
    | false =>
      cases (flP (BC l 129).1.2.1).1==0 with
      | true=>exact rg0
      | false=>exact AiN _
theorem AjD {l:List El} (hg:Good 1048576 l):DF (st3 l).1.2:=by
  unfold st3
  cases h1:(BC l 162).2.1 with
  | false=>intro p hp;cases hp
  | true =>
    have hl1:=Jv hg 162 h1
    cases (Q9 (BC l 162).1.2.1).2 != 0 with
    | true=>intro p hp;cases hp
    | false=>exact AgX _ hl1
theorem QM:Di zP:=⟨fun g h=>(by cases h),fun p h=>(by cases h),by decide,by decide⟩
theorem Ajy {l:List El} (hg:Good 1048576 l):Di (ptD l).1:=by
  unfold ptD
  cases (st1 l).2 != 0 with
  | true=>exact QM
  | false =>
    cases (st2 (r1 l)).2 != 0 with
    | true=>exact QM
    | false =>
      cases (st3 (r2 l)).2 != 0 with
      | true=>exact QM
      | false =>
        cases decide (r3 l≠ [])with
        | true=>exact QM
        | false=>exact⟨AjB hg,AjD (nH hg),AjC _⟩
def elD (e:El):Pt×Int:=bif e.1 != 48 then(zP,5)else bif (AB e.2.1).2 != 0 then(zP,(AB e.2.1).2)else ptD (AB e.2.1).1
theorem Abw {e:El} (he:e.2.1.length<=1048576):Di (elD e).1:=by
  unfold elD
  cases e.1 != 48 with
  | true=>exact QM
  | false =>
    cases (AB e.2.1).2 != 0 with
    | true=>exact QM
    | false=>exact Ajy ((BG e.2.1).mono he)
def psD (l:List El):List Pt×Int :=
  bif l.isEmpty then([],7)else bif Bq (fun e=>(elD e).2) l != 0 then([],Bq (fun e=>(elD e).2) l)else
  bif IK (l.map fun e=>(elD e).1) != 0 then([],IK (l.map fun e=>(elD e).1))else(l.map fun e=>(elD e).1,0)
def uJ (s:Bs):List Pt×Int:=bif (DJ s 48).2 != 0 then([],(DJ s 48).2)else bif (AB (DJ s 48).1.2.1).2 != 0 then([],(AB (DJ s 48).1.2.1).2)else psD (AB (DJ s 48).1.2.1).1
theorem Agp (N:Nat) (l:List Pt) (hN:1048578<N) (hs: ∀ p∈l,Di p):BN N l=some (IK l):=MI N l hN hs
theorem Aik (N:Nat) (e:El) (r:List El) (hN:1048578<N) (he:e.2.1.length<=1048576):Ia N (e::r)=some (bif e.1 != 48 then .inr ((),5,e::r)else bif (AB e.2.1).2 != 0 then .inr ((),(AB e.2.1).2,r)else .inl ((AB e.2.1).1,0,r)):=by
  unfold Ia OQ Q5 Kq
  try simp only[clR]
  have hl:(e::r).length=r.length+1:=rfl
  simp (disch:=first | assumption | omega) only[Am,hl,List.getD_cons_zero,H8 N e.2.1 (by omega) (by omega) (by omega)]
  rw[<- hl,show Ar (e::r) 1 (e::r).length=r from by show((e::r).take (e::r).length).drop 1=r;rw[List.take_length];rfl]
  cases e.1 != 48 with
  | true=>rfl
  | false =>
    have hT:=H8 N e.2.1 (by omega) (by omega) (by omega)
    simp (disch:=first | assumption | omega) only[Am,hT]
    cases (AB e.2.1).2 != 0<;>rfl
theorem VB (N:Nat) (s:Bs) (hN:1048578<N) (hs:s.length<=1048576):Ep N s=some (uJ s):=by
  unfold Ep
  try simp only[clR]
  rw[AlA N s 48 (by omega) (by omega) (by omega)]
  have hc:=Hy s
  have hg:Good 1048576 (AB (BI s).1.2.1).1:=(BG _).mono (by omega)
  unfold uJ DJ AhG
  by_cases h1:(BI s).2=0
  ·have b1:((BI s).2 != 0)=false:=by simp [h1]
   rw[if_neg (fun h=>h h1),b1]
   simp only[cond_false]
   by_cases h2:(BI s).1.1=48
   ·have b2:((BI s).1.1 != 48)=false:=by simp [h2]
    rw[if_neg (fun h=>h h2),b2]
    simp only[cond_false]
    by_cases h3:(AB (BI s).1.2.1).2=0
    ·have b3:((AB (BI s).1.2.1).2 != 0)=false:=by simp [h3]
     rw[if_neg (fun h=>h h3),b3,Abp]
     generalize (AB (BI s).1.2.1).1=l at hg
     have hlen:=hg.len
     unfold JG psD
     cases hl:l with
     | nil=>rfl
     | cons a0 l0 =>
       rw[<- hl]
       have hp:0<l.length:=by rw[hl];exact Nat.succ_pos _
       have he:l.isEmpty=false:=by rw[hl];rfl
       rw[he]
       simp (disch:=first | assumption | omega) only[Am]
       refine(Alf (R:=Int) (fun r acc=>(r,acc)) (fun r (acc:List Pt)=>Good 1048576 r/\acc.length+r.length<=1048576) (fun e acc=>bif (elD e).2 != 0 then .inl (elD e).2 else .inr (acc++[(elD e).1])) (fun e=>some ([],e)) (fun acc=>Ac (BN N acc) fun r46=>bif r46 != 0 then some ([],r46)else some (acc,0)) ?_ ?_ ?_ N l [] ⟨hg,by simpa using hlen⟩ (by omega)).trans ?_
       ·intro e r acc hI k
        have hee:=(hI.1.all e List.mem_cons_self).content
        have hlr:(e::r).length=r.length+1:=rfl
        have hI2:=hI.2
        rw[hlr]at hI2
        have hIn:=Aik N e r hN (by omega)
        simp (disch:=first | assumption | omega) only[Am,hlr,hIn]
        unfold elD
        cases b4:e.1 != 48 with
        | true=>rfl
        | false =>
          cases b5:(AB e.2.1).2 != 0 with
          | true =>
            simp only[cond_false,cond_true,b5,VY]
          | false =>
            obtain⟨rest,hd⟩:=Aap N (AB e.2.1).1 hN ((BG e.2.1).mono (by omega))
            simp only[cond_false,Abp]
            simp (disch:=first | assumption | omega) only[Am,hd]
       ·intro e r acc acc' hI hst
        have hI2:=hI.2
        rw[show(e::r).length=r.length+1 from rfl]at hI2
        cases b4:(elD e).2 != 0 with
        | true=>rw[b4]at hst;cases hst
        | false =>
          rw[b4]at hst;injection hst with hst;subst hst
          exact⟨hI.1.tail,by rw[List.length_append];show acc.length+1+r.length<=_;omega⟩
       ·intro acc k hI
        simp (disch:=first | assumption | omega) only[Am]
        rfl
       ·rw[y7,FO,List.nil_append]
        cases Bq (fun e=>(elD e).2) l != 0 with
        | true=>rfl
        | false =>
          rw[cond_false,Aao,Agp N _ hN (fun p hp=>by
            obtain⟨x,hx,rfl⟩:=List.mem_map.1 hp
            exact Abw (by have:=(hg.all x hx).content;omega)),Ae,Bc]
          rfl
    ·have b3:((AB (BI s).1.2.1).2 != 0)=true:=by simp [h3]
     rw[if_pos h3,b3,VY,b3];rfl
   ·have b2:((BI s).1.1 != 48)=true:=by simp [h2]
    rw[if_pos h2,b2,VY];rfl
  ·have b1:((BI s).2 != 0)=true:=by simp [h1]
   rw[if_pos h1,b1,VY]
   simp only[cond_true,b1]
theorem AnT (N:Nat) (es l:List El) (x:List El×Int) (hN:1048578<N) (hx:At es l x) (hl:es.length<=1048576) (hg:Good 1048576 l) :
    ∃ y,EE N x=some ((st1 l).1,(st1 l).2,y)/\At es (r1 l) y:=by
  obtain⟨y,hy,ha⟩:=Ad2 N es l x hx (by omega) 160
  refine⟨y,?_,ha⟩
  unfold EE st1
  try simp only[clR]
  rw[hy,Ae]
  dsimp only
  cases h1:(BC l 160).2.1 with
  | false=>rfl
  | true =>
    have hl1:=Jv hg 160 h1
    have ho:=NS (BC l 160).1.2.1 160
    rw[Bool.not_true,cond_false,cond_true,Afl N _ 160 hN hl1,Ae]
    cases h2:(DJ (BC l 160).1.2.1 160).2 != 0 with
    | true=>rfl
    | false=>rw[cond_false,cond_false,aY N _ hN (by omega),Ae]
theorem Ama (N:Nat) (s:Bs) (hN:1048578<N) (hs:s.length<=1048576):Ue N s=some (bif (flP s).2 != 0 then(0,(flP s).2)else bif (flP s).1==0 then(0,7)else((flP s).1,0)):=by
  unfold Ue
  try simp only[clR]
  rw[AaS N s hN hs,Ae]
  simp only[Bc]
theorem AnU (N:Nat) (es l:List El) (x:List El×Int) (hN:1048578<N) (hx:At es l x) (hl:es.length<=1048576) (hg:Good 1048576 l) :
    ∃ y,Fb N x 129=some ((st2 l).1,(st2 l).2,y)/\At es (BC l 129).2.2 y:=by
  obtain⟨y,hy,ha⟩:=Ad2 N es l x hx (by omega) 129
  refine⟨y,?_,ha⟩
  unfold Fb st2
  try simp only[clR]
  rw[hy,Ae]
  dsimp only
  cases h1:(BC l 129).2.1 with
  | false=>rfl
  | true =>
    have hl1:=Jv hg 129 h1
    rw[Bool.not_true,cond_false,cond_true,Ama N _ hN hl1,Ae]
theorem AmJ (N:Nat) (s:Bs) (hN:1048578<N) (hs:s.length<=1048576):Eh N s=some (Q9 s):=by
  unfold Eh Q9
  try simp only[clR]
  rw[aY N s hN hs,Ae]
  cases (E5 s).2 != 0 with
  | true=>rfl
  | false =>
    rw[cond_false,cond_false]
    by_cases h3:(E5 s).1.length=1
    ·simp (disch:=first | assumption | omega) only[Am,h3]
     cases ((E5 s).1.getD 0 (0,[],[])).1 != 4<;>simp<;>rfl
    ·have h4:(((E5 s).1.length:Int) != 1)=true:=by simp;omega
     rw[h4,Bool.or_true,Ai,Bool.true_or]
     rfl
theorem Amc (N:Nat) (s:Bs) (hN:1048578<N) (hs:s.length<=1048576):Uf N s=some (bif (DJ s 48).2 != 0 then(([],0),(DJ s 48).2)else(((AB (DJ s 48).1.2.1).1,0),(AB (DJ s 48).1.2.1).2)):=by
  have hlo:=NS s 48
  have ht:((DJ s 48).2 != 0)=false->((DJ s 48).1.1 != 48)=false:=by
    unfold DJ
    cases hb:(BI s).2 != 0 with
    | true=>intro h;exact absurd h (by show ¬((BI s).2 != 0)=false;rw[hb];decide)
    | false =>
      cases h:(BI s).1.1 != 48 with
      | true=>intro h;cases h
      | false=>intro _;exact h
  unfold Uf
  try simp only[clR]
  rw[Afl N s 48 hN hs,Ae]
  cases h:(DJ s 48).2 != 0 with
  | true=>rfl
  | false =>
    rw[cond_false,cond_false,Uw N _ 48 hN (by omega),Ae]
    unfold ZJ
    rw[ht h]
    rfl
theorem AeZ (N:Nat) (l:List Pt) (hN:1048578<N) (hs: ∀ p∈l,Di p):CU N l=some (IK l):=PN N l hN hs
theorem Am0 {N:Nat} {es l:List El} {x:List El×Int} (h:At es l x):BR N (x.1,x.2)=some (if l=[]then 0 else 4,x):=Am2 N es l x h
theorem AnV (N:Nat) (es l:List El) (x:List El×Int) (hN:1048578<N) (hx:At es l x) (hl:es.length<=1048576) (hg:Good 1048576 l) (J:List El×Int->Bool->List (List Att)->Option (List Pt×Int)) :
    ∃ y,At es (BC l 162).2.2 y/\(Ac (D6 N x 162) fun r61=>bif r61.2.1 then Ac (Eh N r61.1.2.1) fun r69=>bif r69.2 != 0 then some ([],r69.2)else J (r61.2.2.1,r61.2.2.2) true r69.1 else J (r61.2.2.1,r61.2.2.2) false [])
      = bif (st3 l).2 != 0 then some ([],(st3 l).2)else J y (st3 l).1.1 (st3 l).1.2:=by
  obtain⟨y,hy,ha⟩:=Ad2 N es l x hx (by omega) 162
  refine⟨y,ha,?_⟩
  rw[hy,Ae]
  unfold st3
  dsimp only
  cases h1:(BC l 162).2.1 with
  | false=>rfl
  | true =>
    have hl1:=Jv hg 162 h1
    rw[cond_true,cond_true,AmJ N _ hN hl1,Ae]
    cases h2:(Q9 (BC l 162).1.2.1).2 != 0 with
    | true=>simp only[h2,cond_true]
    | false=>rfl
theorem AnF (N:Nat) (e:El) (acc:List Pt) (hN:1048578<N) (he:e.2.1.length<=1048576) (ha:acc.length<=1048576) (K:List Pt->Option (List Pt×Int)) :
    (Ac (FI N e 48) fun r37=>bif r37.2 != 0 then some ([],r37.2)else Ac (EE N r37.1) fun r45=>bif r45.2.1 != 0 then some ([],r45.2.1)else Ac (Fb N r45.2.2 129) fun r53=>bif r53.2.1 != 0 then some ([],r53.2.1)else Dz (α :=List El×Int×List Gn×Int×Bool×List (List Att)×List Pt) (fun j3=>Ac (D6 N r53.2.2 162) fun r61=>bif r61.2.1 then Ac (Eh N r61.1.2.1) fun r69=>bif r69.2 != 0 then some ([],r69.2)else j3 (r61.2.2.1,r61.2.2.2,r45.1,r53.1,true,r69.1,acc)else j3 (r61.2.2.1,r61.2.2.2,r45.1,r53.1,false,[],acc)) (U7 fun a b c d f g acc'=>Ac (BR N (a,b)) fun r76=>bif r76.1 != 0 then some ([],r76.1)else chk (decide ((acc'.length+1)*65<=140737488355328))<|K (acc'++[(c,d,f,g)])))
      = bif (elD e).2 != 0 then some ([],(elD e).2)else K (acc++[(elD e).1]):=by
  rw[Uw N e 48 hN he,Ae]
  unfold ZJ elD
  have hge:Good 1048576 (AB e.2.1).1:=(BG e.2.1).mono he
  cases b4:e.1 != 48 with
  | true=>simp only[cond_true,show((5:Int) != 0)=true from rfl]
  | false =>
    cases b5:(AB e.2.1).2 != 0 with
    | true=>simp only[cond_false,cond_true,b5]
    | false =>
      simp only[cond_false,b5]
      generalize (AB e.2.1).1=le at hge
      have hle:=hge.len
      obtain⟨y1,hy1,ha1⟩:=AnT N le le (le,0) hN ⟨0,rfl,Nat.zero_le _,rfl⟩ hle hge
      obtain⟨y2,hy2,ha2⟩:=AnU N le (r1 le) y1 hN ha1 hle (Aa6 hge)
      rw[hy1,Ae]
      unfold ptD
      dsimp only
      cases b6:(st1 le).2 != 0 with
      | true=>simp only[cond_true,b6]
      | false =>
        simp only[cond_false]
        rw[hy2,Ae]
        dsimp only
        cases b7:(st2 (r1 le)).2 != 0 with
        | true=>simp only[cond_true,b7]
        | false =>
          simp only[cond_false]
          rw[FW]
          obtain⟨y3,ha3,hy3⟩:=AnV N le (r2 le) y2 hN ha2 hle (nH hge) (fun p v w=>U7 (fun(a:List El) (b:Int) (c:List Gn) (d:Int) (f:Bool) (g:List (List Att)) (acc':List Pt)=>Ac (BR N (a,b)) fun r76=>bif r76.1 != 0 then some ([],r76.1)else chk (decide ((acc'.length+1)*65<=140737488355328))<|K (acc'++[(c,d,f,g)])) (p.1,p.2,(st1 le).1,(st2 (r1 le)).1,v,w,acc))
          refine Eq.trans hy3 ?_
          cases b8:(st3 (r2 le)).2 != 0 with
          | true=>simp only[cond_true,b8]
          | false =>
            simp only[cond_false,U7]
            rw[Am0 ha3,Ae]
            show(bif (if r3 le=[]then(0:Int)else 4) != 0 then some ([],(if r3 le=[]then(0:Int)else 4))else chk (decide ((acc.length+1)*65<=140737488355328)) (K (acc++[((st1 le).1,(st2 (r1 le)).1,(st3 (r2 le)).1.1,(st3 (r2 le)).1.2)])))=_
            rw[show decide ((acc.length+1)*65<=140737488355328)=true from decide_eq_true (by omega),Ai]
            by_cases h4:r3 le=[]
            ·rw[if_pos h4,show decide (r3 le≠ [])=false from decide_eq_false (fun h=>h h4)]
             rfl
            ·rw[if_neg h4,show decide (r3 le≠ [])=true from decide_eq_true h4]
             rfl
theorem Y9 (N:Nat) (s:Bs) (hN:1048578<N) (hs:s.length<=1048576):Fa N s=some (uJ s):=by
  unfold Fa
  try simp only[clR]
  rw[Amc N s hN hs,Ae]
  have hlo:=NS s 48
  have hg:Good 1048576 (AB (DJ s 48).1.2.1).1:=(BG _).mono (by omega)
  unfold uJ
  cases h1:(DJ s 48).2 != 0 with
  | true=>simp only[cond_true,h1]
  | false =>
    simp only[cond_false]
    cases h2:(AB (DJ s 48).1.2.1).2 != 0 with
    | true=>rfl
    | false =>
      generalize (AB (DJ s 48).1.2.1).1=l at hg
      have hlen:=hg.len
      unfold psD
      cases hl:l with
      | nil=>rfl
      | cons a0 l0 =>
        rw[<- hl]
        have hp:0<l.length:=by rw[hl];exact Nat.succ_pos _
        have he:l.isEmpty=false:=by rw[hl];rfl
        rw[he]
        simp (disch:=first | assumption | omega) only[Am]
        refine(Kt (fun i acc=>((i:Int),acc)) l (0,[],[]) (fun e=>(elD e).2) (fun e=>(elD e).1) (fun e=>some ([],e)) (fun acc=>Ac (CU N acc) fun r46=>bif r46 != 0 then some ([],r46)else some (acc,0)) ?_ ?_ N (by omega)).trans ?_
        ·intro i acc hi ha k
         have hee:=(hg.all _ (getD_mem (0,[],[]) hi)).content
         dsimp only[U2]
         rw[Int.toNat_natCast,decide_eq_true (show(i:Int)<(l.length:Int) by omega),decide_eq_true (show(0:Int)<=(i:Int) by omega),cond_true,Ai,Ai]
         refine(AnF N (l.getD i (0,[],[])) acc hN (by omega) (by omega) (fun acc'=>k (i64.wrap ((i:Int)+1),acc'))).trans ?_
         rw[w64 (x:=(i:Int)+1) (by omega) (by omega)]
         rfl
        ·intro acc k ha
         simp (disch:=first | assumption | omega) only[Am]
        ·cases Bq (fun e=>(elD e).2) l != 0 with
         | true=>rfl
         | false =>
           rw[cond_false,AeZ N _ hN (fun p hp=>by
             obtain⟨x,hx,rfl⟩:=List.mem_map.1 hp
             exact Abw (by have:=(hg.all x hx).content;omega)),Ae,Bc]
           rfl
