import Derived.Test.YtadefjgbcapakaaGreatDoorA21
set_option linter.all false
namespace Go.Proofs.YtadefjgbcapakaaGreatDoor.Pl
open IntKind (i64)
open Go Vm
def Lt (s:Bs):Bool:=(Ii s).isSome
def Dj (s:Bs):Prop:=s.length<=1048576
theorem KJ (N:Nat) (s:Bs) (hN:1048578<N) (hs:Dj s):ES N s=some (Lt s):=(Pq N s (by omega) hs (by unfold Dj at hs;omega)).1
theorem MO (N:Nat) (s:Bs) (hN:1048578<N) (hs:Dj s):A7 N s=some (Lt s):=(Pq N s (by omega) hs (by unfold Dj at hs;omega)).2
theorem kD (a b:Bs):(a==b)=(b==a):=Bool.beq_comm
def idI (l:List Bs) (i:Nat):Int:=bif !Lt (l.getD i [])then 11 else bif (l.take i).any (fun x=>x==l.getD i [])then 10 else 0
def Xu (l:List Bs) (m:Int):Int:=bif decide ((l.length:Int)>m)then 2 else BD (idI l) (List.range l.length)
theorem Zr (N:Nat) (l:List Bs) (m:Int) (hN:1048578<N) (hl:l.length<=1048576) (hs: ∀ s∈l,Dj s):Fa N l m=some (Xu l m):=by
  unfold Fa Xu
  cases decide ((l.length:Int)>m)with
  | true=>rfl
  | false =>
    rw[cond_false,cond_false]
    refine(Ja (mk:=fun i=>(i:Int)) l.length (idI l) some (some 0) ?_ ?_ N (by omega)).trans (first_some _)
    ·intro i hi k
     have hv:=KJ N _ hN (hs _ (getD_mem [] hi))
     unfold idI
     simp (disch:=first | assumption | omega) only[AU,hv,JM]
     cases Lt (l.getD i [])with
     | false=>rfl
     | true =>
       rw[Bool.not_true,cond_false,cond_false]
       refine(JJ (mk:=fun j=>(j:Int)) (l.take i) [] (fun x=>x==l.getD i []) (some 10) (k ((i+1:Nat):Int)) ?_ ?_ N (by rw[List.length_take];omega)).trans ?_
       ·intro j hj k
        have hlt:(l.take i).length=i:=by rw[List.length_take];omega
        have hj2:j<i:=by omega
        simp (disch:=first | assumption | omega) only[AU,hlt,CO]
        rw[kD]
       ·intro k
        have hlt:(l.take i).length=i:=by rw[List.length_take];omega
        simp (disch:=first | assumption | omega) only[AU,hlt,CO]
       ·cases (l.take i).any (fun x=>x==l.getD i [])<;>rfl
    ·intro k
     simp (disch:=first | assumption | omega) only[AU]
theorem Xe (N:Nat) (l:List Bs) (m:Int) (hN:1048578<N) (hl:l.length<=1048576) (hs: ∀ s∈l,Dj s):FW N l m=some (Xu l m):=by
  unfold FW Xu
  cases decide ((l.length:Int)>m)with
  | true=>rfl
  | false =>
    rw[cond_false,cond_false]
    refine(Ja (mk:=fun i=>(i:Int)) l.length (idI l) some (some 0) ?_ ?_ N (by omega)).trans (first_some _)
    ·intro i hi k
     have hv:=MO N _ hN (hs _ (getD_mem [] hi))
     unfold idI
     simp (disch:=first | assumption | omega) only[AU,hv,JM]
     cases Lt (l.getD i [])with
     | false=>rfl
     | true =>
       rw[Bool.not_true,cond_false,cond_false]
       refine(JJ (mk:=fun j=>(j:Int)) (l.take i) [] (fun x=>x==l.getD i []) (some 10) (k ((i+1:Nat):Int)) ?_ ?_ N (by rw[List.length_take];omega)).trans ?_
       ·intro j hj k
        have hlt:(l.take i).length=i:=by rw[List.length_take];omega
        have hj2:j<i:=by omega
        simp (disch:=first | assumption | omega) only[AU,hlt,CO,o9]
       ·intro k
        have hlt:(l.take i).length=i:=by rw[List.length_take];omega
        simp (disch:=first | assumption | omega) only[AU,hlt,CO]
       ·cases (l.take i).any (fun x=>x==l.getD i [])<;>rfl
    ·intro k
     simp (disch:=first | assumption | omega) only[AU]
def mpI (l:List (Bs×Bs)) (i:Nat):Int:=bif !Lt (l.getD i ([],[])).1|| !Lt (l.getD i ([],[])).2 then 11 else bif (l.take i).any (fun x=>x.1==(l.getD i ([],[])).1&&x.2==(l.getD i ([],[])).2)then 10 else 0
def lI (l:List (Bs×Bs)):Int:=bif decide (8<l.length)then 2 else BD (mpI l) (List.range l.length)
def Lp (m:Bs×Bs):Prop:=Dj m.1/\Dj m.2
theorem aS (N:Nat) (l:List (Bs×Bs)) (hN:1048578<N) (hs: ∀ s∈l,Lp s):E5 N l=some (lI l):=by
  unfold E5 lI
  try simp only[clR]
  rw[show decide (((l.length:Nat):Int)>8)=decide (8<l.length)from Ur _ 8]
  by_cases h8:8<l.length
  ·rw[decide_eq_true h8];rfl
  ·rw[decide_eq_false h8,cond_false,cond_false]
   refine(Ja (mk:=fun i=>(i:Int)) l.length (mpI l) some (some 0) ?_ ?_ N (by omega)).trans (first_some _)
   ·intro i hi k
    have hm:=hs _ (getD_mem ([],[]) hi)
    have hv1:=KJ N _ hN hm.1
    have hv2:=KJ N _ hN hm.2
    unfold mpI
    simp (disch:=first | assumption | omega) only[AU,hv1,hv2,JM,Option.isSome_some,Option.getD_some]
    cases (!Lt (l.getD i ([],[])).1|| !Lt (l.getD i ([],[])).2)with
    | true=>rfl
    | false =>
      rw[cond_false,cond_false]
      refine(JJ (mk:=fun j=>((j:Int),(l.getD i ([],[])).1,(l.getD i ([],[])).2)) (l.take i) ([],[]) (fun x=>x.1==(l.getD i ([],[])).1&&x.2==(l.getD i ([],[])).2) (some 10) (k ((i+1:Nat):Int)) ?_ ?_ N (by rw[List.length_take];omega)).trans ?_
      ·intro j hj k
       have hlt:(l.take i).length=i:=by rw[List.length_take];omega
       have hj2:j<i:=by omega
       simp (disch:=first | assumption | omega) only[AU,hlt,CO]
       rw[kD,kD (l.getD i ([],[])).2]
      ·intro k
       have hlt:(l.take i).length=i:=by rw[List.length_take];omega
       simp (disch:=first | assumption | omega) only[AU,hlt,CO]
      ·cases (l.take i).any (fun x=>x.1==(l.getD i ([],[])).1&&x.2==(l.getD i ([],[])).2)<;>rfl
   ·intro k
    simp (disch:=first | assumption | omega) only[AU]
theorem Vj (N:Nat) (l:List (Bs×Bs)) (hN:1048578<N) (hs: ∀ s∈l,Lp s):Fv N l=some (lI l):=by
  unfold Fv lI
  try simp only[clR]
  rw[show decide (((l.length:Nat):Int)>8)=decide (8<l.length)from Ur _ 8]
  by_cases h8:8<l.length
  ·rw[decide_eq_true h8];rfl
  ·rw[decide_eq_false h8,cond_false,cond_false]
   refine(Ja (mk:=fun i=>(i:Int)) l.length (mpI l) some (some 0) ?_ ?_ N (by omega)).trans (first_some _)
   ·intro i hi k
    have hm:=hs _ (getD_mem ([],[]) hi)
    have hv1:=MO N _ hN hm.1
    have hv2:=MO N _ hN hm.2
    unfold mpI
    simp (disch:=first | assumption | omega) only[AU,hv1,hv2,JM,Option.isSome_some,Option.getD_some]
    cases (!Lt (l.getD i ([],[])).1|| !Lt (l.getD i ([],[])).2)with
    | true=>rfl
    | false =>
      rw[cond_false,cond_false]
      refine(JJ (mk:=fun j=>((j:Int),(l.getD i ([],[])).1,(l.getD i ([],[])).2)) (l.take i) ([],[]) (fun x=>x.1==(l.getD i ([],[])).1&&x.2==(l.getD i ([],[])).2) (some 10) (k ((i+1:Nat):Int)) ?_ ?_ N (by rw[List.length_take];omega)).trans ?_
      ·intro j hj k
       have hlt:(l.take i).length=i:=by rw[List.length_take];omega
       have hj2:j<i:=by omega
       simp (disch:=first | assumption | omega) only[AU,hlt,CO,o9]
      ·intro k
       have hlt:(l.take i).length=i:=by rw[List.length_take];omega
       simp (disch:=first | assumption | omega) only[AU,hlt,CO]
      ·cases (l.take i).any (fun x=>x.1==(l.getD i ([],[])).1&&x.2==(l.getD i ([],[])).2)<;>rfl
   ·intro k
    simp (disch:=first | assumption | omega) only[AU]
abbrev Ex:Type:=Bs×Bool×Bs
abbrev Rw:Type:=Bs×Int×Nat×Nat×Nat
def Rh:List Rw:=(Fe 0).getD []
def lC:List Bs:=(Nb 0).getD []
def N9 (s:Bs):Bool:=lC.any (fun x=>x==s)
theorem Afe:Rh.map (·.1)=lC:=by decide +kernel
theorem xB:Rh.length=13:=by decide +kernel
theorem AfP:lC.length=13:=by decide +kernel
theorem find_eq (N:Nat) (s:Bs) (hN:1048578<N): ∃ r,I7 N s=some (r,N9 s):=by
  unfold I7
  rw[show Fe N=some Rh from rfl,Af]
  have hl:=xB
  refine⟨_,(ND (S:=Unit) (R:=Rw) (mk:=fun i _=>(i:Int)) Rh ([],0,0,0,0) (fun r _=>bif r.1==s then .inl r else .inr ()) (fun r=>some (r,true)) (fun _=>some (([],0,0,0,0),false)) ?_ ?_ N () (by omega)).trans (?_:_=some ((Gt (fun(r:Rw) (_:Unit)=>bif r.1==s then Sum.inl r else Sum.inr ()) Rh ()).elim id (fun _=>([],0,0,0,0)),N9 s))⟩
  ·intro i _ hi k
   simp (disch:=first | assumption | omega) only[AU,CO]
  ·intro _ k
   simp (disch:=first | assumption | omega) only[AU]
  ·unfold N9
   rw[<- Afe]
   generalize Rh=l
   induction l with
   | nil=>rfl
   | cons r t ih =>
     rw[FO,List.map_cons,List.any_cons]
     cases r.1==s with
     | true=>rfl
     | false=>exact ih
theorem Aeh (N:Nat) (s:Bs) (hN:1048578<N):Na N s=some (N9 s):=by
  unfold Na
  rw[show Nb N=some lC from rfl,Af]
  have hl:=AfP
  refine(JJ (mk:=fun i=>(i:Int)) lC [] (fun x=>x==s) (some true) (some false) ?_ ?_ N (by omega)).trans ?_
  ·intro i hi k
   simp (disch:=first | assumption | omega) only[AU,CO]
  ·intro k
   simp (disch:=first | assumption | omega) only[AU]
  ·unfold N9
   cases lC.any (fun x=>x==s)<;>rfl
theorem Af7 (N:Nat) (l:List Ex) (s:Bs) (hN:l.length<N) (hl:l.length<=1048576): ∃ r,EO N l s=some (r,l.any (fun x=>x.1==s)):=by
  unfold EO
  refine⟨_,(ND (S:=Unit) (R:=Ex) (mk:=fun i _=>(i:Int)) l ([],false,[]) (fun r _=>bif r.1==s then .inl r else .inr ()) (fun r=>some (r,true)) (fun _=>some (([],false,[]),false)) ?_ ?_ N () (by omega)).trans (?_:_=some ((Gt (fun(r:Ex) (_:Unit)=>bif r.1==s then Sum.inl r else Sum.inr ()) l ()).elim id (fun _=>([],false,[])),l.any (fun x=>x.1==s)))⟩
  ·intro i _ hi k
   simp (disch:=first | assumption | omega) only[AU,CO]
  ·intro _ k
   simp (disch:=first | assumption | omega) only[AU]
  ·clear hN hl
   induction l with
   | nil=>rfl
   | cons r t ih =>
     rw[FO,List.any_cons]
     cases r.1==s with
     | true=>rfl
     | false=>exact ih
def unI (l:List Ex) (i:Nat):Int:=bif !Lt (l.getD i ([],false,[])).1 then 11 else bif N9 (l.getD i ([],false,[])).1 then 20 else bif (l.take i).any (fun x=>x.1==(l.getD i ([],false,[])).1)then 10 else Sp.chk (l.getD i ([],false,[])).2.2
def Aco (l:List Ex):Int:=BD (unI l) (List.range l.length)
def xE (x:Ex):Prop:=Dj x.1/\Dj x.2.2
theorem eQ (N:Nat) (l:List Ex) (hN:1048578<N) (hl:l.length<=1048576) (hs: ∀ x∈l,xE x):DW N l=some (Aco l):=by
  unfold DW Aco
  try simp only[clR]
  refine(Ja (mk:=fun i=>(i:Int)) l.length (unI l) some (some 0) ?_ ?_ N (by omega)).trans (first_some _)
  ·intro i hi k
   have hm:=hs _ (getD_mem ([],false,[]) hi)
   have hv:=KJ N _ hN hm.1
   obtain⟨r,hf⟩:=find_eq N (l.getD i ([],false,[])).1 hN
   have hc:=xK N (l.getD i ([],false,[])).2.2 (by omega) (by have:=hm.2;unfold Dj at this;omega) (by have:=hm.2;unfold Dj at this;omega)
   unfold unI
   simp (disch:=first | assumption | omega) only[AU,hv,hf,JM]
   cases Lt (l.getD i ([],false,[])).1 with
   | false=>rfl
   | true =>
     rw[Bool.not_true,cond_false,cond_false]
     cases N9 (l.getD i ([],false,[])).1 with
     | true=>rfl
     | false =>
       rw[cond_false,cond_false]
       refine(JJ (mk:=fun j=>((j:Int),(l.getD i ([],false,[])).1,(l.getD i ([],false,[])).2.1,(l.getD i ([],false,[])).2.2)) (l.take i) ([],false,[]) (fun x=>x.1==(l.getD i ([],false,[])).1) (some 10) (bif Sp.chk (l.getD i ([],false,[])).2.2 != 0 then some (Sp.chk (l.getD i ([],false,[])).2.2)else k ((i+1:Nat):Int)) ?_ ?_ N (by rw[List.length_take];omega)).trans ?_
       ·intro j hj k
        have hlt:(l.take i).length=i:=by rw[List.length_take];omega
        have hj2:j<i:=by omega
        simp (disch:=first | assumption | omega) only[AU,hlt,CO]
       ·intro k
        have hlt:(l.take i).length=i:=by rw[List.length_take];omega
        simp (disch:=first | assumption | omega) only[AU,hlt,hc,CO]
       ·cases (l.take i).any (fun x=>x.1==(l.getD i ([],false,[])).1)<;>rfl
  ·intro k
   simp (disch:=first | assumption | omega) only[AU]
theorem mZ {X Y ρ :Type} {B:X->(X->Option ρ)->(Y->Option ρ)->Option ρ} {kx:Y->Option ρ} (mk:Nat->Int->X) (l:List Bool) (fin:Int->Option ρ) (s0:Nat) (hs0:s0+l.length<=1099511627776)
    (h: ∀(i:Nat) (s:Int),i<l.length->0<=s->s<=1099511627776-> ∀ k,B (mk i s) k kx=bif l.getD i false then k (mk (i+1) (s+1))else k (mk (i+1) s))
    (hend: ∀(s:Int) (k:X->Option ρ),B (mk l.length s) k kx=fin s) (N:Nat) (hN:l.length<N):Ar B N (mk 0 (s0:Int)) kx=fin ((s0+l.count true:Nat):Int):=by
  refine(XC (S:=Nat) (R:=Unit) (mk:=fun i s=>mk i (s:Int)) l false (fun i s=>s<=s0+i) (fun b s=>.inr (bif b then s+1 else s)) (fun _=>none) (fun s=>fin (s:Int)) ?_ ?_ (fun s k _=>hend s k) N s0 (Nat.le_refl _) hN).trans ?_
  ·intro i s hi hI k
   rw[h i s hi (by omega) (by omega)]
   cases l.getD i false<;>rfl
  ·intro i s s' hi hI he
   injection he with he
   subst he
   cases l.getD i false
   ·show s<=_;omega
   ·show s+1<=_;omega
  ·have: ∀(l:List Bool) (s:Nat),Gt (R:=Unit) (fun b (s:Nat)=>.inr (bif b then s+1 else s)) l s= .inr (s+l.count true):=by
     intro l
     induction l with
     | nil=>intro s;rfl
     | cons b r ih =>
       intro s
       rw[FO]
       show Gt (R:=Unit) _ r _=_
       rw[ih]
       cases b with
       | true=>rw[List.count_cons_self];congr 1;show s+1+_=_;omega
       | false=>rw[List.count_cons_of_ne (by decide)];rfl
   rw[this];rfl
abbrev Info:Type:=Bool×Bool×Int×Int×List Bs×List Bs×List (Bs×Bs)×Int×Int×Int×List Gn×Bool×List Gn×List Gn×Bs×Bs×List Pt×List Pt×List Ex
def spI (n:Int):Bool:=decide (n>= -1)&&decide (n<=64)
def bF:Info->List Bool
  | (hb,_,_,us,pu,po,ma,re,im,ia,na,hc,_,_,sk,ak,pt,fr,_)=>[hb,us != 0,decide (((pu.length:Nat):Int)>0),decide (((po.length:Nat):Int)>0),decide (((ma.length:Nat):Int)>0),re != -1||im != -1,ia != -1,decide (((na.length:Nat):Int)>0),hc,!(sk==[]),!(ak==[]),decide (((pt.length:Nat):Int)>0),decide (((fr.length:Nat):Int)>0)]
def tN (hc:Bool) (s:St2):Int:=bif hc then AhC s else bif !s.1.isEmpty|| !s.2.isEmpty then 7 else 0
def XB (l:List Pt):Int:=bif decide (4<l.length)then 2 else BD ptI l
def U1:Info->Int
  | (hb,ca,pl,us,pu,po,ma,re,im,ia,na,hc,pe,ex,sk,ak,pt,fr,un) =>
    bif (ca&& !hb)||(pl != -1&& !ca)then 7
    else bif !spI pl|| !spI re|| !spI im|| !spI ia||decide (us<0)||decide (us>511)then 1
    else bif Xu pu 8 != 0 then Xu pu 8
    else bif Xu po 8 != 0 then Xu po 8
    else bif lI ma != 0 then lI ma
    else bif decide (16<na.length)then 2
    else bif NC na false != 0 then NC na false
    else bif tN hc (pe,ex) != 0 then tN hc (pe,ex)
    else bif decide (32<sk.length)||decide (32<ak.length)then 2
    else bif XB pt != 0 then XB pt
    else bif XB fr != 0 then XB fr
    else bif decide (24<un.length+(bF (hb,ca,pl,us,pu,po,ma,re,im,ia,na,hc,pe,ex,sk,ak,pt,fr,un)).count true)then 2
    else Aco un
structure Jp (x:Info):Prop where
  hc:x.2.2.2.2.2.2.2.2.2.2.2.1=false
  pu:x.2.2.2.2.1.length<=1048576/\ ∀ s∈x.2.2.2.2.1,Dj s
  po:x.2.2.2.2.2.1.length<=1048576/\ ∀ s∈x.2.2.2.2.2.1,Dj s
  ma: ∀ s∈x.2.2.2.2.2.2.1,Lp s
  na:P8 x.2.2.2.2.2.2.2.2.2.2.1
  pe:P8 x.2.2.2.2.2.2.2.2.2.2.2.2.1
  ex:P8 x.2.2.2.2.2.2.2.2.2.2.2.2.2.1
  pt: ∀ p∈x.2.2.2.2.2.2.2.2.2.2.2.2.2.2.2.2.1,TQ p
  fr: ∀ p∈x.2.2.2.2.2.2.2.2.2.2.2.2.2.2.2.2.2.1,TQ p
  un:x.2.2.2.2.2.2.2.2.2.2.2.2.2.2.2.2.2.2.length<=1048576/\ ∀ p∈x.2.2.2.2.2.2.2.2.2.2.2.2.2.2.2.2.2.2,xE p
theorem VU (N:Nat) (x:Info) (hN:1048578<N) (hx:Jp x):DV N x=some (tN x.2.2.2.2.2.2.2.2.2.2.2.1 (x.2.2.2.2.2.2.2.2.2.2.2.2.1,x.2.2.2.2.2.2.2.2.2.2.2.2.2.1)):=by
  have hpe:x.2.2.2.2.2.2.2.2.2.2.2.2.1=[]:=hx.pe
  have hex:x.2.2.2.2.2.2.2.2.2.2.2.2.2.1=[]:=hx.ex
  unfold DV tN
  rw[hx.hc,hpe,hex]
  rfl
theorem Ae3 (N:Nat) (x:Info) (i:Nat) (hi:i<13):Y0 N (Rh.getD i ([],0,0,0,0)).2.2.1 x=some ((bF x).getD i false):=by
  obtain⟨hb,ca,pl,us,pu,po,ma,re,im,ia,na,hc,pe,ex,sk,ak,pt,fr,un⟩:=x
  have:i=0\/i=1\/i=2\/i=3\/i=4\/i=5\/i=6\/i=7\/i=8\/i=9\/i=10\/i=11\/i=12:=by omega
  rcases this with rfl | rfl | rfl | rfl | rfl | rfl | rfl | rfl | rfl | rfl | rfl | rfl | rfl
  all_goals first | rfl | skip
  show G7 N _=_
  unfold G7
  try simp only[clR]
  rfl
theorem Agd (N:Nat) (n:Int):D5 N n=some (spI n):=by
  unfold D5
  try simp only[clR]
  rfl
theorem Agb (N:Nat) (n:Int):Eu N n=some (spI n):=by
  unfold Eu
  try simp only[clR]
  rfl
theorem ZM (N:Nat) (x:Info) (hN:1048578<N) (hx:Jp x):FC N x=some (U1 x):=by
  have hcon:=VU N x hN hx
  have hdisp:=Ae3 N x
  have hlen13:(bF x).length=13:=rfl
  have hrl:=xB
  obtain⟨hb,ca,pl,us,pu,po,ma,re,im,ia,na,hc,pe,ex,sk,ak,pt,fr,un⟩:=x
  have e1:=Zr N pu 8 hN hx.pu.1 hx.pu.2
  have e2:=Zr N po 8 hN hx.po.1 hx.po.2
  have e3:=aS N ma hN hx.ma
  have e4:Dx N pt=some (XB pt):=Jq N pt hN hx.pt
  have e5:Dx N fr=some (XB fr):=Jq N fr hN hx.fr
  have hun:un.length<=1048576:=hx.un.1
  unfold FC U1
  try simp only[clR]
  simp only[Agd,e1,e2,e3,e4,e5,hcon,Option.isSome_some,Option.getD_some,Bool.true_or,AY,Af,Af5]
  rw[<- AZ];refine BR fun h1=> ?_
  rw[<- AZ];refine BR fun h2=> ?_
  rw[<- AZ];refine BR fun h3=> ?_
  rw[<- AZ];refine BR fun h4=> ?_
  rw[<- AZ];refine BR fun h5=> ?_
  rw[show decide (((na.length:Nat):Int)>16)=decide (16<na.length)from Ur _ 16]
  rw[<- AZ];refine BR fun h6=> ?_
  rw[Sv N na hN (by have:=of_decide_eq_false h6;omega) hx.na,Af]
  rw[<- AZ];refine BR fun h7=> ?_
  rw[<- AZ];refine BR fun h8=> ?_
  rw[show decide (((sk.length:Nat):Int)>32)=decide (32<sk.length)from Ur _ 32,show decide (((ak.length:Nat):Int)>32)=decide (32<ak.length)from Ur _ 32]
  rw[<- AZ];refine BR fun h9=> ?_
  rw[<- AZ];refine BR fun h10=> ?_
  rw[<- AZ];refine BR fun h11=> ?_
  rw[show Fe N=some Rh from rfl,Af]
  refine(mZ (mk:=fun i s=>(s,(i:Int),hb,ca,pl,us,pu,po,ma,re,im,ia,na,hc,pe,ex,sk,ak,pt,fr,un)) (bF (hb,ca,pl,us,pu,po,ma,re,im,ia,na,hc,pe,ex,sk,ak,pt,fr,un)) (fun s=>bif decide (s>24)then some 2 else Ae (DW N un) fun r=>some r) un.length (by omega) ?_ ?_ N (by omega)).trans ?_
  ·intro i s hi h0 h1 k
   have hd:=hdisp i (by omega)
   dsimp only[U21]
   simp (disch:=first | assumption | omega) only[AU,hd,CO]
  ·intro s k
   dsimp only[U21]
   simp (disch:=first | assumption | omega) only[AU,hlen13,hrl]
   rfl
  ·rw[eQ N un hN hun hx.un.2,Af,show ∀ n:Nat,decide ((n:Int)>24)=decide (24<n)from fun n=>Ur n 24,AZ]
def l7:Info->List Bool
  | (hb,_,_,us,pu,po,ma,re,im,ia,na,hc,_,_,sk,ak,pt,fr,_)=>[hb,us != 0,decide (((pu.length:Nat):Int)>0),decide (((po.length:Nat):Int)>0),decide (((ma.length:Nat):Int)>0),decide (re>=0)||decide (im>=0),decide (ia>=0),decide (((na.length:Nat):Int)>0),hc,!(sk==[]),!(ak==[]),decide (((pt.length:Nat):Int)>0),decide (((fr.length:Nat):Int)>0)]
theorem AgM {n:Int} (h:spI n=true): -1<=n/\n<=64:=by
  unfold spI at h
  rw[Bool.and_eq_true,decide_eq_true_eq,decide_eq_true_eq]at h
  exact⟨h.1,h.2⟩
theorem AaU {n:Int} (h:spI n=true):decide (n>=0)=(n != -1):=by
  have:=AgM h
  by_cases hn:n= -1
  ·subst hn;rfl
  ·rw[decide_eq_true (by omega),show(n != -1)=true from bne_iff_ne.2 hn]
theorem Aeg (N:Nat) (x:Info) (hN:1048578<N) (hun:x.2.2.2.2.2.2.2.2.2.2.2.2.2.2.2.2.2.2.length<=1048576):Jw N x=some ((x.2.2.2.2.2.2.2.2.2.2.2.2.2.2.2.2.2.2.length+(l7 x).count true:Nat):Int):=by
  have hlen13:(l7 x).length=13:=rfl
  obtain⟨hb,ca,pl,us,pu,po,ma,re,im,ia,na,hc,pe,ex,sk,ak,pt,fr,un⟩:=x
  unfold Jw
  try simp only[clR]
  have hun:un.length<=1048576:=hun
  refine(mZ (mk:=fun i s=>(s,(i:Int),l7 (hb,ca,pl,us,pu,po,ma,re,im,ia,na,hc,pe,ex,sk,ak,pt,fr,un))) (l7 (hb,ca,pl,us,pu,po,ma,re,im,ia,na,hc,pe,ex,sk,ak,pt,fr,un)) some un.length (by omega) ?_ ?_ N (by omega)).trans rfl
  ·intro i s hi h0 h1 k
   simp (disch:=first | assumption | omega) only[AU,hlen13,CO]
  ·intro s k
   simp (disch:=first | assumption | omega) only[AU,hlen13]
theorem rY (N:Nat) (x:Info) (hN:1048578<N) (hx:Jp x):FU N x=some (U1 x):=by
  have hcnt:=Aeg N x hN hx.un.1
  have hhc:x.2.2.2.2.2.2.2.2.2.2.2.1=false:=hx.hc
  obtain⟨hb,ca,pl,us,pu,po,ma,re,im,ia,na,hc,pe,ex,sk,ak,pt,fr,un⟩:=x
  have e1:=Xe N pu 8 hN hx.pu.1 hx.pu.2
  have e2:=Xe N po 8 hN hx.po.1 hx.po.2
  have e3:=Vj N ma hN hx.ma
  have e4:Ef N pt=some (XB pt):=KY N pt hN hx.pt
  have e5:Ef N fr=some (XB fr):=KY N fr hN hx.fr
  have e6:=Wv N na hN hx.na
  have hun:un.length<=1048576:=hx.un.1
  unfold FU U1
  try simp only[clR]
  simp only[Agb,e1,e2,e3,Option.isSome_some,Option.getD_some,Bool.true_or,AY,Af,Af5]
  rw[<- AZ];refine BR fun h1=> ?_
  rw[<- AZ];refine BR fun h2=> ?_
  rw[<- AZ];refine BR fun h3=> ?_
  rw[<- AZ];refine BR fun h4=> ?_
  rw[<- AZ];refine BR fun h5=> ?_
  have key:(l7 (hb,ca,pl,us,pu,po,ma,re,im,ia,na,hc,pe,ex,sk,ak,pt,fr,un))=bF (hb,ca,pl,us,pu,po,ma,re,im,ia,na,hc,pe,ex,sk,ak,pt,fr,un):=by
    simp only[Bool.or_eq_false_iff,Bool.not_eq_false']at h2
    obtain⟨⟨⟨⟨⟨g1,g2⟩,g3⟩,g4⟩,_⟩,_⟩:=h2
    unfold l7 bF
    dsimp only
    rw[AaU g2,AaU g3,AaU g4]
  rw[key]at hcnt
  have hcnt:Jw N (hb,ca,pl,us,pu,po,ma,re,im,ia,na,hc,pe,ex,sk,ak,pt,fr,un)=some ((un.length+(bF (hb,ca,pl,us,pu,po,ma,re,im,ia,na,hc,pe,ex,sk,ak,pt,fr,un)).count true:Nat):Int):=hcnt
  have merge: ∀(L:Option Int) (R:Int),L=some R->(bif (bif decide (16<na.length)then 2 else NC na false) != 0 then some (bif decide (16<na.length)then 2 else NC na false)else L)=some (bif decide (16<na.length)then 2 else bif NC na false != 0 then NC na false else R):=by
    intro L R h
    rw[h]
    cases decide (16<na.length)with
    | true=>rfl
    | false=>rw[cond_false,cond_false,AZ]
  rw[e6,Af]
  refine merge _ _ ?_
  simp only[KD]
  have hhc:hc=false:=hhc
  have hpe:pe=[]:=hx.pe
  have hex:ex=[]:=hx.ex
  subst hhc;subst hpe;subst hex
  have hcon0:tN false (([],[]):St2)=0:=rfl
  simp only[hcon0,bne_self_eq_false,cond_false,show decide ((([]:List Gn).length:Int)>0)=false from rfl,Bool.or_self]
  show(U19 _ (hb,ca,pl,us,pu,po,ma,re,im,ia,na,false,[],[],sk,ak,pt,fr,un))=_
  dsimp only[U19]
  rw[show decide (((sk.length:Nat):Int)>32)=decide (32<sk.length)from Ur _ 32,show decide (((ak.length:Nat):Int)>32)=decide (32<ak.length)from Ur _ 32,e4,Af,e5,Af]
  rw[<- AZ];refine BR fun h9=> ?_
  rw[<- AZ];refine BR fun h10=> ?_
  rw[<- AZ];refine BR fun h11=> ?_
  rw[hcnt,Af,show ∀ n:Nat,decide ((n:Int)>24)=decide (24<n)from fun n=>Ur n 24]
  rw[<- AZ];refine BR fun h12=> ?_
  unfold Aco
  refine(Ja (mk:=fun i=>((i:Int),hb,ca,pl,us,pu,po,ma,re,im,ia,na,false,[],[],sk,ak,pt,fr,un)) un.length (unI un) some (some 0) ?_ ?_ N (by omega)).trans (first_some _)
  ·intro i hi k
   have hm:xE (un.getD i ([],false,[])):=hx.un.2 _ (getD_mem ([],false,[]) hi)
   have hv:=MO N _ hN hm.1
   have hk:=Aeh N (un.getD i ([],false,[])).1 hN
   obtain⟨r,hf⟩:=Af7 N (un.take i) (un.getD i ([],false,[])).1 (by rw[List.length_take];omega) (by rw[List.length_take];omega)
   have hc:=lV N (un.getD i ([],false,[])).2.2 (by omega) (by have:=hm.2;unfold Dj at this;omega) (by have:=hm.2;unfold Dj at this;omega)
   unfold unI
   dsimp only[U20]
   simp (disch:=first | assumption | omega) only[AU,hv,hk,JM,hf,hc,CO]
   cases Lt (un.getD i ([],false,[])).1<;>cases N9 (un.getD i ([],false,[])).1<;>cases (un.take i).any (fun x=>x.1==(un.getD i ([],false,[])).1)<;>rfl
  ·intro k
   dsimp only[U20]
   simp (disch:=first | assumption | omega) only[AU]
def spP (r:Bs) (k:Nat):Bool:=k==0||(!r.isEmpty&&(r.getD (r.length - 1) 0).toNat % 2 ^ k==0)
theorem AgN:((List.range 256).all fun b=>(List.range 8).all fun k=>(Bg BinOp.and .u8 (b:Int) (IntKind.u8.wrap (IntKind.u8.wrap (1*2 ^ min k 8) - 1))==0)==(b % 2 ^ k==0))=true:=by kernel_rfl
theorem Agc {b k:Nat} (hb:b<256) (hk:k<8):(Bg BinOp.and .u8 (b:Int) (IntKind.u8.wrap (IntKind.u8.wrap (1*2 ^ min k 8) - 1))==0)=(b % 2 ^ k==0):=by
  have h:=List.all_eq_true.1 (List.all_eq_true.1 AgN b (List.mem_range.2 hb)) k (List.mem_range.2 hk)
  exact beq_iff_eq.1 h
theorem Afk (N:Nat) (r:Bs) (k:Nat) (hk:k<8) (hr:r.length<=1048576):KP N r (k:Int)=some (spP r k):=by
  unfold KP spP
  try simp only[clR]
  have hu:IntKind.u64.wrap (k:Int)=(k:Int):=by
    show((k:Int) % 18446744073709551616)=k
    omega
  cases hr0:r with
  | nil =>
    by_cases h0:k=0
    ·subst h0;rfl
    ·rw[show((k:Int)==0)=false by simp;omega,show(k==0)=false by simp [h0]]
     rfl
  | cons x y =>
    rw[<- hr0]
    have hp:0<r.length:=by rw[hr0];exact Nat.succ_pos _
    have hn:(r==[])=false:=by rw[hr0];rfl
    have he:r.isEmpty=false:=by rw[hr0];rfl
    have hb:=(r.getD (r.length - 1) 0).toNat_lt
    rw[hu,hn,he]
    by_cases h0:k=0
    ·subst h0;rfl
    ·simp (disch:=first | assumption | omega) only[AU,Agc hb hk]
     rw[show(k==0)=false by simp [h0]]
     rfl
def Ij (s:Bs):Bs×Int×Int:=match s with
  | []=>([],0,7)
  | u::r=>bif decide (7<u.toNat)|| !spP r u.toNat then([],0,7)else(r,(u.toNat:Int),0)
theorem tV (u:UInt8) (r:Bs):AV (u::r) 1 (u::r).length=r:=by
  show((u::r).take (u::r).length).drop 1=r
  rw[List.take_length];rfl
theorem vU (N:Nat) (s:Bs) (hs:s.length<=1048576):QS N s=some (Ij s):=by
  cases s with
  | nil=>rfl
  | cons u r =>
    have hr:r.length<=1048576:=by rw[List.length_cons]at hs;omega
    have hu:=u.toNat_lt
    unfold QS Ij
    try simp only[clR]
    rw[tV]
    have hl:(u::r).length=r.length+1:=rfl
    have hn:((u::r)==([]:Bs))=false:=rfl
    by_cases h7:7<u.toNat
    ·simp (disch:=first | assumption | omega) only[AU,hl,hn,List.getD_cons_zero]
    ·have hS:=Afk N r u.toNat (by omega) hr
     simp (disch:=first | assumption | omega) only[AU,hl,hn,List.getD_cons_zero,hS,Option.isSome_some,Option.getD_some]
     rw[AZ]
theorem AgI:((List.range 256).all fun b=>(List.range 8).all fun k=>((b:Int).tmod (i64.wrap (1*2 ^ min k 64)) != 0)== !(b % 2 ^ k==0))=true:=by kernel_rfl
theorem AfW {b k:Nat} (hb:b<256) (hk:k<8):((b:Int).tmod (i64.wrap (1*2 ^ min k 64)) != 0)= !(b % 2 ^ k==0):=by
  have h:=List.all_eq_true.1 (List.all_eq_true.1 AgI b (List.mem_range.2 hb)) k (List.mem_range.2 hk)
  exact beq_iff_eq.1 h
theorem AfX {k:Nat} (hk:k<8):(i64.wrap (1*2 ^ min k 64) != 0)=true:=by
  have h:=List.all_eq_true.1 (show((List.range 8).all fun k=>(i64.wrap (1*2 ^ min k 64) != 0))=true by kernel_rfl) k (List.mem_range.2 hk)
  exact h
theorem pI (N:Nat) (s:Bs) (hs:s.length<=1048576):OU N s=some (Ij s):=by
  cases s with
  | nil=>rfl
  | cons u r =>
    have hr:r.length<=1048576:=by rw[List.length_cons]at hs;omega
    have hu:=u.toNat_lt
    unfold OU Ij spP
    try simp only[clR]
    rw[tV]
    have hl:(u::r).length=r.length+1:=rfl
    by_cases h7:7<u.toNat
    ·simp (disch:=first | assumption | omega) only[AU,hl,List.getD_cons_zero]
    ·by_cases h0:u.toNat=0
     ·simp (disch:=first | assumption | omega) only[AU,hl,List.getD_cons_zero,h0]
      rfl
     ·have hz:=AfX (k:=u.toNat) (by omega)
      cases hr0:r with
      | nil =>
        have hl: [u].length=1:=rfl
        simp (disch:=first | assumption | omega) only[AU,hl,List.getD_cons_zero,hz]
        rw[show(u.toNat==0)=false by simp [h0]]
        rfl
      | cons x y =>
        rw[<- hr0]
        have hp:0<r.length:=by rw[hr0];exact Nat.succ_pos _
        have he:r.isEmpty=false:=by rw[hr0];rfl
        have hb:=(r.getD (r.length - 1) 0).toNat_lt
        have hg:(u::r).getD (r.length+1 - 1) 0=r.getD (r.length - 1) 0:=by
          rw[show r.length+1 - 1=r.length by omega]
          rw[hr0];rfl
        have hm:=AfW hb (show u.toNat<8 by omega)
        simp (disch:=first | assumption | omega) only[AU,hl,List.getD_cons_zero,hz,hg,hm]
        rw[show(u.toNat==0)=false by simp [h0],he,AZ]
        rfl
theorem Abk {E R S:Type} (f:E->S->S): ∀(l:List E) (s:S),Gt (R:=R) (fun e s=>.inr (f e s)) l s= .inr (l.foldl (fun s e=>f e s) s):=by
  intro l
  induction l with
  | nil=>intro s;rfl
  | cons e r ih=>intro s;rw[FO];exact ih _
theorem MI {X Y S ρ :Type} {B:X->(X->Option ρ)->(Y->Option ρ)->Option ρ} {kx:Y->Option ρ} (mk:Nat->S->X) (n:Nat) (f:Nat->S->S) (fin:S->Option ρ)
    (h: ∀(i:Nat) (s:S),i<n-> ∀ k,B (mk i s) k kx=k (mk (i+1) (f i s)))
    (hend: ∀(s:S) (k:X->Option ρ),B (mk n s) k kx=fin s) (N:Nat) (s:S) (hN:n<N):Ar B N (mk 0 s) kx=fin ((List.range n).foldl (fun s i=>f i s) s):=by
  refine(ND (R:=Unit) mk (List.range n) 0 (fun i s=>.inr (f i s)) (fun _=>none) fin ?_ ?_ N s (by rw[List.length_range];exact hN)).trans ?_
  ·intro i s hi k
   rw[List.length_range]at hi
   rw[wC hi];exact h i s hi k
  ·intro s k;rw[List.length_range];exact hend s k
  ·rw[Abk];rfl
def UR (r:Bs) (i:Nat):Bool:=(r.getD (i / 8) 0).toNat / 2 ^ (7 - i % 8) % 2==1
theorem Agt:((List.range 256).all fun b=>(List.range 8).all fun k=>((Bg BinOp.and .u8 ((b:Int).fdiv (2 ^ min k 8)) 1==1)==(b / 2 ^ k % 2==1))&&(((((b:Int).fdiv (2 ^ min k 8)).tmod 2==1)==(b / 2 ^ k % 2==1))&&((((b:Int).fdiv (2 ^ min k 8)).tmod 2==0)== !(b / 2 ^ k % 2==1))))=true:=by kernel_rfl
theorem kE {b k:Nat} (hb:b<256) (hk:k<8):(Bg BinOp.and .u8 ((b:Int).fdiv (2 ^ min k 8)) 1==1)=(b / 2 ^ k % 2==1)/\(((b:Int).fdiv (2 ^ min k 8)).tmod 2==1)=(b / 2 ^ k % 2==1)/\(((b:Int).fdiv (2 ^ min k 8)).tmod 2==0)= !(b / 2 ^ k % 2==1):=by
  have h:=List.all_eq_true.1 (List.all_eq_true.1 Agt b (List.mem_range.2 hb)) k (List.mem_range.2 hk)
  simp only[Bool.and_eq_true]at h
  exact⟨beq_iff_eq.1 h.1,beq_iff_eq.1 h.2.1,beq_iff_eq.1 h.2.2⟩
theorem mP {x:Int} (h0:0<=x) (h1:x<18446744073709551616):IntKind.u64.wrap x=x:=by
  show x % 18446744073709551616=x
  omega
theorem ZB (N:Nat) (r:Bs) (i:Nat) (hr:r.length<=1048576) (hi:i<8*r.length):MK N r (i:Int)=some (UR r i):=by
  unfold MK
  try simp only[clR]
  have e1:(i:Int).tdiv 8=((i / 8:Nat):Int):=rfl
  have e2:(i:Int).tmod 8=((i % 8:Nat):Int):=rfl
  have e3:IntKind.u64.wrap ((i % 8:Nat):Int)=((i % 8:Nat):Int):=mP (by omega) (by omega)
  have e4:IntKind.u64.wrap (7 - ((i % 8:Nat):Int))=((7 - i % 8:Nat):Int):=by rw[mP (by omega) (by omega)];omega
  rw[e1,e2,e3,e4]
  have hb:=(kE (r.getD (i / 8) 0).toNat_lt (show 7 - i % 8<8 by omega)).1
  simp (disch:=first | assumption | omega) only[AU,hb]
  rfl
theorem sW (s:Bs) (h:((Ij s).2.2 != 0)=false): ∃ r k,Ij s=(r,((k:Nat):Int),0)/\k<8/\(r=[]->k=0)/\r.length<=s.length:=by
  cases s with
  | nil=>cases h
  | cons u r =>
    unfold Ij at h ⊢
    dsimp only at h ⊢
    cases hb:decide (7<u.toNat)|| !spP r u.toNat with
    | true=>rw[hb]at h;cases h
    | false =>
      rw[Bool.or_eq_false_iff]at hb
      have h7:=of_decide_eq_false hb.1
      refine⟨r,u.toNat,rfl,by omega,fun hr=> ?_,by rw[List.length_cons];omega⟩
      subst hr
      have:=hb.2
      unfold spP at this
      by_cases h0:u.toNat=0
      ·exact h0
      ·rw[show(u.toNat==0)=false by simp [h0]]at this
       cases this
def flV (r:Bs) (n:Nat):Int×Int :=
  bif decide (0<n)&& !UR r (n - 1)then(0,7)else bif decide (16<n)then(0,1)else
  ((List.range n).foldl (fun acc i=>bif UR r i then Bg .or .i64 acc (i64.wrap (1*2 ^ min i 64))else acc) 0,0)
def flP (s:Bs):Int×Int:=bif (Ij s).2.2 != 0 then(0,(Ij s).2.2)else flV (Ij s).1 (8*(Ij s).1.length - (Ij s).2.1.toNat)
theorem oV (N:Nat) (s:Bs) (hN:1048578<N) (hs:s.length<=1048576):OT N s=some (flP s):=by
  unfold OT flP
  try simp only[clR]
  rw[vU N s hs,Af]
  cases h:(Ij s).2.2 != 0 with
  | true=>rfl
  | false =>
    obtain⟨r,k,he,hk,h0,hr⟩:=sW s h
    rw[he]
    dsimp only[cond_false]
    unfold flV
    have hz:r.length=0->k=0:=fun e=>h0 (List.length_eq_zero_iff.1 e)
    have e1:i64.wrap (8*(r.length:Int))=((8*r.length:Nat):Int):=by rw[w64 (by omega) (by omega)];omega
    have e2:i64.wrap (((8*r.length:Nat):Int) - (k:Int))=((8*r.length - k:Nat):Int):=by rw[w64 (by omega) (by omega)];omega
    rw[e1,e2,Int.toNat_natCast]
    have hn:8*r.length - k<=8*r.length:=Nat.sub_le _ _
    generalize 8*r.length - k=n at hn
    by_cases hn0:n=0
    ·subst hn0
     simp (disch:=first | assumption | omega) only[AU]
     refine(MI (fun i acc=>(acc,(i:Int))) 0 (fun i acc=>acc) (fun acc=>some (acc,0)) ?_ ?_ N 0 (by omega)).trans rfl
     ·intro i acc hi k2;omega
     ·intro acc k2
      simp (disch:=first | assumption | omega) only[AU]
    ·have e3:i64.wrap ((n:Int) - 1)=((n - 1:Nat):Int):=by rw[w64 (by omega) (by omega)];omega
     have hB:=ZB N r (n - 1) (by omega) (by omega)
     rw[e3,hB]
     by_cases h16:16<n
     ·simp (disch:=first | assumption | omega) only[AU,Option.isSome_some,Option.getD_some]
      rw[AZ]
     ·simp (disch:=first | assumption | omega) only[AU,Option.isSome_some,Option.getD_some]
      rw[<- AZ]
      refine BR fun _=> ?_
      refine(MI (fun i acc=>(acc,(i:Int))) n (fun i acc=>bif UR r i then Bg .or .i64 acc (i64.wrap (1*2 ^ min i 64))else acc) (fun acc=>some (acc,0)) ?_ ?_ N 0 (by omega)).trans rfl
      ·intro i acc hi k2
       have hB:=ZB N r i (by omega) (by omega)
       have hu:=mP (x:=(i:Int)) (by omega) (by omega)
       simp (disch:=first | assumption | omega) only[AU,hB,hu]
       cases UR r i<;>rfl
      ·intro acc k2
       simp (disch:=first | assumption | omega) only[AU]
theorem lX (N:Nat) (s:Bs) (hN:1048578<N) (hs:s.length<=1048576):MZ N s=some (flP s):=by
  unfold MZ flP
  try simp only[clR]
  rw[pI N s hs,Af]
  cases h:(Ij s).2.2 != 0 with
  | true=>rfl
  | false =>
    obtain⟨r,k,he,hk,h0,hr⟩:=sW s h
    rw[he]
    dsimp only[cond_false]
    unfold flV
    have hz:r.length=0->k=0:=fun e=>h0 (List.length_eq_zero_iff.1 e)
    have e1:i64.wrap (8*(r.length:Int))=((8*r.length:Nat):Int):=by rw[w64 (by omega) (by omega)];omega
    have e2:i64.wrap (((8*r.length:Nat):Int) - (k:Int))=((8*r.length - k:Nat):Int):=by rw[w64 (by omega) (by omega)];omega
    rw[e1,e2,Int.toNat_natCast]
    have hn:8*r.length - k<=8*r.length:=Nat.sub_le _ _
    have hlast:0<8*r.length - k->((((r.getD (r.length - 1) 0).toNat:Int).fdiv (2 ^ min k 8)).tmod 2==0)= !UR r (8*r.length - k - 1):=by
      intro hp
      rw[(kE (r.getD (r.length - 1) 0).toNat_lt hk).2.2]
      unfold UR
      rw[show(8*r.length - k - 1) / 8=r.length - 1 by omega,show 7 - (8*r.length - k - 1) % 8=k by omega]
    have hpos:0<8*r.length - k->0<r.length:=by omega
    generalize 8*r.length - k=n at hn hlast hpos
    by_cases hn0:n=0
    ·subst hn0
     simp (disch:=first | assumption | omega) only[AU]
     refine(MI (fun i acc=>(acc,(i:Int))) 0 (fun i acc=>acc) (fun acc=>some (acc,0)) ?_ ?_ N 0 (by omega)).trans rfl
     ·intro i acc hi k2;omega
     ·intro acc k2
      simp (disch:=first | assumption | omega) only[AU]
    ·have hL:=hlast (by omega)
     have hp:=hpos (by omega)
     by_cases h16:16<n
     ·simp (disch:=first | assumption | omega) only[AU,hL]
      rw[AZ]
     ·simp (disch:=first | assumption | omega) only[AU,hL]
      rw[<- AZ]
      refine BR fun _=> ?_
      refine(MI (fun i acc=>(acc,(i:Int))) n (fun i acc=>bif UR r i then Bg .or .i64 acc (i64.wrap (1*2 ^ min i 64))else acc) (fun acc=>some (acc,0)) ?_ ?_ N 0 (by omega)).trans rfl
      ·intro i acc hi k2
       have f1:(i:Int).tdiv 8=((i / 8:Nat):Int):=rfl
       have f2:(i:Int).tmod 8=((i % 8:Nat):Int):=rfl
       have f3:(7:Int) - ((i % 8:Nat):Int)=((7 - i % 8:Nat):Int):=by omega
       have hb:=(kE (r.getD (i / 8) 0).toNat_lt (show 7 - i % 8<8 by omega)).2.1
       dsimp only[U2]
       rw[f1,f2,f3]
       simp (disch:=first | assumption | omega) only[AU,hb]
       unfold UR
       cases (r.getD (i / 8) 0).toNat / 2 ^ (7 - i % 8) % 2==1<;>rfl
      ·intro acc k2
       simp (disch:=first | assumption | omega) only[AU]
end Go.Proofs.YtadefjgbcapakaaGreatDoor.Pl
namespace Go.Proofs.YtadefjgbcapakaaGreatDoor.Sp
def Lm (b:UInt8):Int:=if b.toNat<128 then(b.toNat:Int)else(b.toNat:Int) - 256
def be (v:Int) (l:List UInt8):Int:=l.foldl (fun v b=>v*256+(b.toNat:Int)) v
def WE:List UInt8->Bool
  | []=>true
  | [_]=>false
  | a::b::_=>(decide (a.toNat=0)&&decide (b.toNat<128))||(decide (a.toNat=255)&&decide (128<=b.toNat))
def uQ:List UInt8->Int
  | []=>0
  | a::r=>be (Lm a) r
def integer (l:List UInt8):Int×Int :=
  if WE l then(0,7)else if 8<l.length then(0,1)else(uQ l,0)
theorem Yx (v:Int) (l:List UInt8) (b:UInt8):be v (b::l)=be (v*256+(b.toNat:Int)) l:=rfl
theorem Vl (b:UInt8): -128<=Lm b/\Lm b<=127:=by
  unfold Lm;have:=b.toNat_lt;split<;>omega
theorem Aeq (l:List UInt8): ∀ v:Int,-128<=v->v<=127 ->
    -(128*256 ^ l.length)<=be v l/\be v l<128*256 ^ l.length:=by
  have h: ∀(l:List UInt8) (v lo hi:Int),lo<=v->v<hi->lo*256 ^ l.length<=be v l/\be v l<hi*256 ^ l.length:=by
    intro l
    induction l with
    | nil=>intro v lo hi h1 h2;simp [be];omega
    | cons b r ih =>
      intro v lo hi h1 h2
      have hb:=b.toNat_lt
      have:=ih (v*256+(b.toNat:Int)) (lo*256) (hi*256) (by omega) (by omega)
      rw[Yx,List.length_cons,Int.pow_succ]
      have e1:lo*(256 ^ r.length*256)=lo*256*256 ^ r.length:=by rw[Int.mul_comm (256 ^ r.length) 256,Int.mul_assoc]
      have e2:hi*(256 ^ r.length*256)=hi*256*256 ^ r.length:=by rw[Int.mul_comm (256 ^ r.length) 256,Int.mul_assoc]
      rw[e1,e2];exact this
  intro v h1 h2
  have:=h l v (-128) 128 h1 (by omega)
  rw[Int.neg_mul]at this;exact this
theorem nV {m n:Nat} (h:m<=n):(256:Int) ^ m<=256 ^ n:=by
  have:=Int.ofNat_le.2 (Nat.pow_le_pow_right (n:=256) (by omega) h)
  rw[Int.natCast_pow,Int.natCast_pow]at this;exact this
theorem Ac3 (l:List UInt8) (hl:l.length<=7) (v:Int) (h1: -128<=v) (h2:v<=127) :
    -9223372036854775808<=be v l/\be v l<=9223372036854775807:=by
  have h:=Aeq l v h1 h2
  have hp:(256:Int) ^ l.length<=256 ^ 7:=by
    exact nV hl
  have:(256:Int) ^ 7=72057594037927936:=by decide
  omega
def byteOf (q:Int):UInt8:=UInt8.ofNat (q % 256).toNat
def strip:List UInt8->List UInt8
  | []=>[]
  | [a]=>[a]
  | a::b::r=>if WE (a::b::r)then strip (b::r)else a::b::r
def fits (q:Int):Prop:= -128<=q/\q<=127
instance (q:Int):Decidable (fits q):=inferInstanceAs (Decidable (_/\_))
