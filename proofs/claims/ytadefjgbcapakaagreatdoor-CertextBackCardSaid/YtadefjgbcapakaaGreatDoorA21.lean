import Derived.Test.YtadefjgbcapakaaGreatDoorA20
set_option linter.all false
namespace Go.Proofs.YtadefjgbcapakaaGreatDoor.Pl
open IntKind (i64)
open Go Vm
theorem len0 {α :Type} (l:List α):(((l.length:Nat):Int)==0)=l.isEmpty:=by
  cases l with
  | nil=>rfl
  | cons a r=>exact beq_false_of_ne (by rw[List.length_cons];omega)
theorem WW (n k:Nat):decide ((n:Int)>(k:Int))=decide (k<n):=by congr 1;apply propext;omega
def Gp (l:List Gn):Prop:= ∀ g∈l,Ky g
def Ih (l:List Gn) (c:Bool):Int:=AU (fun g=>CZ g c) l
theorem Oj (N:Nat) (l:List Gn) (hN:1048578<N) (hl:l.length<=1048576) (hs:Gp l):Gy N l=some (Ih l false):=by
  unfold Gy
  refine(Rj (mk:=fun i=>(i:Int)) l (0,[],[]) (fun g=>CZ g false) some (some 0) ?_ ?_ N (by omega)).trans (first_some _)
  ·intro i hi k
   have h:=Ju N (l.getD i (0,[],[])) false hN (hs _ (getD_mem _ hi))
   simp (disch:=first | assumption | omega) only[Aq,h,BJ]
  ·intro k
   simp (disch:=first | assumption | omega) only[Aq]
abbrev Pt:Type:=List Gn×Int×Bool×List (List Att)
def H7 (p:Pt):Prop:=Gp p.1/\GZ p.2.2.2/\ -9223372036854775808<=p.2.1/\p.2.1<=9223372036854775807
def ptI (p:Pt):Int :=
  bif (p.1.isEmpty&& !p.2.2.1)||(!p.2.2.2.isEmpty&& !p.2.2.1)then 7
  else bif Bi .andNot .i64 p.2.1 510 != 0 then 1
  else bif decide (16<p.1.length)then 2
  else bif Ih p.1 false != 0 then Ih p.1 false
  else bif !p.2.2.1 then 0
  else bif p.2.2.2.isEmpty then 14 else Fb p.2.2.2
theorem X7 (N:Nat) (p:Pt) (hN:1048578<N) (hs:H7 p):IK N p=some (ptI p):=by
  obtain⟨g,r,b,n⟩:=p
  have hg:Gp g:=hs.1
  have hn:GZ n:=hs.2.1
  unfold IK ptI
  try simp only[clR]
  simp only[Ho,U5,len0,iZ]
  have e: ∀ x y:Bool,(bif x then(bif x then some (7:Int)else none)else none)=(bif x then some 7 else none):=fun x y=>by cases x<;>rfl
  rw[show decide (((g.length:Nat):Int)>16)=decide (16<g.length)from WW _ 16]
  cases g.isEmpty&& !b with
  | true=>rfl
  | false =>
    rw[cond_false,Bool.false_or]
    cases (!n.isEmpty&& !b)with
    | true=>rfl
    | false =>
      rw[cond_false,cond_false]
      cases Bi .andNot .i64 r 510 != 0 with
      | true=>rfl
      | false =>
        rw[cond_false,cond_false]
        by_cases h16:16<g.length
        ·rw[decide_eq_true h16];rfl
        ·rw[decide_eq_false h16,cond_false,cond_false,Oj N g hN (by omega) hg,Ae,N9 N n hN hn,Ae,Bh,Bh,Bh]
theorem Gs (N:Nat) (l:List Pt) (hN:1048578<N) (hs: ∀ p∈l,H7 p):BP N l=some (bif decide (4<l.length)then 2 else AU ptI l):=by
  unfold BP
  rw[show decide (((l.length:Nat):Int)>4)=decide (4<l.length)from WW _ 4]
  by_cases h4:4<l.length
  ·rw[decide_eq_true h4];rfl
  ·rw[decide_eq_false h4,cond_false,cond_false]
   refine(Rj (mk:=fun i=>(i:Int)) l ([],0,false,[]) ptI some (some 0) ?_ ?_ N (by omega)).trans (first_some _)
   ·intro i hi k
    have h:=X7 N (l.getD i ([],0,false,[])) hN (hs _ (getD_mem _ hi))
    simp (disch:=first | assumption | omega) only[Aq,h,BJ]
   ·intro k
    simp (disch:=first | assumption | omega) only[Aq]
abbrev St2:Type:=List Gn×List Gn
def QC (s:St2):Int:=bif s.1.isEmpty&&s.2.isEmpty then 7 else bif decide (16<s.1.length)||decide (16<s.2.length)then 2 else AU (fun g=>CZ g true) (s.1++s.2)
theorem Ob (N:Nat) (s:St2) (hN:1048578<N) (h1:Gp s.1) (h2:Gp s.2):Dw N s=some (QC s):=by
  obtain⟨a,b⟩:=s
  unfold Dw QC
  try simp only[clR]
  rw[len0,len0,show decide (((a.length:Nat):Int)>16)=decide (16<a.length)from WW _ 16,show decide (((b.length:Nat):Int)>16)=decide (16<b.length)from WW _ 16]
  cases a.isEmpty&&b.isEmpty with
  | true=>rfl
  | false =>
    rw[cond_false,cond_false]
    by_cases h:16<a.length\/16<b.length
    ·have hb:(decide (16<a.length)||decide (16<b.length))=true:=by simpa using h
     rw[hb];rfl
    ·have hb:(decide (16<a.length)||decide (16<b.length))=false:=by simpa using h
     rw[hb,cond_false,cond_false]
     refine(Rj (mk:=fun i=>((i:Int),[a,b])) [a,b] [] (fun l=>AU (fun g=>CZ g true) l) some (some 0) ?_ ?_ N (by show 2<N;omega)).trans ?_
     ·intro i hi k
      have hi:i<2:=hi
      have hm:Gp ([a,b].getD i []):=by
        have:i=0\/i=1:=by omega
        rcases this with rfl | rfl
        ·exact h1
        ·exact h2
      have hml:([a,b].getD i []).length<=16:=by
        have:i=0\/i=1:=by omega
        rcases this with rfl | rfl
        ·show a.length<=16;omega
        ·show b.length<=16;omega
      have h22: [a,b].length=2:=rfl
      simp (disch:=first | assumption | omega) only[Aq,h22]
      refine(Rj (mk:=fun j=>((j:Int),[a,b])) ([a,b].getD i []) (0,[],[]) (fun g=>CZ g true) some (k ((i+1:Nat),[a,b])) ?_ ?_ N (by omega)).trans rfl
      ·intro j hj k
       have h:=Ju N (([a,b].getD i []).getD j (0,[],[])) true hN (hm _ (getD_mem _ hj))
       simp (disch:=first | assumption | omega) only[Aq,h,BJ]
      ·intro k
       simp (disch:=first | assumption | omega) only[Aq]
       rfl
     ·intro k
      rfl
     ·rw[first_some,Acn]
      rw[KC,KC]
      have e: ∀ x:Int,(bif x != 0 then x else AU (fun l=>AU (fun g=>CZ g true) l) ([]:List (List Gn)))=x:=fun x=>by
        by_cases hx:x=0
        ·subst hx;rfl
        ·rw[show(x != 0)=true from bne_iff_ne.2 hx];rfl
      rw[e]
def ET (s:Bs):Bool:=(FM s).isSome
def FV (s:Bs):Prop:=s.length<=1048576
theorem Py (N:Nat) (s:Bs) (hN:1048578<N) (hs:FV s):BF N s=some (ET s):=(zO N s (by omega) hs (by unfold FV at hs;omega)).1
theorem Aad (a b:Bs):(a==b)=(b==a):=Bool.beq_comm
def idI (l:List Bs) (i:Nat):Int:=bif !ET (l.getD i [])then 11 else bif (l.take i).any (fun x=>x==l.getD i [])then 10 else 0
def Xd (l:List Bs) (m:Int):Int:=bif decide ((l.length:Int)>m)then 2 else AU (idI l) (List.range l.length)
theorem nX (N:Nat) (l:List Bs) (m:Int) (hN:1048578<N) (hl:l.length<=1048576) (hs: ∀ s∈l,FV s):HY N l m=some (Xd l m):=by
  unfold HY Xd
  cases decide ((l.length:Int)>m)with
  | true=>rfl
  | false =>
    rw[cond_false,cond_false]
    refine(Zl (mk:=fun i=>(i:Int)) l.length (idI l) some (some 0) ?_ ?_ N (by omega)).trans (first_some _)
    ·intro i hi k
     have hv:=Py N _ hN (hs _ (getD_mem [] hi))
     unfold idI
     simp (disch:=first | assumption | omega) only[Aq,hv,fV]
     cases ET (l.getD i [])with
     | false=>rfl
     | true =>
       rw[Bool.not_true,cond_false,cond_false]
       refine(Qe (mk:=fun j=>(j:Int)) (l.take i) [] (fun x=>x==l.getD i []) (some 10) (k ((i+1:Nat):Int)) ?_ ?_ N (by rw[List.length_take];omega)).trans ?_
       ·intro j hj k
        have hlt:(l.take i).length=i:=by rw[List.length_take];omega
        have hj2:j<i:=by omega
        simp (disch:=first | assumption | omega) only[Aq,hlt,BJ]
        rw[Aad]
       ·intro k
        have hlt:(l.take i).length=i:=by rw[List.length_take];omega
        simp (disch:=first | assumption | omega) only[Aq,hlt,BJ]
       ·cases (l.take i).any (fun x=>x==l.getD i [])<;>rfl
    ·intro k
     simp (disch:=first | assumption | omega) only[Aq]
def mpI (l:List (Bs×Bs)) (i:Nat):Int:=bif !ET (l.getD i ([],[])).1|| !ET (l.getD i ([],[])).2 then 11 else bif (l.take i).any (fun x=>x.1==(l.getD i ([],[])).1&&x.2==(l.getD i ([],[])).2)then 10 else 0
def jF (l:List (Bs×Bs)):Int:=bif decide (8<l.length)then 2 else AU (mpI l) (List.range l.length)
def AeZ (m:Bs×Bs):Prop:=FV m.1/\FV m.2
theorem qQ (N:Nat) (l:List (Bs×Bs)) (hN:1048578<N) (hs: ∀ s∈l,AeZ s):G9 N l=some (jF l):=by
  unfold G9 jF
  try simp only[clR]
  rw[show decide (((l.length:Nat):Int)>8)=decide (8<l.length)from WW _ 8]
  by_cases h8:8<l.length
  ·rw[decide_eq_true h8];rfl
  ·rw[decide_eq_false h8,cond_false,cond_false]
   refine(Zl (mk:=fun i=>(i:Int)) l.length (mpI l) some (some 0) ?_ ?_ N (by omega)).trans (first_some _)
   ·intro i hi k
    have hm:=hs _ (getD_mem ([],[]) hi)
    have hv1:=Py N _ hN hm.1
    have hv2:=Py N _ hN hm.2
    unfold mpI
    simp (disch:=first | assumption | omega) only[Aq,hv1,hv2,fV,Option.isSome_some,Option.getD_some]
    cases (!ET (l.getD i ([],[])).1|| !ET (l.getD i ([],[])).2)with
    | true=>rfl
    | false =>
      rw[cond_false,cond_false]
      refine(Qe (mk:=fun j=>((j:Int),(l.getD i ([],[])).1,(l.getD i ([],[])).2)) (l.take i) ([],[]) (fun x=>x.1==(l.getD i ([],[])).1&&x.2==(l.getD i ([],[])).2) (some 10) (k ((i+1:Nat):Int)) ?_ ?_ N (by rw[List.length_take];omega)).trans ?_
      ·intro j hj k
       have hlt:(l.take i).length=i:=by rw[List.length_take];omega
       have hj2:j<i:=by omega
       simp (disch:=first | assumption | omega) only[Aq,hlt,BJ]
       rw[Aad,Aad (l.getD i ([],[])).2]
      ·intro k
       have hlt:(l.take i).length=i:=by rw[List.length_take];omega
       simp (disch:=first | assumption | omega) only[Aq,hlt,BJ]
      ·cases (l.take i).any (fun x=>x.1==(l.getD i ([],[])).1&&x.2==(l.getD i ([],[])).2)<;>rfl
   ·intro k
    simp (disch:=first | assumption | omega) only[Aq]
abbrev Ex:Type:=Bs×Bool×Bs
abbrev Rw:Type:=Bs×Int×Nat×Nat×Nat
def Cm:List Rw:=(Gz 0).getD []
def AaF:List Bs:=(QO 0).getD []
def GV (s:Bs):Bool:=AaF.any (fun x=>x==s)
theorem AmP:Cm.map (·.1)=AaF:=by decide +kernel
theorem uC:Cm.length=13:=by decide +kernel
theorem Aof:AaF.length=13:=by decide +kernel
theorem find_eq (N:Nat) (s:Bs) (hN:1048578<N): ∃ r,Bq N s=some (r,GV s):=by
  unfold Bq
  rw[show Gz N=some Cm from rfl,Ae]
  have hl:=uC
  refine⟨_,(Ox (S:=Unit) (R:=Rw) (mk:=fun i _=>(i:Int)) Cm ([],0,0,0,0) (fun r _=>bif r.1==s then .inl r else .inr ()) (fun r=>some (r,true)) (fun _=>some (([],0,0,0,0),false)) ?_ ?_ N () (by omega)).trans (?_:_=some ((FP (fun(r:Rw) (_:Unit)=>bif r.1==s then Sum.inl r else Sum.inr ()) Cm ()).elim id (fun _=>([],0,0,0,0)),GV s))⟩
  ·intro i _ hi k
   simp (disch:=first | assumption | omega) only[Aq,BJ]
  ·intro _ k
   simp (disch:=first | assumption | omega) only[Aq]
  ·unfold GV
   rw[<- AmP]
   generalize Cm=l
   induction l with
   | nil=>rfl
   | cons r t ih =>
     rw[F6,List.map_cons,List.any_cons]
     cases r.1==s with
     | true=>rfl
     | false=>exact ih
theorem Alz (N:Nat) (s:Bs) (hN:1048578<N):Ns N s=some (GV s):=by
  unfold Ns
  rw[show QO N=some AaF from rfl,Ae]
  have hl:=Aof
  refine(Qe (mk:=fun i=>(i:Int)) AaF [] (fun x=>x==s) (some true) (some false) ?_ ?_ N (by omega)).trans ?_
  ·intro i hi k
   simp (disch:=first | assumption | omega) only[Aq,BJ]
  ·intro k
   simp (disch:=first | assumption | omega) only[Aq]
  ·unfold GV
   cases AaF.any (fun x=>x==s)<;>rfl
def unI (l:List Ex) (i:Nat):Int:=bif !ET (l.getD i ([],false,[])).1 then 11 else bif GV (l.getD i ([],false,[])).1 then 20 else bif (l.take i).any (fun x=>x.1==(l.getD i ([],false,[])).1)then 10 else Sp.chk (l.getD i ([],false,[])).2.2
def Abu (l:List Ex):Int:=AU (unI l) (List.range l.length)
def Afa (x:Ex):Prop:=FV x.1/\FV x.2.2
theorem vM (N:Nat) (l:List Ex) (hN:1048578<N) (hl:l.length<=1048576) (hs: ∀ x∈l,Afa x):Fp N l=some (Abu l):=by
  unfold Fp Abu
  try simp only[clR]
  refine(Zl (mk:=fun i=>(i:Int)) l.length (unI l) some (some 0) ?_ ?_ N (by omega)).trans (first_some _)
  ·intro i hi k
   have hm:=hs _ (getD_mem ([],false,[]) hi)
   have hv:=Py N _ hN hm.1
   obtain⟨r,hf⟩:=find_eq N (l.getD i ([],false,[])).1 hN
   have hc:=Afj N (l.getD i ([],false,[])).2.2 (by omega) (by have:=hm.2;unfold FV at this;omega) (by have:=hm.2;unfold FV at this;omega)
   unfold unI
   simp (disch:=first | assumption | omega) only[Aq,hv,hf,fV]
   cases ET (l.getD i ([],false,[])).1 with
   | false=>rfl
   | true =>
     rw[Bool.not_true,cond_false,cond_false]
     cases GV (l.getD i ([],false,[])).1 with
     | true=>rfl
     | false =>
       rw[cond_false,cond_false]
       refine(Qe (mk:=fun j=>((j:Int),(l.getD i ([],false,[])).1,(l.getD i ([],false,[])).2.1,(l.getD i ([],false,[])).2.2)) (l.take i) ([],false,[]) (fun x=>x.1==(l.getD i ([],false,[])).1) (some 10) (bif Sp.chk (l.getD i ([],false,[])).2.2 != 0 then some (Sp.chk (l.getD i ([],false,[])).2.2)else k ((i+1:Nat):Int)) ?_ ?_ N (by rw[List.length_take];omega)).trans ?_
       ·intro j hj k
        have hlt:(l.take i).length=i:=by rw[List.length_take];omega
        have hj2:j<i:=by omega
        simp (disch:=first | assumption | omega) only[Aq,hlt,BJ]
       ·intro k
        have hlt:(l.take i).length=i:=by rw[List.length_take];omega
        simp (disch:=first | assumption | omega) only[Aq,hlt,hc,BJ]
       ·cases (l.take i).any (fun x=>x.1==(l.getD i ([],false,[])).1)<;>rfl
  ·intro k
   simp (disch:=first | assumption | omega) only[Aq]
theorem Ajz {X Y ρ :Type} {B:X->(X->Option ρ)->(Y->Option ρ)->Option ρ} {kx:Y->Option ρ} (mk:Nat->Int->X) (l:List Bool) (fin:Int->Option ρ) (s0:Nat) (hs0:s0+l.length<=1099511627776)
    (h: ∀(i:Nat) (s:Int),i<l.length->0<=s->s<=1099511627776-> ∀ k,B (mk i s) k kx=bif l.getD i false then k (mk (i+1) (s+1))else k (mk (i+1) s))
    (hend: ∀(s:Int) (k:X->Option ρ),B (mk l.length s) k kx=fin s) (N:Nat) (hN:l.length<N):Am B N (mk 0 (s0:Int)) kx=fin ((s0+l.count true:Nat):Int):=by
  refine(Oy (S:=Nat) (R:=Unit) (mk:=fun i s=>mk i (s:Int)) l false (fun i s=>s<=s0+i) (fun b s=>.inr (bif b then s+1 else s)) (fun _=>none) (fun s=>fin (s:Int)) ?_ ?_ (fun s k _=>hend s k) N s0 (Nat.le_refl _) hN).trans ?_
  ·intro i s hi hI k
   rw[h i s hi (by omega) (by omega)]
   cases l.getD i false<;>rfl
  ·intro i s s' hi hI he
   injection he with he
   subst he
   cases l.getD i false
   ·show s<=_;omega
   ·show s+1<=_;omega
  ·have: ∀(l:List Bool) (s:Nat),FP (R:=Unit) (fun b (s:Nat)=>.inr (bif b then s+1 else s)) l s= .inr (s+l.count true):=by
     intro l
     induction l with
     | nil=>intro s;rfl
     | cons b r ih =>
       intro s
       rw[F6]
       show FP (R:=Unit) _ r _=_
       rw[ih]
       cases b with
       | true=>rw[List.count_cons_self];congr 1;show s+1+_=_;omega
       | false=>rw[List.count_cons_of_ne (by decide)];rfl
   rw[this];rfl
abbrev Info:Type:=Bool×Bool×Int×Int×List Bs×List Bs×List (Bs×Bs)×Int×Int×Int×List Gn×Bool×List Gn×List Gn×Bs×Bs×List Pt×List Pt×List Ex
def spI (n:Int):Bool:=decide (n>= -1)&&decide (n<=64)
def rO:Info->List Bool
  | (hb,_,_,us,pu,po,ma,re,im,ia,na,hc,_,_,sk,ak,pt,fr,_)=>[hb,us != 0,decide (((pu.length:Nat):Int)>0),decide (((po.length:Nat):Int)>0),decide (((ma.length:Nat):Int)>0),re != -1||im != -1,ia != -1,decide (((na.length:Nat):Int)>0),hc,!(sk==[]),!(ak==[]),decide (((pt.length:Nat):Int)>0),decide (((fr.length:Nat):Int)>0)]
def Zf (hc:Bool) (s:St2):Int:=bif hc then QC s else bif !s.1.isEmpty|| !s.2.isEmpty then 7 else 0
def Gm (l:List Pt):Int:=bif decide (4<l.length)then 2 else AU ptI l
def JK:Info->Int
  | (hb,ca,pl,us,pu,po,ma,re,im,ia,na,hc,pe,ex,sk,ak,pt,fr,un) =>
    bif (ca&& !hb)||(pl != -1&& !ca)then 7
    else bif !spI pl|| !spI re|| !spI im|| !spI ia||decide (us<0)||decide (us>511)then 1
    else bif Xd pu 8 != 0 then Xd pu 8
    else bif Xd po 8 != 0 then Xd po 8
    else bif jF ma != 0 then jF ma
    else bif decide (16<na.length)then 2
    else bif Ih na false != 0 then Ih na false
    else bif Zf hc (pe,ex) != 0 then Zf hc (pe,ex)
    else bif decide (32<sk.length)||decide (32<ak.length)then 2
    else bif Gm pt != 0 then Gm pt
    else bif Gm fr != 0 then Gm fr
    else bif decide (24<un.length+(rO (hb,ca,pl,us,pu,po,ma,re,im,ia,na,hc,pe,ex,sk,ak,pt,fr,un)).count true)then 2
    else Abu un
structure KY (x:Info):Prop where
  pu:x.2.2.2.2.1.length<=1048576/\ ∀ s∈x.2.2.2.2.1,FV s
  po:x.2.2.2.2.2.1.length<=1048576/\ ∀ s∈x.2.2.2.2.2.1,FV s
  ma: ∀ s∈x.2.2.2.2.2.2.1,AeZ s
  na:Gp x.2.2.2.2.2.2.2.2.2.2.1
  pe:Gp x.2.2.2.2.2.2.2.2.2.2.2.2.1
  ex:Gp x.2.2.2.2.2.2.2.2.2.2.2.2.2.1
  pt: ∀ p∈x.2.2.2.2.2.2.2.2.2.2.2.2.2.2.2.2.1,H7 p
  fr: ∀ p∈x.2.2.2.2.2.2.2.2.2.2.2.2.2.2.2.2.2.1,H7 p
  un:x.2.2.2.2.2.2.2.2.2.2.2.2.2.2.2.2.2.2.length<=1048576/\ ∀ p∈x.2.2.2.2.2.2.2.2.2.2.2.2.2.2.2.2.2.2,Afa p
theorem cZ (N:Nat) (x:Info) (hN:1048578<N) (hx:KY x):Fj N x=some (Zf x.2.2.2.2.2.2.2.2.2.2.2.1 (x.2.2.2.2.2.2.2.2.2.2.2.2.1,x.2.2.2.2.2.2.2.2.2.2.2.2.2.1)):=by
  unfold Fj
  try simp only[clR]
  unfold Zf
  rw[Ob N (x.2.2.2.2.2.2.2.2.2.2.2.2.1,x.2.2.2.2.2.2.2.2.2.2.2.2.2.1) hN hx.pe hx.ex,Ae,iZ,iZ,Bh,Bh]
theorem AdK (N:Nat) (x:Info) (i:Nat) (hi:i<13):kP N (Cm.getD i ([],0,0,0,0)).2.2.1 x=some ((rO x).getD i false):=by
  obtain⟨hb,ca,pl,us,pu,po,ma,re,im,ia,na,hc,pe,ex,sk,ak,pt,fr,un⟩:=x
  have:i=0\/i=1\/i=2\/i=3\/i=4\/i=5\/i=6\/i=7\/i=8\/i=9\/i=10\/i=11\/i=12:=by omega
  rcases this with rfl | rfl | rfl | rfl | rfl | rfl | rfl | rfl | rfl | rfl | rfl | rfl | rfl
  all_goals first | rfl | skip
  show Jo N _=_
  unfold Jo
  try simp only[clR]
  rfl
theorem Ao7 (N:Nat) (n:Int):EI N n=some (spI n):=by
  unfold EI
  try simp only[clR]
  rfl
theorem TZ (N:Nat) (x:Info) (hN:1048578<N) (hx:KY x):I5 N x=some (JK x):=by
  have hcon:=cZ N x hN hx
  have hdisp:=AdK N x
  have hlen13:(rO x).length=13:=rfl
  have hrl:=uC
  obtain⟨hb,ca,pl,us,pu,po,ma,re,im,ia,na,hc,pe,ex,sk,ak,pt,fr,un⟩:=x
  have e1:=nX N pu 8 hN hx.pu.1 hx.pu.2
  have e2:=nX N po 8 hN hx.po.1 hx.po.2
  have e3:=qQ N ma hN hx.ma
  have e4:BP N pt=some (Gm pt):=Gs N pt hN hx.pt
  have e5:BP N fr=some (Gm fr):=Gs N fr hN hx.fr
  have hun:un.length<=1048576:=hx.un.1
  unfold I5 JK
  try simp only[clR]
  simp only[Ao7,e1,e2,e3,e4,e5,hcon,Option.isSome_some,Option.getD_some,Bool.true_or,A8,Ae,Aq3]
  rw[<- Bh];refine BU fun h1=> ?_
  rw[<- Bh];refine BU fun h2=> ?_
  rw[<- Bh];refine BU fun h3=> ?_
  rw[<- Bh];refine BU fun h4=> ?_
  rw[<- Bh];refine BU fun h5=> ?_
  rw[show decide (((na.length:Nat):Int)>16)=decide (16<na.length)from WW _ 16]
  rw[<- Bh];refine BU fun h6=> ?_
  rw[Oj N na hN (by have:=of_decide_eq_false h6;omega) hx.na,Ae]
  rw[<- Bh];refine BU fun h7=> ?_
  rw[<- Bh];refine BU fun h8=> ?_
  rw[show decide (((sk.length:Nat):Int)>32)=decide (32<sk.length)from WW _ 32,show decide (((ak.length:Nat):Int)>32)=decide (32<ak.length)from WW _ 32]
  rw[<- Bh];refine BU fun h9=> ?_
  rw[<- Bh];refine BU fun h10=> ?_
  rw[<- Bh];refine BU fun h11=> ?_
  rw[show Gz N=some Cm from rfl,Ae]
  refine(Ajz (mk:=fun i s=>(s,(i:Int),hb,ca,pl,us,pu,po,ma,re,im,ia,na,hc,pe,ex,sk,ak,pt,fr,un)) (rO (hb,ca,pl,us,pu,po,ma,re,im,ia,na,hc,pe,ex,sk,ak,pt,fr,un)) (fun s=>bif decide (s>24)then some 2 else Ac (Fp N un) fun r=>some r) un.length (by omega) ?_ ?_ N (by omega)).trans ?_
  ·intro i s hi h0 h1 k
   have hd:=hdisp i (by omega)
   dsimp only[U21]
   simp (disch:=first | assumption | omega) only[Aq,hd,BJ]
  ·intro s k
   dsimp only[U21]
   simp (disch:=first | assumption | omega) only[Aq,hlen13,hrl]
   rfl
  ·rw[vM N un hN hun hx.un.2,Ae,show ∀ n:Nat,decide ((n:Int)>24)=decide (24<n)from fun n=>WW n 24,Bh]
theorem ApC {n:Int} (h:spI n=true): -1<=n/\n<=64:=by
  unfold spI at h
  rw[Bool.and_eq_true,decide_eq_true_eq,decide_eq_true_eq]at h
  exact⟨h.1,h.2⟩
theorem Afn {t:Nat} {c:Bs} (h:c.length<=131072):JV t c=some (Sp.elem t c):=by unfold JV;rw[if_pos h]
theorem ZZ (N t:Nat) (l:List Bs) (ht:t<256) (h31:t % 32≠31) (hN:1048578<N) (hl:l.length<=1000) (hs:l.flatten.length<=131072):Cb N (t:Int) l=some (Sp.elem t l.flatten,0):=by
  rw[Xv N t l ht h31 (by omega) (by omega),Afn hs];rfl
theorem Oh (N t:Nat) (b:Bool) (l:List Bs) (ht:t<256) (h31:t % 32≠31) (hN:1048578<N) (hl:l.length<=1000) (hs:l.flatten.length<=131072):Ak N b (t:Int) l=some (Sp.elem t l.flatten,b):=by
  rw[Agp N t b l ht h31 (by omega) (by omega),Afn hs];simp
theorem CV (a:Bs): [a].flatten=a:=by simp
theorem Tj (a b:Bs): [a,b].flatten=a++b:=by simp
theorem flat3 (a b c:Bs): [a,b,c].flatten=a++(b++c):=by simp
def Gl (s:Bs):Bs:=(encR (FM s)).1
theorem kZ {s:Bs} (h:ET s=true):encR (FM s)=(Gl s,0)/\(Gl s).length<=60:=by
  unfold ET at h
  unfold Gl
  cases ha:FM s with
  | none=>rw[ha]at h;cases h
  | some l =>
    refine⟨rfl,?_⟩
    obtain⟨h1,h2,h3,h4⟩:=YI ha
    show((gQ l).map UInt8.ofNat).length<=60
    have hf:=(rD h1 h3 h4).1
    have hs:(Vd (40*l.getD 0 0+l.getD 1 0)).length<=5:=ZN _ hf
    have hr:=Amh Vd 5 (l.drop 2) (fun x hx=>ZN x (by have:=h3 x (List.mem_of_mem_drop hx);omega))
    unfold gQ
    rw[List.length_map,List.length_append]
    rw[List.length_drop]at hr
    omega
def uS (e:Att):Prop:=ET e.1=true/\(e.2.1=12\/e.2.1=19\/e.2.1=22)/\e.2.2.length<=64
theorem Anh {k:Int} {v:Bs} (h:Sv k v=true):k=12\/k=19\/k=22:=by
  unfold Sv at h
  by_cases h1:k=12
  ·exact .inl h1
  ·rw[if_neg h1]at h
   by_cases h2:k=19
   ·exact .inr (.inl h2)
   ·rw[if_neg h2]at h
    by_cases h3:k=22
    ·exact .inr (.inr h3)
    ·rw[if_neg h3]at h;cases h
theorem AnI {e:Att} {s:List Att} (h:O9 e s=0):uS e/\Sv e.2.1 e.2.2=true/\e.2.2≠ []/\s.any (fun x=>x.1==e.1)=false:=by
  unfold O9 at h
  by_cases h1:FM e.1=none
  ·rw[if_pos h1]at h;cases h
  ·rw[if_neg h1]at h
   by_cases h2:e.2.2=[]\/Sv e.2.1 e.2.2=false
   ·rw[if_pos h2]at h;cases h
   ·rw[if_neg h2]at h
    by_cases h3:64<e.2.2.length
    ·rw[if_pos h3]at h;cases h
    ·rw[if_neg h3]at h
     have ht:Sv e.2.1 e.2.2=true:=by
       cases hq:Sv e.2.1 e.2.2 with
       | true=>rfl
       | false=>exact absurd (Or.inr hq) h2
     refine⟨⟨?_,Anh ht,by omega⟩,ht,fun hn=>h2 (Or.inl hn),?_⟩
     ·unfold ET
      cases hq:FM e.1 with
      | none=>exact absurd hq h1
      | some l=>rfl
     ·cases hq:s.any (fun x=>x.1==e.1)with
      | false=>rfl
      | true=>rw[hq,if_pos rfl]at h;cases h
theorem AkX {r:List Att} (h:KL r=0):r≠ []/\r.length<=4/\ ∀ e∈r,uS e:=by
  unfold KL at h
  by_cases h1:r=[]
  ·rw[if_pos h1]at h;cases h
  ·rw[if_neg h1]at h
   by_cases h2:4<r.length
   ·rw[if_pos h2]at h;cases h
   ·rw[if_neg h2]at h
    refine⟨h1,by omega,?_⟩
    unfold Ai8 at h
    have: ∀(l s:List Att),(Jd Qh (fun _=>some (0:Int)) l s).getD 0=0-> ∀ e∈l,uS e:=by
      intro l
      induction l with
      | nil=>intro s _ e he;cases he
      | cons x t ih =>
        intro s hs e he
        unfold Jd Qh at hs
        by_cases hx:O9 x s=0
        ·rw[if_pos hx]at hs
         rcases List.mem_cons.1 he with rfl | he
         ·exact(AnI hx).1
         ·exact ih _ hs e he
        ·rw[if_neg hx]at hs
         exact absurd hs hx
    exact this r [] h
theorem Ae5 {n:List (List Att)} (h:Fb n=0):n.length<=8/\ ∀ r∈n,KL r=0:=by
  unfold Fb Tt at h
  by_cases h8:8<n.length
  ·rw[if_pos h8]at h;cases h
  ·rw[if_neg h8]at h
   refine⟨by omega,?_⟩
   have: ∀(l:List (List Att)) (s:Unit),(Jd Ry (fun _=>some (0:Int)) l s).getD 0=0-> ∀ e∈l,KL e=0:=by
     intro l
     induction l with
     | nil=>intro s _ e he;cases he
     | cons x t ih =>
       intro s hs e he
       unfold Jd Ry at hs
       by_cases hx:KL x=0
       ·rw[if_pos hx]at hs
        rcases List.mem_cons.1 he with rfl | he
        ·exact hx
        ·exact ih _ hs e he
       ·rw[if_neg hx]at hs
        exact absurd hs hx
   exact this n () h
def Hf (e:Att):Bs:=Sp.elem 48 (Sp.elem 6 (Gl e.1)++Sp.elem e.2.1.toNat e.2.2)
theorem Al9 {e:Att} (h:uS e):(Hf e).length<=139:=by
  have h1:=(kZ h.1).2
  have h2:=h.2.2
  unfold Hf
  have:=Sp.Aw 48 (Sp.elem 6 (Gl e.1)++Sp.elem e.2.1.toNat e.2.2)
  have:=Sp.Aw 6 (Gl e.1)
  have:=Sp.Aw e.2.1.toNat e.2.2
  rw[List.length_append]at *
  omega
def JQ (r:List Att):Bs:=Sp.elem 49 (Fa (r.map Hf))
theorem AbQ (l:List Bs):(Fa l).length=l.flatten.length:=by
  unfold Fa
  rw[List.length_flatten,List.length_flatten]
  exact((List.mergeSort_perm l _).map _).sum_nat
theorem AeS {r:List Att} (h:KL r=0):(JQ r).length<=561/\(r.map Hf).flatten.length<=556:=by
  obtain⟨_,h4,ha⟩:=AkX h
  have h1:=D5 (g:=Hf) (M:=139) (l:=r) (fun e he=>Al9 (ha e he))
  have h2:=Sp.Aw 49 (Fa (r.map Hf))
  have h3:=AbQ (r.map Hf)
  unfold JQ
  omega
def nmB (n:List (List Att)):Bs:=Sp.elem 48 (n.map JQ).flatten
theorem AaU {n:List (List Att)} (h:Fb n=0):(nmB n).length<=4493/\(n.map JQ).flatten.length<=4488:=by
  obtain⟨h8,hr⟩:=Ae5 h
  have h1:=D5 (g:=JQ) (M:=561) (l:=n) (fun e he=>(AeS (hr e he)).1)
  have h2:=Sp.Aw 48 (n.map JQ).flatten
  unfold nmB
  omega
theorem Amx {k:Int} (h:k=12\/k=19\/k=22):k=(k.toNat:Int)/\k.toNat<256/\k.toNat % 32≠31:=by omega
theorem gV (N:Nat) (e:Att) (hN:1048578<N) (hs:Ny e) (h:uS e):GH N e=some (Hf e,0):=by
  obtain⟨o1,o2⟩:=kZ h.1
  obtain⟨k1,k2,k3⟩:=Amx h.2.1
  have h64:=h.2.2
  have l1:=Sp.Aw 6 (Gl e.1)
  have l2:=Sp.Aw e.2.1.toNat e.2.2
  have w1:Cb N 6 [Gl e.1]=_:=ZZ N 6 [Gl e.1] (by omega) (by omega) hN (by simp) (by rw[CV];omega)
  have w2:=ZZ N e.2.1.toNat [e.2.2] k2 k3 hN (by simp) (by rw[CV];omega)
  have w3:Cb N 48 [Sp.elem 6 (Gl e.1),Sp.elem e.2.1.toNat e.2.2]=_:=ZZ N 48 [Sp.elem 6 (Gl e.1),Sp.elem e.2.1.toNat e.2.2] (by omega) (by omega) hN (by simp) (by rw[Tj,List.length_append];omega)
  rw[CV]at w1 w2
  rw[Tj]at w3
  rw[<- k1]at w2
  unfold GH
  rw[aH N e.1 (by omega) hs.1,o1]
  simp only[Ae]
  rw[w1,Ae,w2,Ae,w3,Ae]
  rfl
theorem Alg {n:List (List Att)} (h:GZ n) {i:Nat} (hi:i<n.length): ∀ e∈n.getD i [],Ny e:=fun e he=>h _ (getD_mem [] hi) e he
theorem vW (N:Nat) (n:List (List Att)) (hN:1048578<N) (hs:GZ n):OQ N n=some (bif Fb n != 0 then([],Fb n)else(nmB n,0)):=by
  unfold OQ
  try simp only[clR]
  rw[N9 N n hN hs,Ae,<- Bh]
  refine BU fun h0=> ?_
  have h0:Fb n=0:=by simpa using h0
  obtain⟨h8,hr⟩:=Ae5 h0
  have hnl:=AaU h0
  refine(L8 (mk:=fun i acc=>((i:Int),acc)) n [] JQ (fun l=>Ac (Cb N 48 l) fun r62=>some (r62.fst,r62.snd)) ?_ ?_ N (by omega)).trans ?_
  ·intro i acc hi hacc k
   have hri:=hr _ (getD_mem [] hi)
   have hsi:=Alg hs hi
   obtain⟨r0,r4,ra⟩:=AkX hri
   have hrl:=AeS hri
   have hpos:=List.length_pos_iff.2 r0
   dsimp only[U2]
   rw[Int.toNat_natCast]
   generalize n.getD i []=r at *
   simp (disch:=first | assumption | omega) only[Aq]
   refine(L8 (mk:=fun j a=>((j:Int),a,acc)) r ([],0,[]) Hf (fun l=>Ac (LM N l) fun r48=>Ac (Cb N 49 [r48]) fun r50=>bif r50.snd != 0 then some ([],r50.snd)else chk (decide ((acc.length+1)*17<=140737488355328)) (k ((i:Int)+1,acc++[r50.fst]))) ?_ ?_ N (by omega)).trans ?_
   ·intro j a hj ha k
    have he:=gV N _ hN (hsi _ (getD_mem ([],0,[]) hj)) (ra _ (getD_mem ([],0,[]) hj))
    simp (disch:=first | assumption | omega) only[Aq,he,BJ]
   ·intro a k ha
    simp (disch:=first | assumption | omega) only[Aq]
   ·have w:Cb N 49 [Fa (r.map Hf)]=_:=ZZ N 49 [Fa (r.map Hf)] (by omega) (by omega) hN (by simp) (by rw[CV,AbQ];omega)
    rw[CV]at w
    unfold LM
    rw[Aio (by rw[List.length_map];omega),xU (by rw[List.length_map];omega),xU (by omega)]
    simp only[Bool.and_self,cond_true,Ae]
    rw[w,Ae]
    simp (disch:=first | assumption | omega) only[Aq,BJ]
    rfl
  ·intro acc k ha
   simp (disch:=first | assumption | omega) only[Aq]
  ·have w:Cb N 48 (n.map JQ)=_:=ZZ N 48 (n.map JQ) (by omega) (by omega) hN (by rw[List.length_map];omega) (by omega)
   rw[w,Ae];rfl
def Cc (g:Gn):Bs:=bif g.1==4 then Sp.elem 164 (nmB g.2.2)else Sp.elem (128+g.1).toNat g.2.1
theorem Am3 {s:Bs} (h:QK s=true):s.length<=128:=by
  rcases Nat.lt_or_ge 128 s.length with hl | hl
  ·rw[Aie hl]at h;cases h
  ·exact hl
theorem Agy {s:Bs} (h:Xa s=true):s.length<=128:=by
  rcases Nat.lt_or_ge 128 s.length with hl | hl
  ·rw[Aj5 hl]at h;cases h
  ·exact hl
theorem Aod {k:Int} {s:Bs} {c:Bool} (h:Aa7 k s c=true):s.length<=128/\(k=1\/k=2\/k=7):=by
  unfold Aa7 at h
  by_cases h1:k=1
  ·subst h1
   refine⟨?_,.inl rfl⟩
   rw[Na rfl,cond_true]at h
   cases c with
   | true =>
     unfold mbP at h
     rw[cond_true,Bool.and_eq_true,decide_eq_true_eq]at h
     exact h.1
   | false=>exact Am3 h
  ·rw[OB h1,cond_false]at h
   by_cases h2:k=2
   ·subst h2
    refine⟨?_,.inr (.inl rfl)⟩
    rw[Na rfl,cond_true]at h
    cases c with
    | true =>
      unfold Aab at h
      rw[cond_true,Bool.or_eq_true]at h
      rcases h with h | h
      ·have:s=[]:=by simpa using h
       subst this;exact Nat.zero_le _
      ·exact Agy h
    | false =>
      rw[cond_false]at h
      unfold AaX at h
      cases hq:Lib.hasPrefix s [42,46]with
      | true =>
        rw[hq,cond_true,Bool.and_eq_true,Bool.and_eq_true,decide_eq_true_eq]at h
        exact h.1.1
      | false=>rw[hq]at h;exact Agy h
   ·rw[OB h2,cond_false]at h
    by_cases h7:k=7
    ·subst h7
     refine⟨?_,.inr (.inr rfl)⟩
     rw[Na rfl,cond_true]at h
     cases c with
     | true =>
       rw[cond_true]at h
       unfold Abk at h
       cases hq:(decide (s.length=8)||decide (s.length=32))with
       | false=>rw[hq]at h;cases h
       | true=>rw[Bool.or_eq_true,decide_eq_true_eq,decide_eq_true_eq]at hq;omega
     | false =>
       rw[cond_false]at h
       unfold zV at h
       rw[Bool.or_eq_true,decide_eq_true_eq,decide_eq_true_eq]at h;omega
    ·rw[OB h7]at h;cases h
theorem Ag4 {g:Gn} {c:Bool} (h:CZ g c=0):(g.1=4/\g.2.1=[]/\Fb g.2.2=0)\/((g.1=1\/g.1=2\/g.1=7)/\g.2.1.length<=128/\g.2.2=[]/\Aa7 g.1 g.2.1 c=true):=by
  unfold CZ at h
  by_cases h4:g.1=4
  ·rw[Na h4,cond_true]at h
   cases hq:g.2.1==[]with
   | true=>rw[hq]at h;exact .inl ⟨h4,by simpa using hq,h⟩
   | false=>rw[hq]at h;cases h
  ·rw[OB h4,cond_false]at h
   cases hq:Aa7 g.1 g.2.1 c&&g.2.2.isEmpty with
   | false=>rw[hq]at h;cases h
   | true =>
     rw[Bool.and_eq_true]at hq
     obtain⟨h1,h2⟩:=Aod hq.1
     exact .inr ⟨h2,h1,by simpa using hq.2,hq.1⟩
theorem U0 {g:Gn} {c:Bool} (h:CZ g c=0):(Cc g).length<=4498:=by
  unfold Cc
  rcases Ag4 h with ⟨h1,_,h3⟩ | ⟨h1,h2,_,_⟩
  ·rw[Na h1,cond_true]
   have:=Sp.Aw 164 (nmB g.2.2)
   have:=(AaU h3).1
   omega
  ·rw[OB (by omega),cond_false]
   have:=Sp.Aw (128+g.1).toNat g.2.1
   omega
def rG (g:Gn) (c:Bool):Bs×Int:=bif CZ g c != 0 then([],CZ g c)else(Cc g,0)
theorem OV (N:Nat) (g:Gn) (c:Bool) (hN:1048578<N) (hs:Ky g):G5 N g c=some (rG g c):=by
  unfold G5 rG
  try simp only[clR]
  rw[Ju N g c hN hs,Ae,<- Bh]
  refine BU fun h0=> ?_
  have h0:CZ g c=0:=by simpa using h0
  unfold Cc
  rcases Ag4 h0 with ⟨h1,_,h3⟩ | ⟨h1,h2,_,_⟩
  ·have hl:=(AaU h3).1
   have w:Cb N 164 [nmB g.2.2]=_:=ZZ N 164 [nmB g.2.2] (by omega) (by omega) hN (by simp) (by rw[CV];omega)
   rw[CV]at w
   rw[Nb h1,cond_false,Na h1,cond_true,vW N g.2.2 hN hs.2,Ae,h3,h1]
   show Ac (Cb N 164 [nmB g.2.2]) _=_
   rw[w,Ae]
  ·have hk:(128+g.1)=((128+g.1).toNat:Int):=by omega
   have w:=ZZ N (128+g.1).toNat [g.2.1] (by omega) (by omega) hN (by simp) (by rw[CV];omega)
   rw[CV,<- hk]at w
   rw[AdC (by omega),cond_true,OB (by omega),cond_false,w64 (by omega) (by omega),w,Ae]
def VK (c:Bool) (g:Gn):Bs:=bif CZ g c != 0 then []else Cc g
theorem AjX (c:Bool) (g:Gn):(VK c g).length<=4498:=by
  unfold VK
  cases h:CZ g c != 0 with
  | true=>exact Nat.zero_le _
  | false=>exact U0 (c:=c) (by simpa using h)
theorem Apg (g:Gn) (c:Bool):rG g c=(VK c g,CZ g c):=by
  unfold rG VK
  cases h:CZ g c != 0 with
  | true=>rfl
  | false=>rw[show CZ g c=0 by simpa using h];rfl
theorem AjY {c:Bool} {l:List Gn} (h:AU (fun g=>CZ g c) l=0):l.map (VK c)=l.map Cc:=by
  refine List.map_congr_left fun g hg=> ?_
  have:=Ov h g hg
  unfold VK
  rw[show CZ g c=0 from this];rfl
def BD (l:List Gn):Bs:=(l.map Cc).flatten
def Adn (l:List Gn):Bs×Int:=bif l.isEmpty then([],7)else bif decide (16<l.length)then([],2)else bif Ih l false != 0 then([],Ih l false)else(BD l,0)
theorem AbD {l:List Gn} {c:Bool} (h:AU (fun g=>CZ g c) l=0) (h16:l.length<=16):(BD l).length<=71968:=by
  have:=D5 (g:=Cc) (M:=4498) (l:=l) (fun g hg=>U0 (c:=c) (Ov h g hg))
  unfold BD
  omega
theorem PZ (N:Nat) (l:List Gn) (hN:1048578<N) (hs:Gp l):Gg N l=some (Adn l):=by
  unfold Gg Adn Nj
  try simp only[clR]
  rw[len0,show decide (((l.length:Nat):Int)>16)=decide (16<l.length)from WW _ 16]
  cases he:l.isEmpty with
  | true=>rfl
  | false =>
    rw[cond_false,cond_false]
    by_cases h16:16<l.length
    ·rw[decide_eq_true h16];rfl
    ·rw[decide_eq_false h16,cond_false,cond_false,Ae]
     show Am _ N _ _=_
     refine(AlQ (mk:=fun i t=>(t,(i:Int))) l (0,[],[]) (fun g=>CZ g false) (VK false) (fun e=>some ([],e)) (fun t=>some (t,0)) ?_ ?_ N (by omega)).trans ?_
     ·intro i t hi ht k
      have hg:=OV N _ false hN (hs _ (getD_mem (0,[],[]) hi))
      have hl:=D5 (g:=VK false) (M:=4498) (l:=l) (fun g _=>AjX false g)
      rw[Apg]at hg
      simp (disch:=first | assumption | omega) only[Aq,hg,BJ]
     ·intro t k
      simp (disch:=first | assumption | omega) only[Aq]
     ·unfold Ih
      rw[<- Bh]
      refine BU fun h=> ?_
      rw[AjY (by simpa using h)];rfl
def QE:List Att:=[([50,46,53,46,52,46,51],12,[65,110,110]),([50,46,53,46,52,46,51],19,[32,97,110,110]),([50,46,53,46,52,46,51],12,[103,114,195,182,195,159,101]),([50,46,53,46,52,46,54],19,[85,83]),([50,46,53,46,52,46,49,48],19,[69,120,97,109,112,108,101,32,32,67,111,114,112]),([50,46,53,46,52,46,49,48],12,[101,120,97,109,112,108,101,32,99,111,114,112]),([50,46,53,46,52,46,49,49],22,[97,44,98,43,99,61,100,92,101]),([48,46,57,46,50,51,52,50,46,49,57,50,48,48,51,48,48,46,49,48,48,46,49,46,50,53],22,[111,114,103]),([49,46,50,46,56,52,48,46,49,49,51,53,52,57,46,49,46,57,46,49],22,[97,110,110,64,101,120,97,109,112,108,101,46,111,114,103]),([49,46,50,46,56,52,48,46,49,49,51,53,52,57,46,49,46,57,46,49],22,[110,111,32,97,100,100,114,101,115,115]),([50,46,53,46,52,46,57,57],19,[120]),([50,46,53,46,52,46,55],12,[76])]
def AqK:List Att:=[[48],[49],[50],[51]].flatMap fun k=>[([50,46,53,46,52,46,49,48],19,[67,65,32]++k),([50,46,53,46,52,46,49,48],19,[32,99,97,32,32]++k)]
def Aq7:Att:=([50,46,53,46,52,46,49,49],12,[85,110,105,116])
def QN:List (List Att):=QE.map (fun a=>[a])++(QE.flatMap fun a=>(QE.filter fun b=>a.1 != b.1).map fun b=>[a,b])++(Aq7::AqK).map fun a=>[a]
def Y1 (l:List Bs):Bs:=(l.foldl (fun s x=>Xe x s) []).flatten
theorem Wh (l:List Bs):Y1 l=Fa l:=AmG l
def QA (r:List Att):List Att:=(Jc (AA 49 (Y1 (r.map Hf)))).1
def Adw (r s:List Att):Bool:=(r.length==s.length)&&r.all (fun a=>s.any fun b=>a.1==b.1&&(a.2.1==b.2.1&&(a.2.2==b.2.2&&true)))
def An9 (r:List Att):Bool :=
  (Jc (AA 49 (Y1 (r.map Hf)))).2==0&&KL r==0&&KL (QA r)==0&&(Y1 ((QA r).map Hf)==Y1 (r.map Hf))&&Adw r (QA r)&&decide ((Y1 (r.map Hf)).length<=200) &&
  r.all (fun a=>decide (a.1.length<=40)&&decide (a.2.2.length<=40))&&(QA r).all (fun a=>decide (a.1.length<=40)&&decide (a.2.2.length<=40))
theorem Aox:QN.all An9=true:=by kernel_rfl
def spP (r:Bs) (k:Nat):Bool:=k==0||(!r.isEmpty&&(r.getD (r.length - 1) 0).toNat % 2 ^ k==0)
theorem ApD:((List.range 256).all fun b=>(List.range 8).all fun k=>(Bi BinOp.and .u8 (b:Int) (IntKind.u8.wrap (IntKind.u8.wrap (1*2 ^ min k 8) - 1))==0)==(b % 2 ^ k==0))=true:=by kernel_rfl
theorem Ao6 {b k:Nat} (hb:b<256) (hk:k<8):(Bi BinOp.and .u8 (b:Int) (IntKind.u8.wrap (IntKind.u8.wrap (1*2 ^ min k 8) - 1))==0)=(b % 2 ^ k==0):=by
  have h:=List.all_eq_true.1 (List.all_eq_true.1 ApD b (List.mem_range.2 hb)) k (List.mem_range.2 hk)
  exact beq_iff_eq.1 h
theorem AmV (N:Nat) (r:Bs) (k:Nat) (hk:k<8) (hr:r.length<=1048576):P9 N r (k:Int)=some (spP r k):=by
  unfold P9 spP
  try simp only[clR]
  have hu:IntKind.u64.wrap (k:Int)=(k:Int):=by
    show((k:Int) % 18446744073709551616)=k
    omega
  cases hr0:r with
  | nil =>
    by_cases h0:k=0
    ·subst h0;rfl
    ·rw[show((k:Int)==0)=false by simp;omega,show(k==0)=false by simp [h0]]
     rfl
  | cons x y =>
    rw[<- hr0]
    have hp:0<r.length:=by rw[hr0];exact Nat.succ_pos _
    have hn:(r==[])=false:=by rw[hr0];rfl
    have he:r.isEmpty=false:=by rw[hr0];rfl
    have hb:=(r.getD (r.length - 1) 0).toNat_lt
    rw[hu,hn,he]
    by_cases h0:k=0
    ·subst h0;rfl
    ·simp (disch:=first | assumption | omega) only[Aq,Ao6 hb hk]
     rw[show(k==0)=false by simp [h0]]
     rfl
def N8 (s:Bs):Bs×Int×Int:=match s with
  | []=>([],0,7)
  | u::r=>bif decide (7<u.toNat)|| !spP r u.toNat then([],0,7)else(r,(u.toNat:Int),0)
theorem AlT (u:UInt8) (r:Bs):AB (u::r) 1 (u::r).length=r:=by
  show((u::r).take (u::r).length).drop 1=r
  rw[List.take_length];rfl
theorem AeI (N:Nat) (s:Bs) (hs:s.length<=1048576):Wi N s=some (N8 s):=by
  cases s with
  | nil=>rfl
  | cons u r =>
    have hr:r.length<=1048576:=by rw[List.length_cons]at hs;omega
    have hu:=u.toNat_lt
    unfold Wi N8
    try simp only[clR]
    rw[AlT]
    have hl:(u::r).length=r.length+1:=rfl
    have hn:((u::r)==([]:Bs))=false:=rfl
    by_cases h7:7<u.toNat
    ·simp (disch:=first | assumption | omega) only[Aq,hl,hn,List.getD_cons_zero]
    ·have hS:=AmV N r u.toNat (by omega) hr
     simp (disch:=first | assumption | omega) only[Aq,hl,hn,List.getD_cons_zero,hS,Option.isSome_some,Option.getD_some]
     rw[Bh]
theorem Aic {E R S:Type} (f:E->S->S): ∀(l:List E) (s:S),FP (R:=R) (fun e s=>.inr (f e s)) l s= .inr (l.foldl (fun s e=>f e s) s):=by
  intro l
  induction l with
  | nil=>intro s;rfl
  | cons e r ih=>intro s;rw[F6];exact ih _
theorem Uz {X Y S ρ :Type} {B:X->(X->Option ρ)->(Y->Option ρ)->Option ρ} {kx:Y->Option ρ} (mk:Nat->S->X) (n:Nat) (f:Nat->S->S) (fin:S->Option ρ)
    (h: ∀(i:Nat) (s:S),i<n-> ∀ k,B (mk i s) k kx=k (mk (i+1) (f i s)))
    (hend: ∀(s:S) (k:X->Option ρ),B (mk n s) k kx=fin s) (N:Nat) (s:S) (hN:n<N):Am B N (mk 0 s) kx=fin ((List.range n).foldl (fun s i=>f i s) s):=by
  refine(Ox (R:=Unit) mk (List.range n) 0 (fun i s=>.inr (f i s)) (fun _=>none) fin ?_ ?_ N s (by rw[List.length_range];exact hN)).trans ?_
  ·intro i s hi k
   rw[List.length_range]at hi
   rw[ZE hi];exact h i s hi k
  ·intro s k;rw[List.length_range];exact hend s k
  ·rw[Aic];rfl
def jO (r:Bs) (i:Nat):Bool:=(r.getD (i / 8) 0).toNat / 2 ^ (7 - i % 8) % 2==1
theorem AoX:((List.range 256).all fun b=>(List.range 8).all fun k=>((Bi BinOp.and .u8 ((b:Int).fdiv (2 ^ min k 8)) 1==1)==(b / 2 ^ k % 2==1))&&(((((b:Int).fdiv (2 ^ min k 8)).tmod 2==1)==(b / 2 ^ k % 2==1))&&((((b:Int).fdiv (2 ^ min k 8)).tmod 2==0)== !(b / 2 ^ k % 2==1))))=true:=by kernel_rfl
theorem AnL {b k:Nat} (hb:b<256) (hk:k<8):(Bi BinOp.and .u8 ((b:Int).fdiv (2 ^ min k 8)) 1==1)=(b / 2 ^ k % 2==1)/\(((b:Int).fdiv (2 ^ min k 8)).tmod 2==1)=(b / 2 ^ k % 2==1)/\(((b:Int).fdiv (2 ^ min k 8)).tmod 2==0)= !(b / 2 ^ k % 2==1):=by
  have h:=List.all_eq_true.1 (List.all_eq_true.1 AoX b (List.mem_range.2 hb)) k (List.mem_range.2 hk)
  simp only[Bool.and_eq_true]at h
  exact⟨beq_iff_eq.1 h.1,beq_iff_eq.1 h.2.1,beq_iff_eq.1 h.2.2⟩
theorem Abt {x:Int} (h0:0<=x) (h1:x<18446744073709551616):IntKind.u64.wrap x=x:=by
  show x % 18446744073709551616=x
  omega
theorem oN (N:Nat) (r:Bs) (i:Nat) (hr:r.length<=1048576) (hi:i<8*r.length):Q9 N r (i:Int)=some (jO r i):=by
  unfold Q9
  try simp only[clR]
  have e1:(i:Int).tdiv 8=((i / 8:Nat):Int):=rfl
  have e2:(i:Int).tmod 8=((i % 8:Nat):Int):=rfl
  have e3:IntKind.u64.wrap ((i % 8:Nat):Int)=((i % 8:Nat):Int):=Abt (by omega) (by omega)
  have e4:IntKind.u64.wrap (7 - ((i % 8:Nat):Int))=((7 - i % 8:Nat):Int):=by rw[Abt (by omega) (by omega)];omega
  rw[e1,e2,e3,e4]
  have hb:=(AnL (r.getD (i / 8) 0).toNat_lt (show 7 - i % 8<8 by omega)).1
  simp (disch:=first | assumption | omega) only[Aq,hb]
  rfl
theorem AlN (s:Bs) (h:((N8 s).2.2 != 0)=false): ∃ r k,N8 s=(r,((k:Nat):Int),0)/\k<8/\(r=[]->k=0)/\r.length<=s.length:=by
  cases s with
  | nil=>cases h
  | cons u r =>
    unfold N8 at h ⊢
    dsimp only at h ⊢
    cases hb:decide (7<u.toNat)|| !spP r u.toNat with
    | true=>rw[hb]at h;cases h
    | false =>
      rw[Bool.or_eq_false_iff]at hb
      have h7:=of_decide_eq_false hb.1
      refine⟨r,u.toNat,rfl,by omega,fun hr=> ?_,by rw[List.length_cons];omega⟩
      subst hr
      have:=hb.2
      unfold spP at this
      by_cases h0:u.toNat=0
      ·exact h0
      ·rw[show(u.toNat==0)=false by simp [h0]]at this
       cases this
def flV (r:Bs) (n:Nat):Int×Int :=
  bif decide (0<n)&& !jO r (n - 1)then(0,7)else bif decide (16<n)then(0,1)else
  ((List.range n).foldl (fun acc i=>bif jO r i then Bi .or .i64 acc (i64.wrap (1*2 ^ min i 64))else acc) 0,0)
def flP (s:Bs):Int×Int:=bif (N8 s).2.2 != 0 then(0,(N8 s).2.2)else flV (N8 s).1 (8*(N8 s).1.length - (N8 s).2.1.toNat)
theorem aK (N:Nat) (s:Bs) (hN:1048578<N) (hs:s.length<=1048576):MI N s=some (flP s):=by
  unfold MI flP
  try simp only[clR]
  rw[AeI N s hs,Ae]
  cases h:(N8 s).2.2 != 0 with
  | true=>rfl
  | false =>
    obtain⟨r,k,he,hk,h0,hr⟩:=AlN s h
    rw[he]
    dsimp only[cond_false]
    unfold flV
    have hz:r.length=0->k=0:=fun e=>h0 (List.length_eq_zero_iff.1 e)
    have e1:i64.wrap (8*(r.length:Int))=((8*r.length:Nat):Int):=by rw[w64 (by omega) (by omega)];omega
    have e2:i64.wrap (((8*r.length:Nat):Int) - (k:Int))=((8*r.length - k:Nat):Int):=by rw[w64 (by omega) (by omega)];omega
    rw[e1,e2,Int.toNat_natCast]
    have hn:8*r.length - k<=8*r.length:=Nat.sub_le _ _
    generalize 8*r.length - k=n at hn
    by_cases hn0:n=0
    ·subst hn0
     simp (disch:=first | assumption | omega) only[Aq]
     refine(Uz (fun i acc=>(acc,(i:Int))) 0 (fun i acc=>acc) (fun acc=>some (acc,0)) ?_ ?_ N 0 (by omega)).trans rfl
     ·intro i acc hi k2;omega
     ·intro acc k2
      simp (disch:=first | assumption | omega) only[Aq]
    ·have e3:i64.wrap ((n:Int) - 1)=((n - 1:Nat):Int):=by rw[w64 (by omega) (by omega)];omega
     have hB:=oN N r (n - 1) (by omega) (by omega)
     rw[e3,hB]
     by_cases h16:16<n
     ·simp (disch:=first | assumption | omega) only[Aq,Option.isSome_some,Option.getD_some]
      rw[Bh]
     ·simp (disch:=first | assumption | omega) only[Aq,Option.isSome_some,Option.getD_some]
      rw[<- Bh]
      refine BU fun _=> ?_
      refine(Uz (fun i acc=>(acc,(i:Int))) n (fun i acc=>bif jO r i then Bi .or .i64 acc (i64.wrap (1*2 ^ min i 64))else acc) (fun acc=>some (acc,0)) ?_ ?_ N 0 (by omega)).trans rfl
      ·intro i acc hi k2
       have hB:=oN N r i (by omega) (by omega)
       have hu:=Abt (x:=(i:Int)) (by omega) (by omega)
       simp (disch:=first | assumption | omega) only[Aq,hB,hu]
       cases jO r i<;>rfl
      ·intro acc k2
       simp (disch:=first | assumption | omega) only[Aq]
theorem AbJ (s:Bs) (hs:s.length<=1048576):GZ (nmD s).1:=by
  have hc:=Nr s
  have hg:Good 1048576 (AV (Cf s).1.2.1).1:=(Dv _).mono (by omega)
  unfold nmD
  intro p hp
  cases h1:(Cf s).2 != 0 with
  | true=>rw[h1]at hp;cases hp
  | false =>
    cases h2:(Cf s).1.1 != 48 with
    | true=>rw[h1,h2]at hp;cases hp
    | false =>
      cases h3:(AV (Cf s).1.2.1).2 != 0 with
      | true=>rw[h1,h2,h3]at hp;cases hp
      | false =>
        cases h4:AU (fun a=>(Jc a).2) (AV (Cf s).1.2.1).1 != 0 with
        | true=>rw[h1,h2,h3,h4]at hp;cases hp
        | false =>
          rw[h1,h2,h3,h4]at hp
          simp only[cond_false]at hp
          have hp:p∈(AV (Cf s).1.2.1).1.map fun a=>(Jc a).1:=by
            revert hp
            cases Fb ((AV (Cf s).1.2.1).1.map fun a=>(Jc a).1) != 0 with
            | true=>intro hp;cases hp
            | false=>intro hp;exact hp
          obtain⟨x,hx,rfl⟩:=List.mem_map.1 hp
          exact yT x (by have:=(hg.all x hx).content;omega)
def zG:Gn:=(0,[],[])
def gnC (g:Gn) (c:Bool):Gn×Int:=bif CZ g c != 0 then(zG,CZ g c)else(g,0)
def gnD (e:El) (c:Bool):Gn×Int :=
  bif e.1==129||e.1==130||e.1==135 then gnC (e.1 - 128,e.2.1,[]) c else
  bif e.1==164 then(bif (nmD e.2.1).2 != 0 then(zG,(nmD e.2.1).2)else gnC (4,[],(nmD e.2.1).1) c)else(zG,5)
theorem VL (N:Nat) (e:El) (c:Bool) (hN:1048578<N) (he:e.2.1.length<=1048576):Jv N e c=some (gnD e c):=by
  obtain⟨t,s,w⟩:=e
  have he:s.length<=1048576:=he
  have hC: ∀ k,Hu N (k,s,[]) c=some (CZ (k,s,[]) c):=fun k=>Ju N _ c hN ⟨he,fun p hp=>by cases hp⟩
  have hD:=vU N s hN he
  have hC4:=Ju N (4,[],(nmD s).1) c hN ⟨by show 0<=_;omega,AbJ s he⟩
  unfold Jv
  try simp only[clR]
  unfold gnD gnC
  by_cases h1:t=129
  ·subst h1;simp (disch:=first | assumption | omega) only[Aq,hC,Bh];rfl
  ·by_cases h2:t=130
   ·subst h2;simp (disch:=first | assumption | omega) only[Aq,hC,Bh];rfl
   ·by_cases h3:t=135
    ·subst h3;simp (disch:=first | assumption | omega) only[Aq,hC,Bh];rfl
    ·by_cases h4:t=164
     ·subst h4;simp (disch:=first | assumption | omega) only[Aq,hC4,hD,Bh];rfl
     ·simp (disch:=first | assumption | omega) only[Aq];rfl
theorem Aka (e:El) (c:Bool) (he:e.2.1.length<=1048576):Ky (gnD e c).1:=by
  have hz:Ky zG:=⟨by show 0<=_;omega,fun p hp=>by cases hp⟩
  have hC: ∀ g:Gn,Ky g->Ky (gnC g c).1:=fun g hg=>by
    unfold gnC
    cases CZ g c != 0
    ·exact hg
    ·exact hz
  unfold gnD
  cases e.1==129||e.1==130||e.1==135 with
  | true=>exact hC _ ⟨he,fun p hp=>by cases hp⟩
  | false =>
    cases e.1==164 with
    | false=>exact hz
    | true =>
      cases h:(nmD e.2.1).2 != 0 with
      | true=>exact hz
      | false=>exact hC _ ⟨by show 0<=_;omega,AbJ _ he⟩
def Iq (s:Bs):List Gn×Int :=
  bif (AV s).2 != 0 then([],(AV s).2)else bif (AV s).1.isEmpty then([],7)else bif decide (16<(AV s).1.length)then([],2)else
  bif AU (fun a=>(gnD a false).2) (AV s).1 != 0 then([],AU (fun a=>(gnD a false).2) (AV s).1)else((AV s).1.map fun a=>(gnD a false).1,0)
theorem KI (N:Nat) (s:Bs) (hN:1048578<N) (hs:s.length<=1048576):DJ N s=some (Iq s):=by
  unfold DJ Nj
  try simp only[clR]
  rw[Eb N s (by omega) (by omega) (by omega)]
  unfold Iq
  have hg:Good 1048576 (AV s).1:=(Dv s).mono hs
  generalize AV s=r at hg ⊢
  obtain⟨l,er⟩:=r
  have hlen:l.length<=1048576:=hg.len
  rw[Ae]
  dsimp only
  rw[<- Bh]
  refine BU fun _=> ?_
  cases hl:l with
  | nil=>rfl
  | cons a0 l0 =>
    rw[<- hl]
    have hp:0<l.length:=by rw[hl];exact Nat.succ_pos _
    have he:l.isEmpty=false:=by rw[hl];rfl
    rw[he,cond_false]
    by_cases h16:16<l.length
    ·simp (disch:=first | assumption | omega) only[Aq]
    ·simp (disch:=first | assumption | omega) only[Aq]
     rw[<- Bh]
     refine(Zm (fun i acc=>((i:Int),acc)) l (0,[],[]) (fun a=>(gnD a false).2) (fun a=>(gnD a false).1) (fun e=>some ([],e)) (fun acc=>some (acc,0)) ?_ ?_ N (by omega)).trans ?_
     ·intro i acc hi ha k
      have hc:=(hg.all _ (getD_mem (0,[],[]) hi)).content
      dsimp only at hc
      have hE:=VL N (l.getD i (0,[],[])) false hN (by omega)
      simp (disch:=first | assumption | omega) only[Aq,hE]
      generalize gnD (l.getD i (0,[],[])) false=y
      cases y.2 != 0<;>rfl
     ·intro acc k ha
      simp (disch:=first | assumption | omega) only[Aq]
     ·rfl
theorem kL {α :Type} {P: α ->Prop} {b:Bool} {x y: α} (hx:P x) (hy:b=false->P y):P (bif b then x else y):=by
  cases b
  ·exact hy rfl
  ·exact hx
def kV (r:List Gn×Int):Prop:=(∀ g∈r.1,Ky g)/\r.1.length<=16
theorem wK (s:Bs) (hs:s.length<=1048576):kV (Iq s):=by
  have hg:Good 1048576 (AV s).1:=(Dv s).mono hs
  have hz: ∀ e:Int,kV ([],e):=fun e=>⟨fun g hg=>(by cases hg),by show 0<=16;omega⟩
  refine kL (P:=kV) (hz _) fun _=>kL (P:=kV) (hz _) fun _=>kL (P:=kV) (hz _) fun h16=>kL (P:=kV) (hz _) fun _=>⟨fun g hgm=> ?_,?_⟩
  ·obtain⟨x,hx,rfl⟩:=List.mem_map.1 hgm
   exact Aka x false (by have:=(hg.all x hx).content;omega)
  ·show((AV s).1.map _).length<=16
   rw[List.length_map];have:=of_decide_eq_false h16;omega
def E5 (g:Gn):Bs:=Sp.elem 48 (Cc g)
theorem Alr {g:Gn} (h:CZ g true=0):(E5 g).length<=4503:=by
  have:=U0 h
  have:=Sp.Aw 48 (Cc g)
  unfold E5;omega
def BR (t:Nat) (l:List Gn):Bs:=bif l.isEmpty then []else Sp.elem t (l.map E5).flatten
theorem Als {l:List Gn} (h: ∀ g∈l,CZ g true=0) (h16:l.length<=16):(l.map E5).flatten.length<=72048:=by
  have:=D5 (g:=E5) (M:=4503) (l:=l) (fun g hg=>Alr (h g hg))
  omega
theorem aB (N t:Nat) (l:List Gn) (ht:t<256) (h31:t % 32≠31) (hN:1048578<N) (hs:Gp l) (h: ∀ g∈l,CZ g true=0) (h16:l.length<=16):Ea N (t:Int) l=some (BR t l,0):=by
  unfold Ea BR
  try simp only[clR]
  rw[len0]
  cases he:l.isEmpty with
  | true=>rfl
  | false =>
    rw[cond_false,cond_false]
    have hl:=Als h h16
    refine(L8 (mk:=fun i a=>((i:Int),a)) l (0,[],[]) E5 (fun l=>Ac (Cb N (t:Int) l) fun r45=>some (r45.fst,r45.snd)) ?_ ?_ N (by omega)).trans ?_
    ·intro i a hi ha k
     have hg0:=h _ (getD_mem (0,[],[]) hi)
     have hg:=OV N _ true hN (hs _ (getD_mem (0,[],[]) hi))
     have hb:=U0 hg0
     have w:Cb N 48 [Cc (l.getD i (0,[],[]))]=_:=ZZ N 48 [Cc (l.getD i (0,[],[]))] (by omega) (by omega) hN (by simp) (by rw[CV];omega)
     rw[CV]at w
     unfold rG at hg
     rw[hg0]at hg
     have w':Sp.elem 48 (Cc (l.getD i (0,[],[])))=E5 (l.getD i (0,[],[])):=rfl
     simp (disch:=first | assumption | omega) only[Aq,hg,w,w',BJ]
    ·intro a k ha
     simp (disch:=first | assumption | omega) only[Aq]
    ·rw[ZZ N t (l.map E5) ht h31 hN (by rw[List.length_map];omega) (by omega),Ae]
def Aa4 (t:Nat) (c:Bs):Bs×Int:=((JV t c).getD [],if(JV t c).isNone then 2 else 0)
def PO (s:St2):Bs×Int:=bif QC s != 0 then([],QC s)else Aa4 48 (BR 160 s.1++BR 161 s.2)
theorem Ao8 {s:St2} (h:QC s=0):s.1.length<=16/\s.2.length<=16/\(∀ g∈s.1,CZ g true=0)/\ ∀ g∈s.2,CZ g true=0:=by
  unfold QC at h
  cases h1:s.1.isEmpty&&s.2.isEmpty with
  | true=>rw[h1]at h;cases h
  | false =>
    rw[h1,cond_false]at h
    cases h2:(decide (16<s.1.length)||decide (16<s.2.length))with
    | true=>rw[h2]at h;cases h
    | false =>
      rw[h2,cond_false]at h
      rw[Bool.or_eq_false_iff,decide_eq_false_iff_not,decide_eq_false_iff_not]at h2
      have:=Ov h
      exact⟨by omega,by omega,fun g hg=>this g (List.mem_append_left _ hg),fun g hg=>this g (List.mem_append_right _ hg)⟩
theorem nP (N:Nat) (s:St2) (hN:1048578<N) (h1:Gp s.1) (h2:Gp s.2):ML N s=some (PO s):=by
  unfold ML PO
  try simp only[clR]
  rw[Ob N s hN h1 h2,Ae,<- Bh]
  refine BU fun h0=> ?_
  obtain⟨a1,a2,a3,a4⟩:=Ao8 (show QC s=0 by simpa using h0)
  have e1:Ea N 160 s.1=_:=aB N 160 s.1 (by omega) (by omega) hN h1 a3 a1
  have e2:Ea N 161 s.2=_:=aB N 161 s.2 (by omega) (by omega) hN h2 a4 a2
  have e3:Cb N 48 [BR 160 s.1,BR 161 s.2]=_:=Xv N 48 [BR 160 s.1,BR 161 s.2] (by omega) (by omega) (by show 2<N;omega) (by show 2<=_;omega)
  rw[Tj]at e3
  rw[e1,Ae,e2]
  simp only[Ae]
  rw[e3]
  simp only[Ae]
  unfold Aa4
  cases JV 48 (BR 160 s.1++BR 161 s.2)<;>rfl
def flB (n:Int):Bs:=((IB 70 n).getD ([],0)).1
def inB (n:Int):Bs:=(GI 70 n).getD []
theorem flags_all (M:Nat): ∀ n:Fin 512,IB (M+70) (n.val:Int)=some (flB (n.val:Int),0)/\Y4 (M+70) (n.val:Int)=some (flB (n.val:Int),0)/\(flB (n.val:Int)).length<=3 :=
  of_decide_eq_true (by kernel_rfl)
theorem Ams (M:Nat): ∀ n:Fin 66,GI (M+70) ((n.val:Int) - 1)=some (inB ((n.val:Int) - 1))/\UZ (M+70) ((n.val:Int) - 1)=some (inB ((n.val:Int) - 1))/\(inB ((n.val:Int) - 1)).length<=2 :=
  of_decide_eq_true (by kernel_rfl)
theorem Wv (N:Nat) (n:Int) (hN:1048578<N) (h0:0<=n) (h1:n<512):IB N n=some (flB n,0)/\Y4 N n=some (flB n,0)/\(flB n).length<=3:=by
  obtain⟨M,rfl⟩: ∃ M,N=M+70:=⟨N - 70,by omega⟩
  have:=flags_all M ⟨n.toNat,by omega⟩
  rw[show((⟨n.toNat,by omega⟩:Fin 512).val:Int)=n from Int.toNat_of_nonneg h0]at this
  exact this
theorem N7 (N:Nat) (n:Int) (hN:1048578<N) (h:spI n=true):GI N n=some (inB n)/\UZ N n=some (inB n)/\(inB n).length<=2:=by
  obtain⟨M,rfl⟩: ∃ M,N=M+70:=⟨N - 70,by omega⟩
  obtain⟨h0,h1⟩:=ApC h
  have:=Ams M ⟨(n+1).toNat,by omega⟩
  rw[show((⟨(n+1).toNat,by omega⟩:Fin 66).val:Int) - 1=n from by show((n+1).toNat:Int) - 1=n;omega]at this
  exact this
def st1 (l:List El):List Gn×Int :=
  bif (Be l 160).2.1 then(bif (C9 (Be l 160).1.2.1 160).2 != 0 then([],(C9 (Be l 160).1.2.1 160).2)else Iq (C9 (Be l 160).1.2.1 160).1.2.1)else([],0)
def st2 (l:List El):Int×Int :=
  bif (Be l 129).2.1 then(bif (flP (Be l 129).1.2.1).2 != 0 then(0,(flP (Be l 129).1.2.1).2)else bif (flP (Be l 129).1.2.1).1==0 then(0,7)else((flP (Be l 129).1.2.1).1,0))else(0,0)
def Uu (s:Bs):List (List Att)×Int :=
  bif (Iq s).2 != 0 then([],(Iq s).2)else bif ((Iq s).1.length:Int) != 1||((Iq s).1.getD 0 (0,[],[])).1 != 4 then([],7)else(((Iq s).1.getD 0 (0,[],[])).2.2,0)
def st3 (l:List El):(Bool×List (List Att))×Int :=
  bif (Be l 162).2.1 then(bif (Uu (Be l 162).1.2.1).2 != 0 then((false,[]),(Uu (Be l 162).1.2.1).2)else((true,(Uu (Be l 162).1.2.1).1),0))else((false,[]),0)
def r1 (l:List El):List El:=(Be l 160).2.2
def r2 (l:List El):List El:=(Be (r1 l) 129).2.2
def r3 (l:List El):List El:=(Be (r2 l) 162).2.2
def zP:Pt:=([],0,false,[])
def ptD (l:List El):Pt×Int :=
  bif (st1 l).2 != 0 then(zP,(st1 l).2)else bif (st2 (r1 l)).2 != 0 then(zP,(st2 (r1 l)).2)else bif (st3 (r2 l)).2 != 0 then(zP,(st3 (r2 l)).2)else
  bif decide (r3 l≠ [])then(zP,4)else(((st1 l).1,(st2 (r1 l)).1,(st3 (r2 l)).1.1,(st3 (r2 l)).1.2),0)
theorem Yn {l:List El} (hg:Good 1048576 l) (t:Int) (h:(Be l t).2.1=true):(Be l t).1.2.1.length<=1048576:=by have:=((Qy hg t).2 h).content;omega
theorem Ag5 {l:List El} (hg:Good 1048576 l):Good 1048576 (r1 l):=(Qy hg 160).1
theorem Ag6 {l:List El} (hg:Good 1048576 l):Good 1048576 (r2 l):=(Qy (Ag5 hg) 129).1
theorem ApF (N:Nat) (l:List El) (hN:1048578<N) (hg:Good 1048576 l) (J:List El×List Gn->Option (Pt×Int×List El)) :
    (Ac (Ce N l 160) fun r20=>bif r20.2.1 then Ac (Jp N r20.1.2.1 160) fun r27=>bif r27.2 != 0 then some (zP,r27.2,r20.2.2)else Ac (DJ N r27.1.2.1) fun r37=>bif r37.2 != 0 then some (zP,r37.2,r20.2.2)else J (r20.2.2,r37.1)else J (r20.2.2,[]))
      = bif (st1 l).2 != 0 then some (zP,(st1 l).2,r1 l)else J (r1 l,(st1 l).1):=by
  rw[Xx,Ae]
  unfold st1 r1
  cases h1:(Be l 160).2.1 with
  | false=>rfl
  | true =>
    have hl1:=Yn hg 160 h1
    have ho:=Q8 (Be l 160).1.2.1 160
    rw[cond_true,cond_true,LY N _ 160 hN hl1,Ae]
    cases h2:(C9 (Be l 160).1.2.1 160).2 != 0 with
    | true=>rw[cond_true,cond_true,h2];rfl
    | false=>rw[cond_false,cond_false,KI N _ hN (by omega),Ae]
theorem ApG (N:Nat) (l:List El) (hN:1048578<N) (hg:Good 1048576 l) (J:List El×Int->Option (Pt×Int×List El)) :
    (Ac (Ce N l 129) fun r47=>bif r47.2.1 then Ac (MI N r47.1.2.1) fun r54=>bif r54.2 != 0 then some (zP,r54.2,r47.2.2)else bif r54.1==0 then some (zP,7,r47.2.2)else J (r47.2.2,r54.1)else J (r47.2.2,0))
      = bif (st2 l).2 != 0 then some (zP,(st2 l).2,(Be l 129).2.2)else J ((Be l 129).2.2,(st2 l).1):=by
  rw[Xx,Ae]
  unfold st2
  cases h1:(Be l 129).2.1 with
  | false=>rfl
  | true =>
    have hl1:=Yn hg 129 h1
    rw[cond_true,cond_true,aK N _ hN hl1,Ae]
    cases h2:(flP (Be l 129).1.2.1).2 != 0 with
    | true=>rw[cond_true,cond_true,h2];rfl
    | false =>
      rw[cond_false,cond_false]
      cases (flP (Be l 129).1.2.1).1==0<;>rfl
theorem ApH (N:Nat) (l:List El) (hN:1048578<N) (hg:Good 1048576 l) (J:List El×Bool×List (List Att)->Option (Pt×Int×List El)) :
    (Ac (Ce N l 162) fun r68=>bif r68.2.1 then Ac (DJ N r68.1.2.1) fun r75=>bif r75.2 != 0 then some (zP,r75.2,r68.2.2)else chk (decide ((0:Int)<(r75.1.length:Int))||((r75.1.length:Int) != 1))<|bif ((r75.1.length:Int) != 1)||((r75.1.getD 0 (0,[],[])).1 != 4)then some (zP,7,r68.2.2)else chk (decide ((0:Int)<(r75.1.length:Int)))<|J (r68.2.2,true,(r75.1.getD 0 (0,[],[])).2.2)else J (r68.2.2,false,[]))
      = bif (st3 l).2 != 0 then some (zP,(st3 l).2,(Be l 162).2.2)else J ((Be l 162).2.2,(st3 l).1.1,(st3 l).1.2):=by
  rw[Xx,Ae]
  unfold st3 Uu
  cases h1:(Be l 162).2.1 with
  | false=>rfl
  | true =>
    have hl1:=Yn hg 162 h1
    rw[cond_true,cond_true,KI N _ hN hl1,Ae]
    cases h2:(Iq (Be l 162).1.2.1).2 != 0 with
    | true=>simp only[h2,cond_true]
    | false =>
      rw[cond_false,cond_false]
      by_cases h3:(Iq (Be l 162).1.2.1).1.length=1
      ·simp (disch:=first | assumption | omega) only[Aq,h3]
       cases ((Iq (Be l 162).1.2.1).1.getD 0 (0,[],[])).1 != 4<;>simp<;>rfl
      ·have h4:(((Iq (Be l 162).1.2.1).1.length:Int) != 1)=true:=by simp;omega
       rw[h4,Bool.or_true,A8,Bool.true_or]
       rfl
theorem Aaq (N:Nat) (l:List El) (hN:1048578<N) (hg:Good 1048576 l): ∃ rest,Il N l=some ((ptD l).1,(ptD l).2,rest):=by
  unfold Il
  try simp only[clR]
  rw[TM]
  refine Exists.imp (fun rest h=>Eq.trans (ApF N l hN hg _) h) ?_
  unfold ptD
  cases h1:(st1 l).2 != 0 with
  | true=>exact⟨_,rfl⟩
  | false =>
    rw[cond_false,cond_false]
    dsimp only[U2]
    rw[TM]
    refine Exists.imp (fun rest h=>Eq.trans (ApG N (r1 l) hN (Ag5 hg) (fun p=>U3 _ (p.1,(st1 l).1,p.2))) h) ?_
    cases h2:(st2 (r1 l)).2 != 0 with
    | true=>exact⟨_,rfl⟩
    | false =>
      rw[cond_false,cond_false]
      dsimp only[U3]
      rw[TM]
      refine Exists.imp (fun rest h=>Eq.trans (ApH N (r2 l) hN (Ag6 hg) (fun p=>U5 _ (p.1,(st1 l).1,(st2 (r1 l)).1,p.2.1,p.2.2))) h) ?_
      cases h3:(st3 (r2 l)).2 != 0 with
      | true=>exact⟨_,rfl⟩
      | false =>
        rw[cond_false,cond_false]
        dsimp only[U5]
        rw[Ago,Ae]
        show ∃ rest,(bif (if r3 l=[]then(0:Int)else 4) != 0 then some (zP,(if r3 l=[]then(0:Int)else 4),r3 l)else some (((st1 l).1,(st2 (r1 l)).1,(st3 (r2 l)).1.1,(st3 (r2 l)).1.2),0,r3 l))=_
        by_cases h4:r3 l=[]
        ·rw[if_pos h4,decide_eq_false (fun h=>h h4)];exact⟨_,rfl⟩
        ·rw[if_neg h4,decide_eq_true h4];exact⟨_,rfl⟩
