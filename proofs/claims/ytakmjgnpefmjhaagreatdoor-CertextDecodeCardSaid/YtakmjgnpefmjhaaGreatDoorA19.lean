import Derived.Test.YtakmjgnpefmjhaaGreatDoorA18
set_option linter.all false
namespace Go.Proofs.YtakmjgnpefmjhaaGreatDoor.Pl
open IntKind (i64 u8 u32 u64)
open Go Vm
def hd0 (l:List El):El:=l.getD 0 (0,[],[])
def baD (e:El):Gn×Int:=bif (elL e).2 != 0 then(zG,(elL e).2)else bif (elL e).1.isEmpty then(zG,3)else
 bif (gnD (hd0 (elL e).1) true).2 != 0 then(zG,(gnD (hd0 (elL e).1) true).2)else bif decide (1<(elL e).1.length)then(zG,4)else((gnD (hd0 (elL e).1) true).1,0)
def zZ (s:Bs):List Gn×Int:=bif (JG s).2 != 0 then([],(JG s).2)else bif (JG s).1.isEmpty then([],7)else
 bif JV (fun e=>(baD e).2) (JG s).1 != 0 then([],JV (fun e=>(baD e).2) (JG s).1)else((JG s).1.map fun e=>(baD e).1,0)
def AwZ (N:Nat) (s:Bs) (hN:1048578<N) (hs:s.length<=1048576):NL N s=some (zZ s):=by
 unfold NL;try simp only[clR]
 rw[NP N s (by omega) (by omega) (by omega)];unfold zZ;have hg:Good 1048576 (JG s).1:=(KC s).mono hs;generalize JG s=r at hg ⊢;obtain⟨l,er⟩:=r;have hlen:l.length<=1048576:=hg.len;rw[Js];dsimp only;rw[<- JD];refine Ku fun _=> ?_;rw[len0,<- JD];refine Ku fun _=> ?_;rw[<- JD];refine(PT (fun i acc=>((i:Int),acc)) l (0,[],[]) (fun e=>(baD e).2) (fun e=>(baD e).1) (fun e=>some ([],e)) (fun acc=>some (acc,0)) ?_ ?_ N (by omega)).trans rfl
 .intro i acc hi ha k;have he:=hg.all _ (getD_mem ((0,[],[]):El) hi);have hge:=Xh he (DK _);have hc:=he.content;simp (disch:=omega) only[J4,Ko];generalize l.getD i (0,[],[])=e at *
  unfold baD;have hL:(bif e.1 != 48 then(some ([],5):Option (List El×Int))else QN N e.2.1)=some (elL e):=by all_goals grind[elL,NP]
  cases h1:e.1 != 48 with
  | true =>rw[h1]at hL;rw[<- Gw hL];rfl
  | false =>
   rw[h1]at hL;rw[cond_false]at hL ⊢;rw[hL,Js];generalize elL e=q at *
   obtain⟨es,er2⟩:=q;dsimp only;cases h2:er2 != 0 with
   | true=>simp only[cond_true,h2]
   | false =>
    simp only[cond_false];cases es with
    | nil=>rfl
    | cons a r =>have hd:=wQ N a true hN (by have:=(hge.all a Dw).content;omega);rw[len0,show(a::r).isEmpty=false from rfl,cond_false,cond_false,Dn (by simp),J8];show Jq (UF N a true) _=_;rw[hd,Js];all_goals grind[hd0,gnD,SX]
 .intro acc k ha;simp (disch:=omega) only[J4]
def Ax5 (N:Nat) (a:El) (r:List El) (hl:(a::r).length<=1048576):KT N (a::r,0) (-1)=some (a,0,(a::r,1)):=by
 have h0:decide ((0:Int)>=((a::r).length:Int))=false:=Du (by rw[List.length_cons];omega);have h2:decide ((0:Int)<((a::r).length:Int))=true:=Dn (by rw[List.length_cons];omega);unfold KT;try simp -zeta only[Ap]
 try dsimp only
 rw[h0,h2];rfl
theorem AqD (N:Nat) (e:El) (hN:1048578<N) (hs:e.2.1.length<=1048576):Ug N e=some (zZ e.2.1):=by
 unfold Ug;try simp only[clR]
 rw[QL N e.2.1 (by omega) (by omega) (by omega)];unfold zZ;have hg:Good 1048576 (JG e.2.1).1:=(KC e.2.1).mono hs;generalize JG e.2.1=r at hg ⊢;obtain⟨l,er⟩:=r;have hlen:l.length<=1048576:=hg.len;rw[Js];dsimp only;rw[<- JD];refine Ku fun _=> ?_;rw[len0,<- JD];refine Ku fun _=> ?_;rw[<- JD];refine(PT (fun i acc=>((i:Int),acc)) l (0,[],[]) (fun e=>(baD e).2) (fun e=>(baD e).1) (fun e=>some ([],e)) (fun acc=>some (acc,0)) ?_ ?_ N (by omega)).trans rfl
 .intro i acc hi ha k;have he:=hg.all _ (getD_mem ((0,[],[]):El) hi);have hge:=Xh he (DK _);have hc:=he.content;have ho:=Aqx N _ hN he;simp (disch:=omega) only[J4,Ko];rw[ho,Js];generalize l.getD i (0,[],[])=x at *
  unfold baD;generalize elL x=q at *
  obtain⟨es,er2⟩:=q;dsimp only;cases h2:er2 != 0 with
  | true=>simp only[cond_true,h2]
  | false =>
   simp only[cond_false];cases es with
   | nil=>rfl
   | cons a r =>
    have hd:=qJ N a true hN (by have:=(hge.all a Dw).content;omega);have hE:Kz N (a::r,1)=_:=rend_eq (es:=a::r) (l:=r) ⟨1,rfl,by simp,rfl⟩;rw[Ax5 N a r hge.len,Js];dsimp only;rw[show((0:Int) != 0)=false from rfl,cond_false,hd,Js,show(a::r).isEmpty=false from rfl,cond_false];simp only[show hd0 (a::r)=a from rfl];cases h3:(gnD a true).2 != 0 with
    | true=>simp only[cond_true,h3]
    | false =>
     simp only[cond_false];rw[hE,Js];cases r with
     | nil =>show(bif ((0:Int) != 0)then _ else _)=_;rw[show((0:Int) != 0)=false from rfl,cond_false];rfl
     | cons b r=>simp only[Dn (show 1<(a::b::r).length by simp)];rfl
 .intro acc k ha;simp (disch:=omega) only[J4]
def okB (r:Gn×Int):Prop:=We r.1/\iI r.1.2.2
def AuK (e:El) (he:YQ 1048576 e):okB (baD e):=by
 have hge:=Xh he (DK _);have hz: ∀ e,okB (zG,e):=fun e=>⟨⟨by show 0<=_;omega,fun p hp=>by cases hp⟩,Sr⟩
 unfold baD;refine KH (P:=okB) (hz _) fun _=>KH (P:=okB) (hz _) fun h0=>KH (P:=okB) (hz _) fun _=>KH (P:=okB) (hz _) fun _=> ?_
 have hc:(hd0 (elL e).1).2.1.length<=1048576:=by
  unfold hd0;cases hl:(elL e).1 with
  | nil=>exact DF _
  | cons a r=>have:=(hge.all a (by rw[hl];exact Dw)).content;show a.2.1.length<=_;omega
 exact⟨Ams _ _ hc,Apv _ _ hc⟩
def okT (r:List Gn×Int):Prop:=Me r.1/\jD r.1
def Az9 (s:Bs) (hs:s.length<=1048576):okT (zZ s):=by
 have hg:Good 1048576 (JG s).1:=(KC s).mono hs;have hz: ∀ e:Int,okT ([],e):=fun e=>⟨fun g hg=>(by cases hg),TE⟩
 refine KH (P:=okT) (hz _) fun _=>KH (P:=okT) (hz _) fun _=>KH (P:=okT) (hz _) fun _=>⟨fun g hgm=> ?_,?_,fun g hgm=> ?_⟩
 .obtain⟨x,hx,rfl⟩:=DD.1 hgm;exact(AuK x (hg.all x hx)).1
 .show((JG s).1.map _).length<=_;rw[D7];exact hg.len
 .obtain⟨x,hx,rfl⟩:=DD.1 hgm;exact(AuK x (hg.all x hx)).2
def bZ (l:List El) (t:Int):List Gn×Int:=bif (JU l t).2.1 then zZ (JU l t).1.2.1 else([],0)
def s1D (s:Bs):List Gn×Int:=bZ (JW s).1 160
def s2D (s:Bs):List Gn×Int:=bZ (JU (JW s).1 160).2.2 161
def Apb (s:Bs):List El:=(JU (JU (JW s).1 160).2.2 161).2.2
def eG (s:Bs):(List Gn×List Gn)×Int :=
 bif (JW s).2 != 0 then(([],[]),(JW s).2)else bif (s1D s).2 != 0 then(([],[]),(s1D s).2)else bif (s2D s).2 != 0 then(([],[]),(s2D s).2)else
 bif Ul (Apb s) != 0 then(([],[]),Ul (Apb s))else bif eH ((s1D s).1,(s2D s).1) != 0 then(([],[]),eH ((s1D s).1,(s2D s).1))else(((s1D s).1,(s2D s).1),0)
def ArZ {l:List El} (hg:Good 1048576 l) (t:Int):okT (bZ l t):=by
 unfold bZ;cases h:(JU l t).2.1 with
 | true=>exact Az9 _ (RH hg t h)
 | false=>exact⟨fun g hg=>(by cases hg),TE⟩
def okS (r:(List Gn×List Gn)×Int):Prop:=(Me r.1.1/\jD r.1.1)/\Me r.1.2/\jD r.1.2
section
variable (N:Nat) (s:Bs) (hN:1048578<N) (hs:s.length<=1048576)
include hs
theorem Aq3:okT (s1D s):=ArZ (P6 s hs) 160
theorem Aq4:okT (s2D s):=ArZ (Ub (P6 s hs) 160).1 161
theorem Aso:okS (eG s):=by
 have hz: ∀ e,okS (([],[]),e):=fun e=>⟨⟨fun g hg=>(by cases hg),TE⟩,fun g hg=>(by cases hg),TE⟩
 unfold eG;refine KH (P:=okS) (hz _) fun _=>KH (P:=okS) (hz _) fun _=>KH (P:=okS) (hz _) fun _=>KH (P:=okS) (hz _) fun _=>KH (P:=okS) (hz _) fun _=> ?_;exact⟨Aq3 s hs,Aq4 s hs⟩
include hN
theorem Azz:Rh N s=some (eG s):=by
 have hg:=P6 s hs;have h1:=Aq3 s hs;have h2:=Aq4 s hs;have hC:=Zg N ((s1D s).1,(s2D s).1) hN h1.1 h2.1;have hO:TF N s=some (KG s):=Xx N s (by omega) (by omega);have hSq:(bif (KG s).2 != 0 then(some (([],0),(KG s).2):Option ((List El×Int)×Int))else MH N (KG s).1 48)=some (((JW s).1,0),(JW s).2):=by have hlo:=Qe s;unfold JW KD MH;all_goals grind[KG,QL,Js]
 unfold Rh eG;try simp only[clR]
 rw[hO,Js];cases h:(KG s).2 != 0 with
 | true=>grind[eG]
 | false =>
  rw[h,cond_false]at hSq;rw[cond_false,hSq,Js];dsimp only;cases h3:(JW s).2 != 0 with
  | true=>rfl
  | false =>
   rw[cond_false,cond_false,Pz];have hl:=hg.len;obtain⟨y,hy,ha⟩:=qL N (JW s).1 (JW s).1 ((JW s).1,0) ⟨0,rfl,DF _,rfl⟩ (by omega) 160;obtain⟨z,hz,hb⟩:=qL N (JW s).1 _ y ha (by omega) 161;have hg1:=(Ub hg 160).1;have st1: ∀ J:List El×Int×List Gn->Option ((List Gn×List Gn)×Int),(Jq (Lc N ((JW s).1,0) 160) fun r36=>bif r36.2.1 then Jq (Ug N r36.1) fun r42=>bif (r42.2 != (0:Int))then some (([],[]),r42.2)else J (r36.2.2.1,r36.2.2.2,r42.1)else J (r36.2.2.1,r36.2.2.2,[]))=bif (s1D s).2 != 0 then some (([],[]),(s1D s).2)else J (y.1,y.2,(s1D s).1):=by all_goals grind[Js,s1D,bZ,JU,JW,AqD,RH]
   have st2: ∀ J:List El×Int×List Gn->Option ((List Gn×List Gn)×Int),(Jq (Lc N (y.1,y.2) 161) fun r51=>bif r51.2.1 then Jq (Ug N r51.1) fun r57=>bif (r57.2 != (0:Int))then some (([],[]),r57.2)else J (r51.2.2.1,r51.2.2.2,r57.1)else J (r51.2.2.1,r51.2.2.2,[]))=bif (s2D s).2 != 0 then some (([],[]),(s2D s).2)else J (z.1,z.2,(s2D s).1):=by all_goals grind[Js,s2D,bZ,JU,JW,AqD,RH]
   refine(st1 fun x=>U3 _ (x.1,x.2.1,x.2.2)).trans ?_;rw[<- JD];refine Ku fun _=> ?_;dsimp only[U3];rw[Pz];refine(st2 fun x=>U4 _ (x.1,x.2.1,(s1D s).1,x.2.2)).trans ?_;rw[<- JD];refine Ku fun _=> ?_;dsimp only[U4];have hE:Kz N (z.1,z.2)=some (Ul (Apb s),z):=rend_eq hb;all_goals simp_all[Js,JD,Ku,eG]
theorem sub_eq:Yf N s=some (eG s):=by
 have hg:=P6 s hs;have h1:=Aq3 s hs;have h2:=Aq4 s hs;have hC:=uT N ((s1D s).1,(s2D s).1) hN h1.1 h2.1;have hO:aH N s=some (KG s):=eU N s (by omega) (by omega);have hlo:=Qe s;unfold Yf eG;try simp -zeta only[Ap]
 rw[hO,Js];have hSq:JW s=bif (KG s).2 != 0 then([],(KG s).2)else bif (KG s).1.1 != 48 then([],5)else JG (KG s).1.2.1:=by all_goals grind[JW,KD,KG]
 cases h:(KG s).2 != 0 with
 | true =>rw[h,cond_true]at hSq;rw[hSq];simp only[cond_true,h]
 | false =>
  rw[h,cond_false]at hSq;rw[cond_false];cases h3:(KG s).1.1 != 48 with
  | true=>rw[h3,cond_true]at hSq;rw[hSq];rfl
  | false =>
   rw[h3,cond_false]at hSq;rw[cond_false,NP N _ (by omega) (by omega) (by omega),Js,<- hSq];cases h4:(JW s).2 != 0 with
   | true=>rfl
   | false =>
    rw[cond_false,cond_false];have e1:s1D s=bZ (JW s).1 160:=rfl;have e2:s2D s=bZ (JU (JW s).1 160).2.2 161:=rfl;have e3:Apb s=(JU (JU (JW s).1 160).2.2 161).2.2:=rfl;generalize (JW s).1=l at *
    generalize s1D s=p1 at *
    generalize s2D s=p2 at *
    generalize Apb s=en at *
    have hp: ∀ e∈l,NL N e.2.1=some (zZ e.2.1):=fun e he=>AwZ N _ hN (by have:=(hg.all e he).content;omega);have z1: ∀(x:El) (q:List El),decide ((0:Int)<(((x::q).length:Nat):Int))=true:=fun x q=>Dn (by rw[List.length_cons];omega);have z2: ∀(x:El) (q:List El),decide ((1:Int)<=(((x::q).length:Nat):Int))=true:=fun x q=>Dn (by rw[List.length_cons];omega);have z3: ∀(x:El) (q:List El),decide ((((x::q).length:Nat):Int)>0)=true:=fun x q=>Dn (by rw[List.length_cons];omega);have z4:decide (((([]:List El).length:Nat):Int)>0)=false:=rfl;have dn: ∀(x:El) (q:List El),Ul (x::q)=4:=fun x q=>rfl;have d0:Ul []=0:=rfl;cases l with
    | nil =>have q1:p1=([],0):=e1;have q2:p2=([],0):=e2;have q3:en=[]:=e3;subst q1 q2 q3;simp only[len0,List.isEmpty_nil,z4,d0,hC,Js,J8,cond_true,cond_false,EE,DV,Ec,Ee,FP,DX,JD]
    | cons a r =>
     have hpa:=hp a Dw;by_cases ha:a.1=160
     .have q1:p1=zZ a.2.1:=by rw[e1];unfold bZ;rw[ZP ha];rfl
      rw[ZP ha]at e2 e3;dsimp only at e2 e3;rw[<- q1]at hpa;simp only[len0,List.isEmpty_cons,Eb,AsL,z1,z2,aP ha,hpa,Js,J8,cond_true,cond_false,EE,DV,Ec,Ee,FP,Fh];cases h5:p1.2 != 0 with
      | true=>rfl
      | false =>
       simp only[cond_false];cases r with
       | nil =>have q2:p2=([],0):=e2;have q3:en=[]:=e3;subst q2 q3;simp only[List.isEmpty_nil,z4,d0,hC,Js,J8,cond_true,cond_false,EE,DV,Ec,Ee,FP,DX,JD]
       | cons b q =>
        have hpb:=hp b (Dz _ Dw);by_cases hb:b.1=161
        .have q2:p2=zZ b.2.1:=by rw[e2];unfold bZ;rw[ZP hb];rfl
         rw[ZP hb]at e3;dsimp only at e3;rw[<- q2]at hpb;simp only[List.isEmpty_cons,Eb,AsL,z1,z2,aP hb,hpb,Js,J8,cond_true,cond_false,EE,DV,Ec,Ee,FP,Fh];cases h6:p2.2 != 0 with
         | true=>rfl
         | false =>
          subst e3;cases en with
          | nil=>simp only[z4,d0,hC,Js,cond_false,DX,JD]
          | cons c q=>simp only[z3,dn,cond_true,cond_false];rfl
        .have q2:p2=([],0):=by rw[e2];unfold bZ;rw[ZO hb];rfl
         rw[ZO hb]at e3;dsimp only at e3;subst q2 e3;simp only[List.isEmpty_cons,Eb,z1,z3,dn,aQ hb,J8,cond_true,cond_false,EE,DV,Ec,Ee,FP,Fh];rfl
     .have q1:p1=([],0):=by rw[e1];unfold bZ;rw[ZO ha];rfl
      rw[ZO ha]at e2 e3;dsimp only at e2 e3;subst q1;simp only[len0,List.isEmpty_cons,Eb,AsL,z1,z2,z3,aQ ha,J8,cond_true,cond_false,EE,DV,Ec,Ee,FP,Fh,DX];by_cases hb:a.1=161
      .have q2:p2=zZ a.2.1:=by rw[e2];unfold bZ;rw[ZP hb];rfl
       rw[ZP hb]at e3;dsimp only at e3;rw[<- q2]at hpa;simp only[aP hb,hpa,Js,cond_true,cond_false];cases h6:p2.2 != 0 with
       | true=>rfl
       | false =>
        subst e3;cases en with
        | nil=>simp only[z4,d0,hC,Js,cond_false,DX,JD]
        | cons c q=>simp only[z3,dn,cond_true,cond_false];rfl
      .have q2:p2=([],0):=by rw[e2];unfold bZ;rw[ZO hb];rfl
       rw[ZO hb]at e3;dsimp only at e3;subst q2 e3;simp only[dn,aQ hb,cond_true,cond_false];rfl
end
def AtL (e:El):Lt (mJ e).1:=by
 unfold mJ;cases e.1 != 6 with
 | true=>exact DF _
 | false=>exact AbQ _
def Afh (l:List El):Lt (idD l).1:=by
 unfold idD;cases (Kq l 6).2.1 != 0 with
 | true=>exact DF _
 | false=>exact AbQ _
def Aug (e:El):Lt (N9 e).1:=by unfold N9;refine KH (P:=fun r:Bs×Int=>Lt r.1) (DF _) fun _=>KH (P:=fun r:Bs×Int=>Lt r.1) (DF _) fun _=>Afh _
def Auh (e:El):YK (NY e).1:=by
 unfold NY;have hz:YK ([],[]):=⟨DF _,DF _⟩
 refine KH (P:=fun r:(Bs×Bs)×Int=>YK r.1) hz fun _=>KH (P:=fun r:(Bs×Bs)×Int=>YK r.1) hz fun _=>KH (P:=fun r:(Bs×Bs)×Int=>YK r.1) hz fun _=>⟨Afh _,Afh _⟩
def Afq {A:Type} {l:List El} (f:El->A) {P:A->Prop} (hl:l.length<=1048576) (h: ∀ e,P (f e)):(l.map f).length<=1048576/\ ∀ s∈l.map f,P s:=by refine⟨by rw[D7];exact hl,fun s hs=> ?_⟩;obtain⟨e,_,rfl⟩:=DD.1 hs;exact h e
def Al8 (s:Bs) (hs:s.length<=1048576):(LQ s).1.length<=1048576:=(Vf s hs).len
structure SzP (G H:List Bs) (I:List (Bs×Bs)) (L O Q:List Gn) (T fr:List Pt):Prop where
 hpu:G.length<=1048576/\ ∀ s∈G,Lt s
 hpo:H.length<=1048576/\ ∀ s∈H,Lt s
 hma:I.length<=1048576/\ ∀ s∈I,YK s
 hna:okT (L,0)
 hpe:okT (O,0)
 hex:okT (Q,0)
 hpt:(∀ p∈T,NS p)/\zD (T,0)
 hfr:(∀ p∈fr,NS p)/\zD (fr,0)
def Sz (x:Info):Prop:=SzP x.2.2.2.2.1 x.2.2.2.2.2.1 x.2.2.2.2.2.2.1 x.2.2.2.2.2.2.2.2.2.2.1 x.2.2.2.2.2.2.2.2.2.2.2.2.1 x.2.2.2.2.2.2.2.2.2.2.2.2.2.1 x.2.2.2.2.2.2.2.2.2.2.2.2.2.2.2.2.1 x.2.2.2.2.2.2.2.2.2.2.2.2.2.2.2.2.2.1
def DfP (id:Bs) (D:Int) (G H:List Bs) (I:List (Bs×Bs)) (J im:Int):Prop:=(id=[50,46,53,46,50,57,46,49,57]->D= -1)/\(id=[50,46,53,46,50,57,46,51,55]->G=[])/\(id=[50,46,53,46,50,57,46,51,50]->H=[])/\(id=[50,46,53,46,50,57,46,51,51]->I=[])/\(id=[50,46,53,46,50,57,46,51,54]->J= -1/\im= -1)
def Df (id:Bs) (x:Info):Prop:=DfP id x.2.2.1 x.2.2.2.2.1 x.2.2.2.2.2.1 x.2.2.2.2.2.2.1 x.2.2.2.2.2.2.2.1 x.2.2.2.2.2.2.2.2.1
def Kin (N k:Nat) (id:Bs):Prop:= ∀(s:Bs) (j:Info),s.length<=1048576->Sz j->Df id j-> ∃ e u,Gives e u (Agu N k (s,j))/\(∀ c,Gives e u (Kr N j (id,c,s)))/\Sz u/\(∀ i,i≠id->Df i j->Df i u)/\u.2.2.2.2.2.2.2.2.2.2.2.2.2.2.2.2.2.2=j.2.2.2.2.2.2.2.2.2.2.2.2.2.2.2.2.2.2
def Gives.cg {e:Int} {u:Info} {o o':Option (Int×Info)} (h:o=o') (g:Gives e u o'):Gives e u o:=by rw[h];exact g
section
variable (N:Nat) (s:Bs) (hN:1048578<N) (hs:s.length<=1048576) (B C:Bool) (D F:Int) (G H:List Bs) (I:List (Bs×Bs)) (J im K:Int) (L:List Gn) (M:Bool) (O Q:List Gn) (R S:Bs) (T fr:List Pt) (U:List Ex)
include hN hs
def cS (s:Bs):Bs:=(KD s 48).1.2.1
def AtA (s:Bs):Int:=bif (KD s 48).2 != 0 then(KD s 48).2 else(Ou (cS s)).2
theorem Ax4:Gives (AtA s) (B,C,D,F,G,H,I,J,im,K,(Ou (cS s)).1,M,O,Q,R,S,T,fr,U) (RQ N s (B,C,D,F,G,H,I,J,im,K,L,M,O,Q,R,S,T,fr,U)):=by
 have hl:=Nr s 48;unfold RQ AtA cS;try simp -zeta only[Ap]
 rw[XK N s 48 hN hs,Js];all_goals grind[KD,Gives.err,WB,Js,Gives.ok]
theorem Awg (c:Bool):Gives (AtA s) (B,C,D,F,G,H,I,J,im,K,(Ou (cS s)).1,M,O,Q,R,S,T,fr,U) (Kr N (B,C,D,F,G,H,I,J,im,K,L,M,O,Q,R,S,T,fr,U) ([50,46,53,46,50,57,46,49,55],c,s)):=by
 have hl:=Nr s 48;unfold Kr AtA cS;try simp -zeta only[Ap]
 simp (decide:=true) only[cond_true,cond_false,ZC N s 48 hN hs,Js];all_goals grind[KD,Gives.err,lI,Js,Gives.ok]
theorem AyJ:Gives (eG s).2 (B,C,D,F,G,H,I,J,im,K,L,true,(eG s).1.1,(eG s).1.2,R,S,T,fr,U) (Om N s (B,C,D,F,G,H,I,J,im,K,L,M,O,Q,R,S,T,fr,U)):=by
 unfold Om;try simp -zeta only[Ap]
 rw[sub_eq N s hN hs,Js];exact Gives.ok
theorem AxK (c:Bool):Gives (eG s).2 (B,C,D,F,G,H,I,J,im,K,L,true,(eG s).1.1,(eG s).1.2,R,S,T,fr,U) (Kr N (B,C,D,F,G,H,I,J,im,K,L,M,O,Q,R,S,T,fr,U) ([50,46,53,46,50,57,46,51,48],c,s)):=by
 unfold Kr;try simp -zeta only[Ap]
 simp (decide:=true) only[cond_true,cond_false,Azz N s hN hs,Js];exact Gives.ok
theorem AvX:Gives (Z4 s).2 (B,C,D,F,G,H,I,J,im,K,L,M,O,Q,R,S,(Z4 s).1,fr,U) (QR N s (B,C,D,F,G,H,I,J,im,K,L,M,O,Q,R,S,T,fr,U)):=by
 unfold QR;try simp -zeta only[Ap]
 rw[Yi N s hN hs,Js];exact Gives.ok
theorem Aui (c:Bool):Gives (Z4 s).2 (B,C,D,F,G,H,I,J,im,K,L,M,O,Q,R,S,(Z4 s).1,fr,U) (Kr N (B,C,D,F,G,H,I,J,im,K,L,M,O,Q,R,S,T,fr,U) ([50,46,53,46,50,57,46,51,49],c,s)):=by
 unfold Kr;try simp -zeta only[Ap]
 simp (decide:=true) only[cond_true,cond_false,ZX N s hN hs,Js];exact Gives.ok
theorem Axm:Gives (Z4 s).2 (B,C,D,F,G,H,I,J,im,K,L,M,O,Q,R,S,T,(Z4 s).1,U) (PE N s (B,C,D,F,G,H,I,J,im,K,L,M,O,Q,R,S,T,fr,U)):=by
 unfold PE;try simp -zeta only[Ap]
 rw[Yi N s hN hs,Js];exact Gives.ok
theorem Awf (c:Bool):Gives (Z4 s).2 (B,C,D,F,G,H,I,J,im,K,L,M,O,Q,R,S,T,(Z4 s).1,U) (Kr N (B,C,D,F,G,H,I,J,im,K,L,M,O,Q,R,S,T,fr,U) ([50,46,53,46,50,57,46,52,54],c,s)):=by
 unfold Kr;try simp -zeta only[Ap]
 simp (decide:=true) only[cond_true,cond_false,ZX N s hN hs,Js];exact Gives.ok
end
def okQ (r:List Pt×Int):Prop:= ∀ p∈r.1,NS p
def Akp (s:Bs) (hs:s.length<=1048576):okQ (Z4 s):=by
 have hl:=Nr s 48;have hg:Good 1048576 (JG (KD s 48).1.2.1).1:=(KC _).mono (by omega);have hz: ∀ e:Int,okQ ([],e):=fun e p hp=>by cases hp
 unfold Z4 psD;refine KH (P:=okQ) (hz _) fun _=>KH (P:=okQ) (hz _) fun _=>KH (P:=okQ) (hz _) fun _=>KH (P:=okQ) (hz _) fun _=>KH (P:=okQ) (hz _) fun _=>fun p hp=> ?_;obtain⟨e,he,rfl⟩:=DD.1 hp;have:=(hg.all e he).content;exact AeN (by omega)
section
variable {N:Nat} (hN:1048578<N)
include hN
theorem A1o:Kin N (Nl.getD 0 ([],0,0,0,0)).2.2.2.2 [50,46,53,46,50,57,46,49,57]:=by intro s j hs hz hd;obtain⟨B,C,D,F,G,H,I,J,im,K,L,M,O,Q,R,S,T,fr,U⟩:=j;have hz:SzP G H I L O Q T fr:=hz;have hd:DfP _ D G H I J im:=hd;exact⟨_,_,Gives.cg (by kernel_rfl) (AwE N s hN hs B C D F G H I J im K L M O Q R S T fr U (hd.1 rfl)),fun c=>Awb N s hN hs B C D F G H I J im K L M O Q R S T fr U c,(show SzP G H I L O Q T fr from hz),fun i hi h=>(show DfP i _ G H I J im from(fun h:DfP i D G H I J im=>⟨fun e=>absurd e hi,h.2⟩) h),(rfl:U=U)⟩
theorem A1p:Kin N (Nl.getD 1 ([],0,0,0,0)).2.2.2.2 [50,46,53,46,50,57,46,49,53]:=by intro s j hs hz hd;obtain⟨B,C,D,F,G,H,I,J,im,K,L,M,O,Q,R,S,T,fr,U⟩:=j;have hz:SzP G H I L O Q T fr:=hz;have hd:DfP _ D G H I J im:=hd;exact⟨_,_,Gives.cg (by kernel_rfl) (Ayh N s hN hs B C D F G H I J im K L M O Q R S T fr U),fun c=>Awj N s hN hs B C D F G H I J im K L M O Q R S T fr U c,(show SzP G H I L O Q T fr from hz),fun i hi h=>(show DfP i D G H I J im from(fun h:DfP i D G H I J im=>h) h),(rfl:U=U)⟩
theorem A1q:Kin N (Nl.getD 2 ([],0,0,0,0)).2.2.2.2 [50,46,53,46,50,57,46,51,55]:=by intro s j hs hz hd;obtain⟨B,C,D,F,G,H,I,J,im,K,L,M,O,Q,R,S,T,fr,U⟩:=j;have hz:SzP G H I L O Q T fr:=hz;have hd:DfP _ D G H I J im:=hd;exact⟨_,_,Gives.cg (by kernel_rfl) (Arv N s hN hs B C D F G H I J im K L M O Q R S T fr U (hd.2.1 rfl)),fun c=>Aq0 N s hN hs B C D F G H I J im K L M O Q R S T fr U c,(show SzP _ H I L O Q T fr from {hz with hpu:=Afq _ (Al8 s hs) AtL}),fun i hi h=>(show DfP i D _ H I J im from(fun h:DfP i D G H I J im=>⟨h.1,fun e=>absurd e hi,h.2.2⟩) h),(rfl:U=U)⟩
theorem A1r:Kin N (Nl.getD 3 ([],0,0,0,0)).2.2.2.2 [50,46,53,46,50,57,46,51,50]:=by intro s j hs hz hd;obtain⟨B,C,D,F,G,H,I,J,im,K,L,M,O,Q,R,S,T,fr,U⟩:=j;have hz:SzP G H I L O Q T fr:=hz;have hd:DfP _ D G H I J im:=hd;exact⟨_,_,Gives.cg (by kernel_rfl) (Aru N s hN hs B C D F G H I J im K L M O Q R S T fr U (hd.2.2.1 rfl)),fun c=>Aqz N s hN hs B C D F G H I J im K L M O Q R S T fr U (hd.2.2.1 rfl) c,(show SzP G _ I L O Q T fr from {hz with hpo:=Afq _ (Al8 s hs) Aug}),fun i hi h=>(show DfP i D G _ I J im from(fun h:DfP i D G H I J im=>⟨h.1,h.2.1,fun e=>absurd e hi,h.2.2.2⟩) h),(rfl:U=U)⟩
theorem A1s:Kin N (Nl.getD 4 ([],0,0,0,0)).2.2.2.2 [50,46,53,46,50,57,46,51,51]:=by intro s j hs hz hd;obtain⟨B,C,D,F,G,H,I,J,im,K,L,M,O,Q,R,S,T,fr,U⟩:=j;have hz:SzP G H I L O Q T fr:=hz;have hd:DfP _ D G H I J im:=hd;exact⟨_,_,Gives.cg (by kernel_rfl) (Arn N s hN hs B C D F G H I J im K L M O Q R S T fr U (hd.2.2.2.1 rfl)),fun c=>Aqw N s hN hs B C D F G H I J im K L M O Q R S T fr U (hd.2.2.2.1 rfl) c,(show SzP G H _ L O Q T fr from {hz with hma:=Afq _ (Al8 s hs) Auh}),fun i hi h=>(show DfP i D G H _ J im from(fun h:DfP i D G H I J im=>⟨h.1,h.2.1,h.2.2.1,fun e=>absurd e hi,h.2.2.2.2⟩) h),(rfl:U=U)⟩
theorem A1t:Kin N (Nl.getD 5 ([],0,0,0,0)).2.2.2.2 [50,46,53,46,50,57,46,51,54]:=by intro s j hs hz hd;obtain⟨B,C,D,F,G,H,I,J,im,K,L,M,O,Q,R,S,T,fr,U⟩:=j;have hz:SzP G H I L O Q T fr:=hz;have hd:DfP _ D G H I J im:=hd;exact⟨_,_,Gives.cg (by kernel_rfl) (AvE N s hN hs B C D F G H I J im K L M O Q R S T fr U (hd.2.2.2.2 rfl).1 (hd.2.2.2.2 rfl).2),fun c=>Auf N s hN hs B C D F G H I J im K L M O Q R S T fr U c,(show SzP G H I L O Q T fr from hz),fun i hi h=>(show DfP i D G H I _ _ from(fun h:DfP i D G H I J im=>⟨h.1,h.2.1,h.2.2.1,h.2.2.2.1,fun e=>absurd e hi⟩) h),(rfl:U=U)⟩
theorem A1u:Kin N (Nl.getD 6 ([],0,0,0,0)).2.2.2.2 [50,46,53,46,50,57,46,53,52]:=by intro s j hs hz hd;obtain⟨B,C,D,F,G,H,I,J,im,K,L,M,O,Q,R,S,T,fr,U⟩:=j;have hz:SzP G H I L O Q T fr:=hz;have hd:DfP _ D G H I J im:=hd;exact⟨_,_,Gives.cg (by kernel_rfl) (Atq N s hN hs B C D F G H I J im K L M O Q R S T fr U),fun c=>Ar1 N s hN hs B C D F G H I J im K L M O Q R S T fr U c,(show SzP G H I L O Q T fr from hz),fun i hi h=>(show DfP i D G H I J im from(fun h:DfP i D G H I J im=>h) h),(rfl:U=U)⟩
theorem A1v:Kin N (Nl.getD 7 ([],0,0,0,0)).2.2.2.2 [50,46,53,46,50,57,46,49,55]:=by
 intro s j hs hz hd;obtain⟨B,C,D,F,G,H,I,J,im,K,L,M,O,Q,R,S,T,fr,U⟩:=j;have hz:SzP G H I L O Q T fr:=hz;have hd:DfP _ D G H I J im:=hd;have hcs:(cS s).length<=1048576:=by have:=Nr s 48;unfold cS;omega
 exact⟨_,_,Gives.cg (by kernel_rfl) (Ax4 N s hN hs B C D F G H I J im K L M O Q R S T fr U),fun c=>Awg N s hN hs B C D F G H I J im K L M O Q R S T fr U c,(show SzP G H I _ O Q T fr from {hz with hna:=⟨(Ace _ hcs).1,Acd _ hcs⟩}),fun i hi h=>(show DfP i D G H I J im from(fun h:DfP i D G H I J im=>h) h),(rfl:U=U)⟩
theorem A1w:Kin N (Nl.getD 8 ([],0,0,0,0)).2.2.2.2 [50,46,53,46,50,57,46,51,48]:=by intro s j hs hz hd;obtain⟨B,C,D,F,G,H,I,J,im,K,L,M,O,Q,R,S,T,fr,U⟩:=j;have hz:SzP G H I L O Q T fr:=hz;have hd:DfP _ D G H I J im:=hd;exact⟨_,_,Gives.cg (by kernel_rfl) (AyJ N s hN hs B C D F G H I J im K L M O Q R S T fr U),fun c=>AxK N s hN hs B C D F G H I J im K L M O Q R S T fr U c,(show SzP G H I L _ _ T fr from {hz with hpe:=(Aso s hs).1,hex:=(Aso s hs).2}),fun i hi h=>(show DfP i D G H I J im from(fun h:DfP i D G H I J im=>h) h),(rfl:U=U)⟩
theorem A1x:Kin N (Nl.getD 9 ([],0,0,0,0)).2.2.2.2 [50,46,53,46,50,57,46,49,52]:=by intro s j hs hz hd;obtain⟨B,C,D,F,G,H,I,J,im,K,L,M,O,Q,R,S,T,fr,U⟩:=j;have hz:SzP G H I L O Q T fr:=hz;have hd:DfP _ D G H I J im:=hd;exact⟨_,_,Gives.cg (by kernel_rfl) (Auv N s hN hs B C D F G H I J im K L M O Q R S T fr U),fun c=>Ar2 N s hN hs B C D F G H I J im K L M O Q R S T fr U c,(show SzP G H I L O Q T fr from hz),fun i hi h=>(show DfP i D G H I J im from(fun h:DfP i D G H I J im=>h) h),(rfl:U=U)⟩
theorem A0U:Kin N (Nl.getD 10 ([],0,0,0,0)).2.2.2.2 [50,46,53,46,50,57,46,51,53]:=by intro s j hs hz hd;obtain⟨B,C,D,F,G,H,I,J,im,K,L,M,O,Q,R,S,T,fr,U⟩:=j;have hz:SzP G H I L O Q T fr:=hz;have hd:DfP _ D G H I J im:=hd;exact⟨_,_,Gives.cg (by kernel_rfl) (AoF N s hN hs B C D F G H I J im K L M O Q R S T fr U),fun c=>An3 N s hN hs B C D F G H I J im K L M O Q R S T fr U c,(show SzP G H I L O Q T fr from hz),fun i hi h=>(show DfP i D G H I J im from(fun h:DfP i D G H I J im=>h) h),(rfl:U=U)⟩
theorem A0V:Kin N (Nl.getD 11 ([],0,0,0,0)).2.2.2.2 [50,46,53,46,50,57,46,51,49]:=by intro s j hs hz hd;obtain⟨B,C,D,F,G,H,I,J,im,K,L,M,O,Q,R,S,T,fr,U⟩:=j;have hz:SzP G H I L O Q T fr:=hz;have hd:DfP _ D G H I J im:=hd;exact⟨_,_,Gives.cg (by kernel_rfl) (AvX N s hN hs B C D F G H I J im K L M O Q R S T fr U),fun c=>Aui N s hN hs B C D F G H I J im K L M O Q R S T fr U c,(show SzP G H I L O Q _ fr from {hz with hpt:=⟨Akp s hs,AmE s hs⟩}),fun i hi h=>(show DfP i D G H I J im from(fun h:DfP i D G H I J im=>h) h),(rfl:U=U)⟩
theorem A0W:Kin N (Nl.getD 12 ([],0,0,0,0)).2.2.2.2 [50,46,53,46,50,57,46,52,54]:=by intro s j hs hz hd;obtain⟨B,C,D,F,G,H,I,J,im,K,L,M,O,Q,R,S,T,fr,U⟩:=j;have hz:SzP G H I L O Q T fr:=hz;have hd:DfP _ D G H I J im:=hd;exact⟨_,_,Gives.cg (by kernel_rfl) (Axm N s hN hs B C D F G H I J im K L M O Q R S T fr U),fun c=>Awf N s hN hs B C D F G H I J im K L M O Q R S T fr U c,(show SzP G H I L O Q T _ from {hz with hfr:=⟨Akp s hs,AmE s hs⟩}),fun i hi h=>(show DfP i D G H I J im from(fun h:DfP i D G H I J im=>h) h),(rfl:U=U)⟩
end
section
variable (N:Nat) (hN:1048578<N) {L:List Int} (hL:L.length<=9223372036854775807)
def nmC (n:List (List Att)):Bool:=decide (n.length<=3)&&n.all fun r=>r.all fun e=>decide (e.1.length<=40)&&decide (e.2.2.length<=40)
def nmO (o:Option (List (List Att))):Bool:=match o with
 | some n=>nmC n
 | none=>false
theorem A0m {n:List (List Att)} (h:nmC n=true):nmS n:=by unfold nmC at h;rw[Dv,D6]at h;refine⟨h.1,fun r hr e he=> ?_⟩;have:=DJ.1 (DJ.1 h.2 r hr) e he;rw[Dv,D6,D6]at this;exact⟨by omega,by omega⟩
theorem AmY (M:Nat): ∀ k:Fin 16,nmO (UG (M+70) (k.val:Int))=true:=DN (by kernel_rfl)
include hN in
theorem AkL {k:Int} (h0:0<=k) (h1:k<16):Ends nmS (UG N k):=by
 obtain⟨M,rfl⟩: ∃ M,N=M+70:=⟨N - 70,by omega⟩
 have h:=AmY M ⟨k.toNat,by omega⟩;rw[show(((⟨k.toNat,by omega⟩:Fin 16).val:Nat):Int)=k from Hl h0]at h;cases ho:UG (M+70) k with
 | none=>rw[ho]at h;cases h
 | some n=>rw[ho]at h;exact⟨n,rfl,A0m h⟩
def shortS (s:Bs):Prop:=s.length<=40
instance (s:Bs):Decidable (shortS s):=by unfold shortS;infer_instance
def gnS (g:Gn):Prop:=g.2.1.length<=40/\OC g.2.2/\g.2.2.length<=3
theorem Ayx {g:Gn} (h:gnS g):We g:=⟨by have:=h.1;omega,h.2.1⟩
theorem iD {k:Int} {s:Bs} (h:shortS s):gnS (k,s,[]):=⟨h,(fun r hr=>by cases hr),by simp⟩
include hN hL in
theorem rX {d:List Int×Int} (hd:KP L d):Ends (fun r=>gnS r.1/\KP L r.2) (UH N d):=by
 unfold UH;try simp only[clR]
 refine JO (nx N hL hd 4 (by omega) (by omega)) ?_;rintro ⟨r,d'⟩ ⟨h0,h1,h2⟩;dsimp only at h0 h1 h2 ⊢;refine Kv (fun _=> ?_) (fun _=>Kv (fun _=> ?_) (fun _=>Kv (fun _=> ?_) (fun _=> ?_)))
 .refine JO (nx N hL h2 6 (by omega) (by omega)) ?_;rintro ⟨r,d'⟩ ⟨h0,h1,h2⟩;dsimp only at h0 h1 h2 ⊢;refine JF (Dn (by omega)) (JF (Dn (by omega)) (JF (Dn (by omega)) (Lr ⟨iD (QK (P:=shortS) (by decide) h0 h1),h2⟩)))
 .refine JO (nx N hL h2 7 (by omega) (by omega)) ?_;rintro ⟨r,d'⟩ ⟨h0,h1,h2⟩;dsimp only at h0 h1 h2 ⊢;refine JF (Dn (by omega)) (JF (Dn (by omega)) (JF (Dn (by omega)) (Lr ⟨iD (QK (P:=shortS) (by decide) h0 h1),h2⟩)))
 .refine JO (nx N hL h2 4 (by omega) (by omega)) ?_;rintro ⟨r,d'⟩ ⟨h0,h1,h2⟩;dsimp only at h0 h1 h2 ⊢;refine JF (Dn (by omega)) (JF (Dn (by omega)) (JF (Dn (by omega)) (Lr ⟨iD (QK (P:=shortS) (by decide) h0 h1),h2⟩)))
 .refine JO (Am2 N hN hL h2) ?_;rintro ⟨n,d'⟩ ⟨g0,g1⟩;exact Lr ⟨⟨by simp,g0.2,g0.1⟩,g1⟩
include hN hL in
theorem Aet {d:List Int×Int} (hd:KP L d):Ends (fun r=>gnS r.1/\KP L r.2) (ZQ N d):=by
 unfold ZQ;try simp only[clR]
 refine JO (nx N hL hd 4 (by omega) (by omega)) ?_;rintro ⟨r,d'⟩ ⟨h0,h1,h2⟩;dsimp only at h0 h1 h2 ⊢;refine Kv (fun _=> ?_) (fun _=>Kv (fun _=> ?_) (fun _=>Kv (fun _=> ?_) (fun _=> ?_)))
 .refine JO (nx N hL h2 7 (by omega) (by omega)) ?_;rintro ⟨r,d'⟩ ⟨h0,h1,h2⟩;dsimp only at h0 h1 h2 ⊢;refine JF (Dn (by omega)) (JF (Dn (by omega)) (JF (Dn (by omega)) (Lr ⟨iD (QK (P:=shortS) (by decide) h0 h1),h2⟩)))
 .refine JO (nx N hL h2 7 (by omega) (by omega)) ?_;rintro ⟨r,d'⟩ ⟨h0,h1,h2⟩;dsimp only at h0 h1 h2 ⊢;refine JF (Dn (by omega)) (JF (Dn (by omega)) (JF (Dn (by omega)) (Lr ⟨iD (QK (P:=shortS) (by decide) h0 h1),h2⟩)))
 .refine JO (nx N hL h2 5 (by omega) (by omega)) ?_;rintro ⟨r,d'⟩ ⟨h0,h1,h2⟩;dsimp only at h0 h1 h2 ⊢;refine JF (Dn (by omega)) (JF (Dn (by omega)) (JF (Dn (by omega)) (Lr ⟨iD (QK (P:=shortS) (by decide) h0 h1),h2⟩)))
 .refine JO (Am2 N hN hL h2) ?_;rintro ⟨n,d'⟩ ⟨g0,g1⟩;exact Lr ⟨⟨by simp,g0.2,g0.1⟩,g1⟩
def Aln (m:Nat) (l:List Gn):Prop:=l.length<=m/\ ∀ g∈l,gnS g
theorem Apw {m:Nat} {l:List Gn} (h:Aln m l):Me l:=fun g hg=>Ayx (h.2 g hg)
theorem Xq {α :Type} {P: α ->Prop} {l:List α} {x: α} (h: ∀ y∈l,P y) (hx:P x): ∀ y∈l++[x],P y:=by
 intro y hy;rcases DR.1 hy with hy | hy
 .exact h y hy
 .rw[DY.1 hy];exact hx
include hN hL in
theorem AnU {d:List Int×Int} (hd:KP L d):Ends (fun r=>(Aln 3 r.1.1/\Aln 3 r.1.2)/\KP L r.2) (YW N d):=by
 unfold YW;try simp only[clR]
 refine JO (nx N hL hd 4 (by omega) (by omega)) ?_;rintro ⟨r,d1,d2⟩ ⟨h0,h1,h2⟩;dsimp only at h0 h1 h2 ⊢;refine O9 (fun x=>0<=x.1/\x.1<4/\KP L (x.2.1,x.2.2.1)/\((x.2.2.2.length:Int)+x.1<=3)/\ ∀ g∈x.2.2.2,gnS g) (fun x=>x.1.toNat) ?_ N _ ⟨h0,h1,h2,by simp;omega,(fun r hr=>by cases hr)⟩ (by dsimp only;omega);rintro ⟨t,a,b,acc⟩ ⟨g0,g1,g2,g3,g4⟩ k hk;dsimp only[U4]at g0 g1 g2 g3 g4 ⊢;refine Kv (fun ht=> ?_) (fun _=> ?_)
 .have ht:=DN ht;refine JO (Aet N hN hL g2) ?_;rintro ⟨g,e1,e2⟩ ⟨f0,f1⟩;dsimp only at f0 f1 ⊢;refine JF (Dn (by omega)) (hk _ ⟨?_,?_,f1,?_,Xq g4 f0⟩ ?_)
  .dsimp only;rw[w64 (by omega) (by omega)];omega
  .dsimp only;rw[w64 (by omega) (by omega)];omega
  .dsimp only;rw[w64 (by omega) (by omega),Dx];simp;omega
  .dsimp only;rw[w64 (by omega) (by omega)];omega
 .dsimp only[U3];refine JO (nx N hL g2 3 (by omega) (by omega)) ?_;rintro ⟨r,e1,e2⟩ ⟨f0,f1,f2⟩;dsimp only at f0 f1 f2 ⊢;refine O9 (fun x=>0<=x.1/\x.1<3/\KP L (x.2.1,x.2.2.1)/\x.2.2.2.1=acc/\((x.2.2.2.2.length:Int)+x.1<=2)/\ ∀ g∈x.2.2.2.2,gnS g) (fun x=>x.1.toNat) ?_ N _ ⟨f0,f1,f2,rfl,by simp;omega,(fun r hr=>by cases hr)⟩ (by dsimp only;omega);rintro ⟨t',a',b',acc',out⟩ ⟨p0,p1,p2,p3,p4,p5⟩ k' hk';dsimp only[U5]at p0 p1 p2 p3 p4 p5 ⊢;subst p3;refine Kv (fun ht'=> ?_) (fun _=> ?_)
  .have ht':=DN ht';refine JO (Aet N hN hL p2) ?_;rintro ⟨g,q1,q2⟩ ⟨z0,z1⟩;dsimp only at z0 z1 ⊢;refine JF (Dn (by omega)) (hk' _ ⟨?_,?_,z1,rfl,?_,Xq p5 z0⟩ ?_)
   .dsimp only;rw[w64 (by omega) (by omega)];omega
   .dsimp only;rw[w64 (by omega) (by omega)];omega
   .dsimp only;rw[w64 (by omega) (by omega),Dx];simp;omega
   .dsimp only;rw[w64 (by omega) (by omega)];omega
  .dsimp only[U4];refine Kv (fun _=> ?_) (fun _=>Lr ⟨⟨⟨by dsimp only;omega,g4⟩,by dsimp only;omega,p5⟩,p2⟩);refine JO (Aet N hN hL p2) ?_;rintro ⟨g,q1,q2⟩ ⟨z0,z1⟩;dsimp only at z0 z1 ⊢;refine JF (Dn (by omega)) (Lr ⟨⟨⟨by dsimp only;omega,g4⟩,?_,Xq p5 z0⟩,z1⟩);dsimp only;rw[Dx];simp;omega
def AxG (l:List Pt):Prop:=l.length<=3/\ ∀ p∈l,NS p
include hN hL in
theorem Ah7 {d:List Int×Int} (hd:KP L d):Ends (fun r=>AxG r.1/\KP L r.2) (Y9 N d):=by
 unfold Y9;try simp only[clR]
 refine JO (nx N hL hd 3 (by omega) (by omega)) ?_;rintro ⟨r,d1,d2⟩ ⟨h0,h1,h2⟩;dsimp only at h0 h1 h2 ⊢;rw[w64 (by omega) (by omega)];refine O9 (fun x=>0<=x.1/\x.1<4/\KP L (x.2.1,x.2.2.1)/\((x.2.2.2.length:Int)+x.1<=3)/\ ∀ p∈x.2.2.2,NS p) (fun x=>x.1.toNat) ?_ N _ ⟨by dsimp only;omega,by dsimp only;omega,h2,by simp;omega,(fun r hr=>by cases hr)⟩ (by dsimp only;omega);rintro ⟨t,a,b,acc⟩ ⟨g0,g1,g2,g3,g4⟩ k hk;dsimp only[U4]at g0 g1 g2 g3 g4 ⊢;refine Kv (fun ht=> ?_) (fun _=>by dsimp only[U3];exact Lr ⟨⟨by dsimp only;omega,g4⟩,g2⟩);have ht:=DN ht;refine JO (rX N hN hL g2) ?_;rintro ⟨g,e⟩ ⟨f0,f1⟩;refine JO (nx N hL f1 6 (by omega) (by omega)) ?_;rintro ⟨r6,e1,e2⟩ ⟨c0,c1,c2⟩;dsimp only at c0 c1 c2 f0 ⊢;refine JF (Dn (by omega)) (JF (Dn (by omega)) (JF (Dn (by omega)) ?_));have hr:0<= [(0:Int),0,510,2,64,384].getD r6.toNat 0/\ [(0:Int),0,510,2,64,384].getD r6.toNat 0<=510:=QK (P:=fun x:Int=>0<=x/\x<=510) (by decide) c0 c1;have hg:Me [g]:=fun x hx=>by rw[DY.1 hx];exact Ayx f0
 refine wR (P:=fun x=>KP L (x.1,x.2.1)/\x.2.2.1=[(0:Int),0,510,2,64,384].getD r6.toNat 0/\OC x.2.2.2.2.1/\x.2.2.2.2.2.1=[g]/\x.2.2.2.2.2.2=acc) (fun j hj=> ?_) ?_
 .refine JO (nx N hL c2 3 (by omega) (by omega)) ?_;rintro ⟨r3,q1,q2⟩ ⟨z0,z1,z2⟩;dsimp only at z0 z1 z2 ⊢;refine Kv (fun _=> ?_) (fun _=>hj _ ⟨z2,rfl,(fun r hr=>by cases hr),rfl,rfl⟩);refine JO (nx N hL z2 16 (by omega) (by omega)) ?_;rintro ⟨r3,q1,q2⟩ ⟨z0,z1,z2⟩;dsimp only at z0 z1 z2 ⊢;refine JO (AkL N hN z0 z1) ?_;intro n hn;exact hj _ ⟨z2,rfl,hn.2,rfl,rfl⟩
 .rintro ⟨q1,q2,x1,x2,x3,x4,x5⟩ ⟨y1,y2,y3,y4,y5⟩;dsimp only[U7]at y1 y2 y3 y4 y5 ⊢;subst y2 y4 y5;refine JF (Dn (by omega)) (hk _ ⟨?_,?_,y1,?_,Xq g4 ⟨hg,y3,by dsimp only;omega,by dsimp only;omega⟩⟩ ?_)
  .dsimp only;rw[w64 (by omega) (by omega)];omega
  .dsimp only;rw[w64 (by omega) (by omega)];omega
  .dsimp only;rw[w64 (by omega) (by omega),Dx];simp;omega
  .dsimp only;rw[w64 (by omega) (by omega)];omega
end
section
variable (N:Nat) (hN:1048578<N) {L:List Int} (hL:L.length<=9223372036854775807)
theorem zF {k:Int} (h0:0<=k) (h1:k<9):Ends shortS (Wl N k):=by
 unfold Wl;try simp -zeta only[Ap]
 have h:k.tmod 9=k:=by
  have:k=0\/k=1\/k=2\/k=3\/k=4\/k=5\/k=6\/k=7\/k=8:=by omega
  rcases this with rfl | rfl | rfl | rfl | rfl | rfl | rfl | rfl | rfl<;>rfl
 rw[h];exact JF (Dn (by omega)) (JF (Dn (by omega)) (JF (Dn (by omega)) (Lr (QK (P:=shortS) (by decide) h0 h1))))
def Atn (m:Nat) (l:List Bs):Prop:=l.length<=m/\ ∀ s∈l,shortS s
include hN hL in
theorem Am8 {d:List Int×Int} (p:Bool) (hd:KP L d):Ends (fun r=>Atn 3 r.1/\KP L r.2) (kP N d p):=by
 unfold kP;try simp only[clR]
 refine JO (nx N hL hd 3 (by omega) (by omega)) ?_;rintro ⟨r,d1,d2⟩ ⟨h0,h1,h2⟩;dsimp only at h0 h1 h2 ⊢;rw[w64 (by omega) (by omega)];refine O9 (fun x=>0<=x.1/\x.1<4/\KP L (x.2.1,x.2.2.1)/\((x.2.2.2.length:Int)+x.1<=3)/\ ∀ s∈x.2.2.2,shortS s) (fun x=>x.1.toNat) ?_ N _ ⟨by dsimp only;omega,by dsimp only;omega,h2,by simp;omega,(fun r hr=>by cases hr)⟩ (by dsimp only;omega);rintro ⟨t,a,b,acc⟩ ⟨g0,g1,g2,g3,g4⟩ k hk;dsimp only[U4]at g0 g1 g2 g3 g4 ⊢;refine Kv (fun ht=> ?_) (fun _=>by dsimp only[U3];exact Lr ⟨⟨by dsimp only;omega,g4⟩,g2⟩);have ht:=DN ht;refine JO (nx N hL g2 9 (by omega) (by omega)) ?_;rintro ⟨r9,e1,e2⟩ ⟨c0,c1,c2⟩;dsimp only at c0 c1 c2 ⊢;refine JO (zF N c0 c1) ?_;intro s hs;refine wR (P:=fun x=>shortS x.1/\KP L (x.2.1,x.2.2.1)/\x.2.2.2=acc) (fun j hj=> ?_) ?_
 .refine Kv (fun _=> ?_) (fun _=>hj _ ⟨hs,c2,rfl⟩);refine JO (nx N hL c2 5 (by omega) (by omega)) ?_;rintro ⟨r3,q1,q2⟩ ⟨z0,z1,z2⟩;dsimp only at z0 z1 z2 ⊢;exact JF (Dn (by omega)) (JF (Dn (by omega)) (JF (Dn (by omega)) (hj _ ⟨QK (P:=shortS) (by decide) z0 z1,z2,rfl⟩)))
 .rintro ⟨s,q1,q2,x⟩ ⟨y1,y2,y3⟩;dsimp only at y1 y2 y3;subst y3;dsimp only[U4];refine O9 (fun z=>0<=z.2.1/\z.2.1<=(x.length:Int)/\KP L (z.2.2.1,z.2.2.2.1)/\z.2.2.2.2=x) (fun z=>x.length - z.2.1.toNat) ?_ N _ ⟨Ip _,by dsimp only;omega,y2,rfl⟩ (by dsimp only;omega);rintro ⟨w1,i,a',b',x'⟩ ⟨p0,p1,p2,p3⟩ k' hk';dsimp only[U5]at p0 p1 p2 p3 ⊢;subst p3;refine Kv (fun hi=> ?_) (fun _=> ?_)
  .have hi:=DN hi;refine JF (Dn (by omega)) (JF (Dn (by omega)) (JF (Dn (by omega)) (hk' _ ⟨?_,?_,p2,rfl⟩ ?_)))
   .dsimp only;rw[w64 (by omega) (by omega)];omega
   .dsimp only;rw[w64 (by omega) (by omega)];omega
   .dsimp only;rw[w64 (by omega) (by omega)];omega
  .dsimp only[U4];refine Kv (fun _=> ?_) (fun _=> ?_)
   .refine JF (Dn (by omega)) (hk _ ⟨?_,?_,p2,?_,Xq g4 y1⟩ ?_)
    .dsimp only;rw[w64 (by omega) (by omega)];omega
    .dsimp only;rw[w64 (by omega) (by omega)];omega
    .dsimp only;rw[w64 (by omega) (by omega),Dx];simp;omega
    .dsimp only;rw[w64 (by omega) (by omega)];omega
   .refine hk _ ⟨?_,?_,p2,?_,g4⟩ ?_
    .dsimp only;rw[w64 (by omega) (by omega)];omega
    .dsimp only;rw[w64 (by omega) (by omega)];omega
    .dsimp only;rw[w64 (by omega) (by omega)];omega
    .dsimp only;rw[w64 (by omega) (by omega)];omega
def A0k (m:Bs×Bs):Prop:=shortS m.1/\shortS m.2
def Ay1 (m:Nat) (l:List (Bs×Bs)):Prop:=l.length<=m/\ ∀ s∈l,A0k s
include hN hL in
theorem Ant {d:List Int×Int} (hd:KP L d):Ends (fun r=>Ay1 3 r.1/\KP L r.2) (YX N d):=by
 unfold YX;try simp only[clR]
 refine JO (nx N hL hd 3 (by omega) (by omega)) ?_;rintro ⟨r,d1,d2⟩ ⟨h0,h1,h2⟩;dsimp only at h0 h1 h2 ⊢;rw[w64 (by omega) (by omega)];refine O9 (fun x=>0<=x.1/\x.1<4/\KP L (x.2.1,x.2.2.1)/\((x.2.2.2.length:Int)+x.1<=3)/\ ∀ s∈x.2.2.2,A0k s) (fun x=>x.1.toNat) ?_ N _ ⟨by dsimp only;omega,by dsimp only;omega,h2,by simp;omega,(fun r hr=>by cases hr)⟩ (by dsimp only;omega);rintro ⟨t,a,b,acc⟩ ⟨g0,g1,g2,g3,g4⟩ k hk;dsimp only[U4]at g0 g1 g2 g3 g4 ⊢;refine Kv (fun ht=> ?_) (fun _=>by dsimp only[U3];exact Lr ⟨⟨by dsimp only;omega,g4⟩,g2⟩);have ht:=DN ht;refine JO (nx N hL g2 9 (by omega) (by omega)) ?_;rintro ⟨r9,e1,e2⟩ ⟨c0,c1,c2⟩;dsimp only at c0 c1 c2 ⊢;refine JO (zF N c0 c1) ?_;intro s hs;refine JO (nx N hL c2 9 (by omega) (by omega)) ?_;rintro ⟨r9,e1,e2⟩ ⟨c0,c1,c2⟩;dsimp only at c0 c1 c2 ⊢;refine JO (zF N c0 c1) ?_;intro s2 hs2;refine O9 (fun z=>0<=z.2.1/\z.2.1<=(acc.length:Int)/\KP L (z.2.2.1,z.2.2.2.1)/\z.2.2.2.2.1=s/\z.2.2.2.2.2.1=s2/\z.2.2.2.2.2.2=acc) (fun z=>acc.length - z.2.1.toNat) ?_ N _ ⟨Ip _,by dsimp only;omega,c2,rfl,rfl,rfl⟩ (by dsimp only;omega);rintro ⟨w1,i,a',b',s',s2',x'⟩ ⟨p0,p1,p2,p3,p4,p5⟩ k' hk';dsimp only[U7]at p0 p1 p2 p3 p4 p5 ⊢;subst p3 p4 p5;refine Kv (fun hi=> ?_) (fun _=> ?_)
 .have hi:=DN hi;refine JF (Dn (by omega)) (JF (Dn (by omega)) (JF (Dn (by omega)) (hk' _ ⟨?_,?_,p2,rfl,rfl,rfl⟩ ?_)))
  .dsimp only;rw[w64 (by omega) (by omega)];omega
  .dsimp only;rw[w64 (by omega) (by omega)];omega
  .dsimp only;rw[w64 (by omega) (by omega)];omega
 .dsimp only[U6];refine Kv (fun _=> ?_) (fun _=> ?_)
  .refine JF (Dn (by omega)) (hk _ ⟨?_,?_,p2,?_,Xq g4 ⟨hs,hs2⟩⟩ ?_)
   .dsimp only;rw[w64 (by omega) (by omega)];omega
   .dsimp only;rw[w64 (by omega) (by omega)];omega
   .dsimp only;rw[w64 (by omega) (by omega),Dx];simp;omega
   .dsimp only;rw[w64 (by omega) (by omega)];omega
  .refine hk _ ⟨?_,?_,p2,?_,g4⟩ ?_
   .dsimp only;rw[w64 (by omega) (by omega)];omega
   .dsimp only;rw[w64 (by omega) (by omega)];omega
   .dsimp only;rw[w64 (by omega) (by omega)];omega
   .dsimp only;rw[w64 (by omega) (by omega)];omega
def A1n (m:Nat) (l:List Ex):Prop:=l.length<=m/\ ∀ x∈l,shortS x.1/\shortS x.2.2
structure Ao0 (pl us re im ia:Int) (pe ex:List Gn) (sk ak:Bs) (fr:List Pt) (pu po:List Bs) (ma:List (Bs×Bs)) (na:List Gn) (pt:List Pt) (un:List Ex):Prop where
 pl: -1<=pl/\pl<=70
 us:0<=us/\us<=511
 re: -1<=re/\re<=70
 im: -1<=im/\im<=70
 ia: -1<=ia/\ia<=70
 pe:Aln 3 pe
 ex:Aln 3 ex
 sk:shortS sk
 ak:shortS ak
 fr:AxG fr
 pu:Atn 3 pu
 po:Atn 3 po
 ma:Ay1 3 ma
 na:Aln 2 na
 pt:AxG pt
 un:A1n 2 un
theorem ArP {α :Type} {l:List α} {a b:Nat} {x: α} (h:x∈J9 l a b):x∈l:=G7 (Gj h)
def Ao1:Info->Prop
 | (_,_,pl,us,pu,po,ma,re,im,ia,na,_,pe,ex,sk,ak,pt,fr,un)=>Ao0 pl us re im ia pe ex sk ak fr pu po ma na pt un
include hN hL in
theorem Av5 {d:List Int×Int} (hd:KP L d):Ends (fun r=>Ao1 r.1/\KP L r.2) (wZ N d):=by
 unfold wZ;try simp only[clR]
 rw[show dN N=some (false,false,-1,0,[],[],[],-1,-1,-1,[],false,[],[],[],[],[],[],[])from rfl,Js];refine JO (nx N hL hd 6 (by omega) (by omega)) ?_;rintro ⟨r,d1,d2⟩ ⟨h0,h1,h2⟩;dsimp only at h0 h1 h2 ⊢;refine O9 (fun x=> ∃ t a b hb ca pl us re im ia hc pe ex sk ak fr pu po ma na pt un,x=(t,a,b,hb,ca,pl,us,pu,po,ma,re,im,ia,na,hc,pe,ex,sk,ak,pt,fr,un)/\0<=t/\t<6/\KP L (a,b)/\Ao0 pl us re im ia pe ex sk ak fr pu po ma na pt un) (fun x=>x.1.toNat) ?_ N _ ⟨r,d1,d2,false,false,-1,0,-1,-1,-1,false,[],[],[],[],[],[],[],[],[],[],[],rfl,h0,h1,h2,⟨by omega,by omega,by omega,by omega,by omega,⟨by simp,by simp⟩,⟨by simp,by simp⟩,by decide,by decide,⟨by simp,by simp⟩,⟨by simp,by simp⟩,⟨by simp,by simp⟩,⟨by simp,by simp⟩,⟨by simp,by simp⟩,⟨by simp,by simp⟩,⟨by simp,by simp⟩⟩⟩ (by dsimp only;omega);rintro _ ⟨t,a,b,hb,ca,pl,us,re,im,ia,hc,pe,ex,sk,ak,fr,pu,po,ma,na,pt,un,rfl,g0,g1,g2,P⟩ k hk;dsimp only[U22];refine Kv (fun ht=> ?_) (fun _=> ?_)
 .have ht:=DN ht;have go: ∀(a':List Int) (b':Int) (hb' ca':Bool) (pl' us' re' im' ia':Int) (hc':Bool) (pe' ex':List Gn) (sk' ak':Bs) (fr':List Pt) (pu' po':List Bs) (ma':List (Bs×Bs)) (na':List Gn) (pt':List Pt) (un':List Ex),KP L (a',b')->Ao0 pl' us' re' im' ia' pe' ex' sk' ak' fr' pu' po' ma' na' pt' un'->Ends (fun r=>Ao1 r.1/\KP L r.2) (k (i64.wrap (t - 1),a',b',hb',ca',pl',us',pu',po',ma',re',im',ia',na',hc',pe',ex',sk',ak',pt',fr',un')):=by intro a' b' hb' ca' pl' us' re' im' ia' hc' pe' ex' sk' ak' fr' pu' po' ma' na' pt' un' hda hP;rw[w64 (by omega) (by omega)];exact hk _ ⟨t - 1,a',b',hb',ca',pl',us',re',im',ia',hc',pe',ex',sk',ak',fr',pu',po',ma',na',pt',un',rfl,by omega,by omega,hda,hP⟩ (by dsimp only;omega)
  refine JO (nx N hL g2 14 (by omega) (by omega)) ?_;rintro ⟨r,d1,d2⟩ ⟨h0,h1,h2⟩;dsimp only at h0 h1 h2 ⊢;refine wR (P:=fun x=> ∃ q,x=(q,d1,d2,hb,ca,pl,us,pu,po,ma,re,im,ia,na,hc,pe,ex,sk,ak,pt,fr,un)) (fun j hj=>Kv (fun _=>hj _ ⟨_,rfl⟩) (fun _=>hj _ ⟨_,rfl⟩)) ?_;rintro _ ⟨q,rfl⟩;dsimp only[U22];refine Kv (fun _=> ?_) (fun _=>Kv (fun _=> ?_) (fun _=>Kv (fun _=> ?_) (fun _=>Kv (fun _=> ?_) (fun _=>Kv (fun _=> ?_) (fun _=>Kv (fun _=> ?_) (fun _=>Kv (fun _=> ?_) (fun _=>Kv (fun _=> ?_) (fun _=>Kv (fun _=> ?_) (fun _=>Kv (fun _=> ?_) (fun _=>Kv (fun _=> ?_) (fun _=>Kv (fun _=> ?_) (fun _=> ?_))))))))))))
  .refine JO (nx N hL h2 5 (by omega) (by omega)) ?_;rintro ⟨r,e1,e2⟩ ⟨f0,f1,f2⟩;dsimp only at f0 f1 f2 ⊢;exact go _ _ _ _ _ _ _ _ _ _ _ _ _ _ _ _ _ _ _ _ _ f2 {P with pl:=by rw[w64 (by omega) (by omega)];omega}
  .exact go _ _ _ _ _ _ _ _ _ _ _ _ _ _ _ _ _ _ _ _ _ h2 {P with pl:=by omega}
  .refine JO (nx N hL h2 511 (by omega) (by omega)) ?_;rintro ⟨r,e1,e2⟩ ⟨f0,f1,f2⟩;dsimp only at f0 f1 f2 ⊢;exact go _ _ _ _ _ _ _ _ _ _ _ _ _ _ _ _ _ _ _ _ _ f2 {P with us:=by rw[w64 (by omega) (by omega)];omega}
  .refine JO (Am8 N hN hL true h2) ?_;rintro ⟨r,e1,e2⟩ ⟨f0,f2⟩;exact go _ _ _ _ _ _ _ _ _ _ _ _ _ _ _ _ _ _ _ _ _ f2 {P with pu:=f0}
  .refine JO (Am8 N hN hL false h2) ?_;rintro ⟨r,e1,e2⟩ ⟨f0,f2⟩;exact go _ _ _ _ _ _ _ _ _ _ _ _ _ _ _ _ _ _ _ _ _ f2 {P with po:=f0}
  .refine JO (Ant N hN hL h2) ?_;rintro ⟨r,e1,e2⟩ ⟨f0,f2⟩;exact go _ _ _ _ _ _ _ _ _ _ _ _ _ _ _ _ _ _ _ _ _ f2 {P with ma:=f0}
  .refine JO (nx N hL h2 5 (by omega) (by omega)) ?_;rintro ⟨r,e⟩ ⟨f0,f1,f2⟩;refine JO (nx N hL f2 5 (by omega) (by omega)) ?_;rintro ⟨r2,e1,e2⟩ ⟨c0,c1,c2⟩;dsimp only at f0 f1 c0 c1 c2 ⊢;exact go _ _ _ _ _ _ _ _ _ _ _ _ _ _ _ _ _ _ _ _ _ c2 {P with re:=by rw[w64 (by omega) (by omega)];omega,im:=by rw[w64 (by omega) (by omega)];omega}
  .refine JO (nx N hL h2 65 (by omega) (by omega)) ?_;rintro ⟨r,e1,e2⟩ ⟨f0,f1,f2⟩;dsimp only at f0 f1 f2 ⊢;exact go _ _ _ _ _ _ _ _ _ _ _ _ _ _ _ _ _ _ _ _ _ f2 {P with ia:=by omega}
  .refine JO (rX N hN hL h2) ?_;rintro ⟨x,e⟩ ⟨f0,f2⟩;refine JO (rX N hN hL f2) ?_;rintro ⟨y,e⟩ ⟨f1,f2⟩;refine JO (nx N hL f2 2 (by omega) (by omega)) ?_;rintro ⟨r2,e1,e2⟩ ⟨c0,c1,c2⟩;dsimp only at f0 f1 c0 c1 c2 ⊢;rw[w64 (by omega) (by omega)];refine JF (Dn (by omega)) (JF (Dn (by omega)) ?_);refine go _ _ _ _ _ _ _ _ _ _ _ _ _ _ _ _ _ _ _ _ _ c2 {P with na:=⟨?_,fun g hg=> ?_⟩}
   .unfold J9;rw[ED,DL];simp;omega
   .rcases D8.1 (ArP hg)with rfl | hg
    .exact f0
    .rw[DY.1 hg];exact f1
  .refine JO (AnU N hN hL h2) ?_;rintro ⟨⟨x,y⟩,e1,e2⟩ ⟨⟨f0,f1⟩,f2⟩;exact go _ _ _ _ _ _ _ _ _ _ _ _ _ _ _ _ _ _ _ _ _ f2 {P with pe:=f0,ex:=f1}
  .refine JO (nx N hL h2 3 (by omega) (by omega)) ?_;rintro ⟨r,e⟩ ⟨f0,f1,f2⟩;dsimp only at f0 f1 f2 ⊢;refine JF (Dn (by omega)) (JF (Dn (by omega)) (JF (Dn (by omega)) ?_));refine JO (nx N hL f2 2 (by omega) (by omega)) ?_;rintro ⟨r2,e1,e2⟩ ⟨c0,c1,c2⟩;dsimp only at c0 c1 c2 ⊢;refine JF (Dn (by omega)) (JF (Dn (by omega)) (JF (Dn (by omega)) ?_));exact go _ _ _ _ _ _ _ _ _ _ _ _ _ _ _ _ _ _ _ _ _ c2 {P with sk:=QK (P:=shortS) (by decide) f0 f1,ak:=QK (P:=shortS) (by decide) c0 c1}
  .refine JO (Ah7 N hN hL h2) ?_;rintro ⟨r,e1,e2⟩ ⟨f0,f2⟩;exact go _ _ _ _ _ _ _ _ _ _ _ _ _ _ _ _ _ _ _ _ _ f2 {P with pt:=f0}
  .refine JO (Ah7 N hN hL h2) ?_;rintro ⟨r,e⟩ ⟨f0,f2⟩;refine JO (nx N hL f2 2 (by omega) (by omega)) ?_;rintro ⟨r2,e⟩ ⟨c0,c1,c2⟩;refine JO (nx N hL c2 3 (by omega) (by omega)) ?_;rintro ⟨r3,e1,e2⟩ ⟨z0,z1,z2⟩;dsimp only at f0 c0 c1 z0 z1 z2 ⊢;refine JF (Dn (by omega)) (JF (Dn (by omega)) ?_);refine go _ _ _ _ _ _ _ _ _ _ _ _ _ _ _ _ _ _ _ _ _ z2 {P with fr:=f0,un:=⟨?_,fun g hg=> ?_⟩}
   .unfold J9;rw[ED,DL];simp;omega
   .rcases D8.1 (ArP hg)with rfl | hg
    .exact⟨(by decide:shortS [49,46,50,46,51,46,52,46,53]),(by decide:shortS [5,0])⟩
    .rw[DY.1 hg];exact⟨by decide,by decide⟩
 .dsimp only[U21];exact Lr ⟨P,g2⟩
end
def Azh {r:Int} (h0: -9223372036854775808<=r) (h1:r<=9223372036854775807) (h:JY .andNot .i64 r 510=0):0<=r/\r<512:=by
 have e:JY .andNot .i64 r 510=i64.wrap ((BitVec.ofInt 64 r &&& ~~~(510#64)).toNat:Int):=rfl;rw[e]at h;generalize hb:BitVec.ofInt 64 r=b at h
 have hz:(b &&& ~~~(510#64)).toNat=0:=by
  have hlt:=(b &&& ~~~(510#64)).isLt;generalize (b &&& ~~~(510#64)).toNat=n at h hlt;have e2:i64.wrap (n:Int)=if 9223372036854775808<=(n:Int) % 18446744073709551616 then(n:Int) % 18446744073709551616 - 18446744073709551616 else(n:Int) % 18446744073709551616:=by show(if(true&&decide ((n:Int) % 18446744073709551616>=9223372036854775808))=true then _ else _)=_;simp only[ET,D6,ge_iff_le];rfl
  rw[e2]at h;split at h<;>omega
 have hz2:b &&& ~~~(510#64)=0#64:=BitVec.eq_of_toNat_eq (by rw[hz];rfl)
 have hle:b.toNat<=510:=by
  have:b=b &&& 510#64:=by
   apply BitVec.eq_of_getLsbD_eq;intro i hi;have hq:(b &&& ~~~(510#64)).getLsbD i=false:=by rw[hz2];simp
   rw[Jc,BitVec.getLsbD_not]at hq;rw[Jc];have hd:decide (i<64)=true:=Dn hi;rw[hd,ET]at hq;revert hq;cases b.getLsbD i<;>cases (510#64).getLsbD i<;>simp
  rw[this,BitVec.toNat_and];exact Nat.and_le_right
 have hn:(b.toNat:Int)=r % 18446744073709551616:=by
  rw[<- hb,Gv];have:(0:Int)<=r % 18446744073709551616:=by omega
  rw[show((2 ^ 64:Nat):Int)=18446744073709551616 from rfl];exact Hl this
 omega
def pnB (l:List Gn):Bs:=bif l.isEmpty then []else Sp.elem 160 (Sp.elem 160 (Q9 l))
def pfB (t:Nat) (r:Int):Bs:=bif r==0 then []else Sp.elem t (flB r)
def piB (b:Bool) (n:List (List Att)):Bs:=bif b then Sp.elem 162 (Vz (4,[],n))else []
def cO (p:Pt):Bs:=Sp.elem 48 (pnB p.1++(pfB 129 p.2.1++piB p.2.2.1 p.2.2.2))
structure Ass (p:Pt):Prop where
 n16:p.1.length<=16
 ns:JV (fun g=>LZ g false) p.1=0
 r:0<=p.2.1/\p.2.1<512
 i:p.2.2.1=true->QC p.2.2.2=0/\p.2.2.2≠ []
 ne:p.1=[]->p.2.2.1=true
 nb:p.2.2.1=false->p.2.2.2=[]
def A0s {p:Pt} (hs:NS p) (h:ptI p=0):Ass p:=by
 obtain⟨g,r,b,n⟩:=p;obtain⟨_,_,hr0,hr1⟩:=hs;unfold ptI at h;dsimp only at h hr0 hr1;cases h1:(g.isEmpty&& !b)||(!n.isEmpty&& !b)with
 | true=>rw[h1]at h;cases h
 | false =>
  rw[h1,cond_false]at h;cases h2:JY .andNot .i64 r 510 != 0 with
  | true=>rw[h2]at h;cases h
  | false =>
   rw[h2,cond_false]at h;cases h3:decide (16<g.length)with
   | true=>rw[h3]at h;cases h
   | false =>
    rw[h3,cond_false]at h;cases h4:Qp g false != 0 with
    | true=>rw[h4,cond_true]at h;rw[h]at h4;cases h4
    | false =>
     rw[h4,cond_false]at h;have:=Fg h3;refine⟨by dsimp only;omega,by simpa [Qp]using h4,Azh hr0 hr1 (by simpa using h2),?_,?_,?_⟩
     .intro hb;dsimp only at hb ⊢;subst hb;rw[Ec,cond_false]at h;cases h5:n.isEmpty with
      | true=>rw[h5]at h;cases h
      | false =>rw[h5,cond_false]at h;exact⟨h,by intro hn;subst hn;cases h5⟩
     .intro hg;dsimp only at hg ⊢;subst hg;cases b with
      | true=>rfl
      | false=>cases h1
     .intro hb;dsimp only at hb ⊢;subst hb;cases n with
      | nil=>rfl
      | cons x y=>simp at h1
def Ase {p:Pt} (h:Ass p):(pnB p.1).length<=71978/\(Q9 p.1).length<=71968:=by
 have h1:=wX h.ns h.n16;have h2:=Sp.Kw 160 (Q9 p.1);have h3:=Sp.Kw 160 (Sp.elem 160 (Q9 p.1));refine⟨?_,h1⟩;unfold pnB;cases p.1.isEmpty with
 | true=>exact DF _
 | false=>rw[cond_false];omega
def Agx {r:Int} (h:0<=r/\r<512):(flB r).length<=3:=(Ahr 1048579 r (by omega) h.1 h.2).2.2
def Azo {t:Nat} {r:Int} (h:0<=r/\r<512):(pfB t r).length<=8:=by
 have h1:=Agx h;have h2:=Sp.Kw t (flB r);unfold pfB;cases r==0 with
 | true=>exact DF _
 | false=>rw[cond_false];omega
def Avg {n:List (List Att)} (h:QC n=0):LZ (4,[],n) false=0:=by unfold LZ;rw[Y0 rfl,cond_true];exact h
def Asd {b:Bool} {n:List (List Att)} (h:b=true->QC n=0/\n≠ []):(piB b n).length<=4503/\(b=true->(Vz (4,[],n)).length<=4498):=by
 unfold piB;cases b with
 | false=>exact⟨DF _,fun h=>by cases h⟩
 | true =>have h1:=rW (Avg (h rfl).1);have h2:=Sp.Kw 162 (Vz (4,[],n));rw[cond_true];exact⟨by omega,fun _=>h1⟩
def Aki {p:Pt} (h:Ass p):(cO p).length<=76494/\(pnB p.1++(pfB 129 p.2.1++piB p.2.2.1 p.2.2.2)).length<=76489:=by
 have h1:=(Ase h).1;have h2:=Azo (t:=129) h.r;have h3:=(Asd h.i).1;have h4:=Sp.Kw 48 (pnB p.1++(pfB 129 p.2.1++piB p.2.2.1 p.2.2.2));unfold cO;rw[Dx,Dx]at *
 omega
def Azq {l:List Pt} (hs: ∀ p∈l,NS p) (h:SA l=0):l.length<=4/\ ∀ p∈l,Ass p:=by
 unfold SA at h;cases h1:decide (4<l.length)with
 | true=>rw[h1]at h;cases h
 | false =>rw[h1,cond_false]at h;have:=Fg h1;exact⟨by omega,fun p hp=>A0s (hs p hp) (ZU h p hp)⟩
def Lj (l:List Pt):Bs×Int:=bif l.isEmpty then([],7)else bif SA l != 0 then([],SA l)else Alj 48 (l.map cO).flatten
def Aij {l:List Gn} (h0:l≠ []) (h16:l.length<=16) (h:JV (fun g=>LZ g false) l=0):Aon l=(Q9 l,0):=by unfold Aon Qp;rw[show l.isEmpty=false by cases l with | nil=>exact absurd rfl h0 | cons _ _=>rfl,cond_false,Du (by omega),cond_false,h];rfl
def AsR {n:List (List Att)} (h:OC n):We (4,[],n):=⟨DF _,h⟩
def Apr (N:Nat) (g:List Gn) (hN:1048578<N) (hs:Me g) (h16:g.length<=16) (h:JV (fun g=>LZ g false) g=0):TM N g=some (pnB g):=by
 have hl:=wX h h16;have hl160:=Sp.Kw 160 (Q9 g);unfold TM pnB;try simp only[clR]
 rw[len0];cases hg:g.isEmpty with
 | true=>rfl
 | false =>
  have hg0:g≠ []:=by intro h;subst h;cases hg
  have w1:JL N 160 [Q9 g]=_:=WE N 160 [Q9 g] (by omega) (by omega) hN (by simp) (by rw[KZ];omega);have w2:JL N 160 [Sp.elem 160 (Q9 g)]=_:=WE N 160 [Sp.elem 160 (Q9 g)] (by omega) (by omega) hN (by simp) (by rw[KZ];omega);rw[KZ]at w1 w2;rw[cond_false,cond_false,lJ N g hN hs,Aij hg0 h16 h,Js];dsimp only;rw[w1,Js,w2,Js]
def Apm (N t:Nat) (r:Int) (ht:t<256) (h31:t % 32≠31) (hN:1048578<N) (hr:0<=r/\r<512):Ry N (t:Int) r=some (pfB t r):=by
 have hl:=Agx hr;unfold Ry pfB;try simp only[clR]
 by_cases h0:r=0
 .rw[Y0 h0];rfl
 .have w1:=WE N t [flB r] ht h31 hN (by simp) (by rw[KZ];omega);rw[KZ]at w1;rw[VN h0,cond_false,cond_false,(Ahr N r hN hr.1 hr.2).2.1,Js];dsimp only;rw[w1,Js]
def AoZ (N:Nat) (n:List (List Att)) (hN:1048578<N) (hs:OC n) (h:QC n=0):WT N n=some (Vz (4,[],n)):=by
 unfold WT;have hf:JV (fun g=>LZ g false) [((4,[],n):Gn)]=0:=by rw[Ua,Avg h];rfl
 rw[lJ N [(4,[],n)] hN (fun g hg=>by rw[DY.1 hg];exact AsR hs),Aij (by simp) (by simp) hf,Js];unfold Q9;simp
def ZY (N:Nat) (l:List Pt) (hN:1048578<N) (hs: ∀ p∈l,NS p):Na N l=some (Lj l):=by
 unfold Na Lj;try simp only[clR]
 rw[len0,Rj N l hN hs];cases he:l.isEmpty with
 | true=>rfl
 | false =>
  rw[cond_false,cond_false,Js,<- JD];show(bif SA l != 0 then some ([],SA l)else _)=bif SA l != 0 then _ else _;refine Ku fun h0=> ?_;obtain⟨h4,hok⟩:=Azq hs (by simpa using h0);have hl:=NM (g:=cO) (M:=76494) (l:=l) (fun p hp=>(Aki (hok p hp)).1);refine(fP (mk:=fun i a=>(a,(i:Int))) l ([],0,false,[]) cO (fun a=>Jq (Ru N 48 [a]) fun r44=>some (r44.fst,r44.snd)) ?_ ?_ N (by omega)).trans ?_
  .intro i a hi ha k;have hsm:=hs _ (getD_mem ([],0,false,[]) hi);have hp:=hok _ (getD_mem ([],0,false,[]) hi);dsimp only[U2];rw[Int.toNat_natCast];generalize l.getD i ([],0,false,[])=p at *
   obtain⟨g,r,b,n⟩:=p;have l1:=Ase hp;have l2:=Agx hp.r;have l3:=Asd hp.i;have l4:=Aki hp;dsimp only at l1 l2 l3 l4;have f1:=Apr N g hN hsm.1 hp.n16 hp.ns;have f2:Ry N 129 r=_:=Apm N 129 r (by omega) (by omega) hN hp.r;have w:JL N 48 [pnB g,pfB 129 r,piB b n]=_:=WE N 48 [pnB g,pfB 129 r,piB b n] (by omega) (by omega) hN (by simp) (by rw[flat3];omega);rw[flat3]at w;have fin: ∀ x:Bs,x=piB b n->U5 (fun t8b b34560_0b b34560_1b b34560_2b b34560_3b=>Jq (TM N b34560_0b) fun r33=>Jq (Ry N 129 b34560_1b) fun r36=>Jq (JL N 48 [r33,r36,t8b]) fun r39=>Vm.chk (decide (List.length a+List.length r39<=140737488355328)) (k (a++r39,i64.wrap ((i:Int)+1)))) (x,g,r,b,n)=k (a++cO (g,r,b,n),((i+1:Nat):Int)):=by intro x hx;subst hx;dsimp only[U5];rw[f1,Js,f2,Js,w,Js];have hw:Sp.elem 48 (pnB g++(pfB 129 r++piB b n))=cO (g,r,b,n):=rfl;simp (disch:=omega) only[J4,hw,Ko]
   rw[AbV (show(i:Int)<(l.length:Int) by omega),cond_true,iZ (by omega),J8,J8];simp only[Ld];cases hb:b with
   | false =>subst hb;rw[cond_false];exact fin [] rfl
   | true =>subst hb;have hn:=hp.i rfl;have l5:=l3.2 rfl;have w1:JL N 162 [Vz (4,[],n)]=_:=WE N 162 [Vz (4,[],n)] (by omega) (by omega) hN (by simp) (by rw[KZ];omega);rw[KZ]at w1;rw[cond_true,AoZ N n hN hsm.2.1 hn.1,Js,w1,Js];exact fin _ rfl
  .intro a k;simp (disch:=omega) only[J4]
  .have f:Ru N 48 [(l.map cO).flatten]=_:=Aoz N 48 [(l.map cO).flatten] (by omega) (by omega) (by show 1<N;omega) (by show 1<=_;omega) (by rw[KZ];omega);rw[f,Js,KZ];rfl
structure AzI (pl us re im ia:Int) (pu po:List Bs) (ma:List (Bs×Bs)) (na:List Gn) (hc:Bool) (s:St2) (sk ak:Bs) (pt fr:List Pt):Prop where
 sp:spI pl=true/\spI re=true/\spI im=true/\spI ia=true
 us:0<=us/\us<512
 pu:pu.length<=8/\ ∀ s∈pu,Oz s=true
 po:po.length<=8/\ ∀ s∈po,Oz s=true
 ma:ma.length<=8/\ ∀ m∈ma,Oz m.1=true/\Oz m.2=true
 na:na.length<=16/\JV (fun g=>LZ g false) na=0
 con:AbO hc s=0
 sk:sk.length<=32
 ak:ak.length<=32
 pt:SA pt=0
 fr:SA fr=0
def ApM {α :Type} {l:List α} {x: α} (d: α) (h:x∈l): ∃ i,i<l.length/\l.getD i d=x:=by obtain⟨i,hi,he⟩:=FO.1 h;exact⟨i,hi,by rw[getD_lt l i d hi];exact he⟩
def ArW {l:List Bs} (h:yV l 8=0):l.length<=8/\ ∀ s∈l,Oz s=true:=by
 unfold yV at h;cases h1:decide ((l.length:Int)>8)with
 | true=>rw[h1]at h;cases h
 | false =>
  rw[h1,cond_false]at h;have:=Fg h1;refine⟨by omega,fun s hs=> ?_⟩;obtain⟨i,hi,rfl⟩:=ApM [] hs;have hi0:=ZU h i (EP.2 hi);unfold idI at hi0;cases hv:Oz (l.getD i [])with
  | true=>rfl
  | false=>rw[hv]at hi0;cases hi0
def Azj {l:List (Bs×Bs)} (h:Aft l=0):l.length<=8/\ ∀ m∈l,Oz m.1=true/\Oz m.2=true:=by
 unfold Aft at h;cases h1:decide (8<l.length)with
 | true=>rw[h1]at h;cases h
 | false =>rw[h1,cond_false]at h;have:=Fg h1;refine⟨by omega,fun s hs=> ?_⟩;obtain⟨i,hi,rfl⟩:=ApM ([],[]) hs;have hi0:=ZU h i (EP.2 hi);unfold mpI at hi0;cases hv:Oz (l.getD i ([],[])).1<;>cases hv2:Oz (l.getD i ([],[])).2<;>rw[hv,hv2]at hi0<;>first | exact⟨rfl,rfl⟩ | cases hi0
def AoH {b:Bool} {x y:Int} (h:(bif b then x else y)=0) (hx:x≠0):b=false/\y=0:=by
 cases b with
 | true=>exact absurd h hx
 | false=>exact⟨rfl,h⟩
def AhG {e y:Int} (h:(bif e != 0 then e else y)=0):e=0/\y=0:=by
 by_cases he:e=0
 .subst he;exact⟨rfl,h⟩
 .rw[show(e != 0)=true from EO.2 he]at h;exact absurd h he
def Ap5 {hb ca:Bool} {pl us:Int} {pu po:List Bs} {ma:List (Bs×Bs)} {re im ia:Int} {na:List Gn} {hc:Bool} {pe ex:List Gn} {sk ak:Bs} {pt fr:List Pt} {un:List Ex} (h:Um (hb,ca,pl,us,pu,po,ma,re,im,ia,na,hc,pe,ex,sk,ak,pt,fr,un)=0) :
 AzI pl us re im ia pu po ma na hc (pe,ex) sk ak pt fr/\(ca=true->hb=true)/\(pl≠ -1->ca=true)/\AqG un=0/\un.length+(Afa (hb,ca,pl,us,pu,po,ma,re,im,ia,na,hc,pe,ex,sk,ak,pt,fr,un)).count true<=24:=by
 unfold Um at h;dsimp only at h;obtain⟨h1,h⟩:=AoH h (by decide);obtain⟨h2,h⟩:=AoH h (by decide);obtain⟨h3,h⟩:=AhG h;obtain⟨h4,h⟩:=AhG h;obtain⟨h5,h⟩:=AhG h;obtain⟨h6,h⟩:=AoH h (by decide);obtain⟨h7,h⟩:=AhG h;obtain⟨h8,h⟩:=AhG h;obtain⟨h9,h⟩:=AoH h (by decide);obtain⟨h10,h⟩:=AhG h;obtain⟨h11,h⟩:=AhG h;obtain⟨h12,h⟩:=AoH h (by decide);simp only[EN,Jb,Ed]at h2 h9 h6 h12;obtain⟨⟨⟨⟨⟨g1,g2⟩,g3⟩,g4⟩,g5⟩,g6⟩:=h2;refine⟨⟨⟨g1,g2,g3,g4⟩,by omega,ArW h3,ArW h4,Azj h5,⟨by omega,h7⟩,h8,by omega,by omega,h10,h11⟩,?_,?_,h,by omega⟩
 .intro hca;subst hca;cases hb with
  | true=>rfl
  | false=>cases h1
 .intro hpl;rw[show(pl != -1)=true from EO.2 hpl]at h1;cases ca with
  | true=>rfl
  | false=>simp at h1
def NH (s:Bs):Bs:=Sp.elem 6 (WC s)
def Aeu (ca:Bool) (pl:Int):Bs:=Sp.elem 48 ((bif ca then Sp.elem 1 [255]else [])++(bif pl != -1 then Sp.elem 2 (inB pl)else []))
def Ap4 (l:List Bs):Bs:=Sp.elem 48 (l.map NH).flatten
def ApZ (l:List Bs):Bs:=Sp.elem 48 (l.map fun s=>Sp.elem 48 (NH s)).flatten
def ApH (l:List (Bs×Bs)):Bs:=Sp.elem 48 (l.map fun m=>Sp.elem 48 (NH m.1++NH m.2)).flatten
def Aii (re im:Int):Bs:=Sp.elem 48 ((bif re != -1 then Sp.elem 128 (inB re)else [])++(bif im != -1 then Sp.elem 129 (inB im)else []))
def Ze:Info->List (Bool×Bool×Ex)
 | (hb,ca,pl,us,pu,po,ma,re,im,ia,na,hc,pe,ex,sk,ak,pt,fr,_) =>
  [(hb,false,[50,46,53,46,50,57,46,49,57],true,Aeu ca pl),
   (us != 0,false,[50,46,53,46,50,57,46,49,53],true,Sp.elem 3 (flB us)),
   (decide (((pu.length:Nat):Int)>0),false,[50,46,53,46,50,57,46,51,55],false,Ap4 pu),
   (decide (((po.length:Nat):Int)>0),false,[50,46,53,46,50,57,46,51,50],false,ApZ po),
   (decide (((ma.length:Nat):Int)>0),false,[50,46,53,46,50,57,46,51,51],true,ApH ma),
   (re != -1||im != -1,false,[50,46,53,46,50,57,46,51,54],true,Aii re im),
   (ia != -1,false,[50,46,53,46,50,57,46,53,52],true,Sp.elem 2 (inB ia)),
   (decide (((na.length:Nat):Int)>0),false,[50,46,53,46,50,57,46,49,55],false,Sp.elem 48 (Q9 na)),
   (hc,(Rk (pe,ex)).2 != 0,[50,46,53,46,50,57,46,51,48],true,(Rk (pe,ex)).1),
   (!(sk==[]),false,[50,46,53,46,50,57,46,49,52],false,Sp.elem 4 sk),
   (!(ak==[]),false,[50,46,53,46,50,57,46,51,53],false,Sp.elem 48 (Sp.elem 128 ak)),
   (decide (((pt.length:Nat):Int)>0),(Lj pt).2 != 0,[50,46,53,46,50,57,46,51,49],false,(Lj pt).1),
   (decide (((fr.length:Nat):Int)>0),(Lj fr).2 != 0,[50,46,53,46,50,57,46,52,54],false,(Lj fr).1)]
abbrev noX:Bool×Bool×Ex:=(false,false,[],false,[])
def LD (r:Bool×Bool×Ex):List Ex:=bif r.1 then [r.2.2]else []
def Vj (r:Bool×Bool×Ex):Bool:=r.1&&r.2.1
def encI (x:Info):List Ex×Int:=bif Um x != 0 then([],Um x)else bif (Ze x).any Vj then([],2)else((Ze x).flatMap LD++x.2.2.2.2.2.2.2.2.2.2.2.2.2.2.2.2.2.2,0)
section
variable (N:Nat) (hN:1048578<N)
include hN
theorem AaJ {n:Int} (h:spI n=true):(inB n).length<=2:=(AcY N n hN h).2.2
omit hN in
theorem Su {s:Bs} (h:Oz s=true):(NH s).length<=65:=by have:=(Ag6 h).2;have:=Sp.Kw 6 (WC s);unfold NH;omega
end
section
variable (N:Nat) (hN:1048578<N)
include hN
omit hN in
omit hN in
end
def Awh (x:Info):(Ze x).length=13:=rfl
def PV (r:Bool×Bool×Ex):(LD r).length<=1:=by unfold LD;cases r.1<;>simp
end Go.Proofs.YtakmjgnpefmjhaaGreatDoor.Pl
