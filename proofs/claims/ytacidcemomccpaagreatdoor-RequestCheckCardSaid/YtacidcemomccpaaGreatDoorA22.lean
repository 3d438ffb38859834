import Derived.Test.YtacidcemomccpaaGreatDoorA21
set_option linter.all false
namespace Go.Proofs.YtacidcemomccpaaGreatDoor.Pl
open IntKind (i64 u8 u32 u64)
open Go Vm
def QV {α ρ :Type} {A:(α ->Option ρ)->Option ρ} {f: α ->Option ρ} {x: α} (h: ∀ j: α ->Option ρ,A j=j x):Ld A f=f x:=h f
def number_eq (N t:Nat) (n:Int) (ht:t<256) (h31:t % 32≠31) (hN:1048578<N) (h:spI n=true):LW N (t:Int) n=some (Sp.elem t (inB n)):=by obtain⟨_,h2,h3⟩:=UK N n hN h;all_goals grind[RN,inB,JL,LW,Js]
def ApD (N:Nat) (v:Bool) (hN:1048578<N):Xw N 1 v=some (bif v then Sp.elem 1 [255]else []):=by
 unfold Xw;cases v with
 | false=>rfl
 | true =>have w:JI N 1 [[255]]=_:=RN N 1 [[255]] (by omega) (by omega) hN (by simp) (by simp);show Jq (JI N 1 [[255]]) _=_;rw[w,Js];rfl
def aH (N:Nat) (hN:1048578<N) (l:List Bs) (hl:l.length<=1000) (hs:l.flatten.length<=131072):JI N 48 l=some (Sp.elem 48 l.flatten):=RN N 48 l (by omega) (by omega) hN hl hs
def AoP {t:Nat} {c:Bs} (h:(VH t c).2≠0):(VH t c).2=2:=by grind[VH,KR]
def Apb {l:List Pt} (h0:l≠ []) (h1:RJ l=0) (h:(KP l).2≠0):(KP l).2=2:=by unfold KP at h ⊢;rw[show l.isEmpty=false by cases l with | nil=>exact absurd rfl h0 | cons _ _=>rfl,h1]at h ⊢;exact AoP h
set_option maxHeartbeats 1000000 in
def AiY (N:Nat) (x:Info) (hN:1048578<N) (hx:PX x):UG N x=some (encI x):=by
 have hck:=zA N x hN hx;have hun:=hx.un.1;unfold UG encI;try simp only[clR]
 rw[hck,Js,<- JX];refine KN λh0=> ?_;have h0:Qp x=0:=by simpa using h0
 clear hck;obtain⟨B,C,D,F,G,H,I,J,K,L,O,P,Q,T,U,V,W,X,Y⟩:=x;have hun:Y.length<=1048576:=hun;obtain⟨ok,_⟩:=AdU h0;obtain⟨s1,s2,s3,s4⟩:=ok.sp;have i1:=iE N hN s1;have i2:=iE N hN s2;have i3:=iE N hN s3;have i4:=iE N hN s4;have n1:LW N 2 D=_:=number_eq N 2 D (by omega) (by omega) hN s1;have n2:LW N 128 J=_:=number_eq N 128 J (by omega) (by omega) hN s2;have n3:LW N 129 K=_:=number_eq N 129 K (by omega) (by omega) hN s3;have n4:LW N 2 L=_:=number_eq N 2 L (by omega) (by omega) hN s4;have q1:=Sp.JS 2 (inB D);have q2:=Sp.JS 128 (inB J);have q3:=Sp.JS 129 (inB K);have fl:QQ N 3 F=_:=Al4 N 3 F (by omega) (by omega) hN ok.us;have gg:=λn h=>fM (n:=n) h;refine(QV (x:=(B,C,D,F,G,H,I,J,K,L,O,P,Q,T,U,V,W,X,Y,(KX (B,false,[50,46,53,46,50,57,46,49,57],true,aT C D)))) (λj=> ?_)).trans ?_
 .cases B with
  | false=>rfl
  | true =>
   have hbl:((bif C then Sp.elem 1 [255]else []):Bs).length<=10:=by cases C<;>decide
   rw[cond_true,ApD N C hN,Js,fM s1];simp only[Ld];unfold KX aT;cases hp:D != -1 with
   | true =>have w:=aH N hN [(bif C then Sp.elem 1 [255]else [])++Sp.elem 2 (inB D)] (by simp) (by rw[JL,Dp];omega);rw[JL]at w;rw[cond_true,n1,Js];dsimp only[U20];rw[Oz,Ju,w,Js];rfl
   | false =>have w:=aH N hN [(bif C then Sp.elem 1 [255]else [])] (by simp) (by rw[JL];omega);rw[JL]at w;rw[cond_false];dsimp only[U20];rw[w,Js,cond_true,cond_false,DT]
 generalize hl0:KX (B,false,[50,46,53,46,50,57,46,49,57],true,aT C D)=A0;have kA0:A0.length<=1:=by rw[<- hl0];exact Oi _
 dsimp only[U20];refine(QV (x:=(B,C,D,F,G,H,I,J,K,L,O,P,Q,T,U,V,W,X,Y,A0++KX (F != 0,false,[50,46,53,46,50,57,46,49,53],true,Sp.elem 3 (flB F)))) (λj=> ?_)).trans ?_
 .unfold KX;by_cases h:F=0
  .rw[iP h,cond_false,cond_false,DT]
  .rw[VB h,cond_true,fl,Js,Oz,Ju];unfold pfB;rw[QX h];rfl
 obtain⟨A1,hA1⟩: ∃ A,A=A0++KX (F != 0,false,[50,46,53,46,50,57,46,49,53],true,Sp.elem 3 (flB F)):=⟨_,rfl⟩
 rw[<- hA1];have kA1:A1.length<=2:=by rw[hA1,Dp];have:=Oi (F != 0,false,[50,46,53,46,50,57,46,49,53],true,Sp.elem 3 (flB F));omega
 dsimp only[U20];refine(QV (x:=(B,C,D,F,G,H,I,J,K,L,O,P,Q,T,U,V,W,X,Y,A1++KX (decide (((G.length:Nat):Int)>0),false,[50,46,53,46,50,57,46,51,55],false,AdS G))) (λj=> ?_)).trans ?_
 .unfold KX;cases hh:decide (((G.length:Nat):Int)>0)with
  | false=>rw[cond_false,cond_false,DT]
  | true =>
   have hl:=Lp (g:=Lu) (M:=65) (l:=G) (λm hm=>by exact Nh (ok.pu.2 m hm));have hk:=ok.pu.1;rw[cond_true,cond_true];refine(Zf (mk:=λi t=>(t,(i:Int),B,C,D,F,G,H,I,J,K,L,O,P,Q,T,U,V,W,X,Y,A1)) G [] (Lu) (λt=>Jq (JI N 48 [t]) λr=>Vm.chk (decide ((A1.length+1)*41<=140737488355328)) (j (B,C,D,F,G,H,I,J,K,L,O,P,Q,T,U,V,W,X,Y,A1++[([50,46,53,46,50,57,46,51,55],false,r)]))) ?_ ?_ N).trans ?_
   .intro i t hi ht k;dsimp only[U22];rw[Int.toNat_natCast];have hp:=WE N _ hN (hx.pu.2 _ (getD_mem [] hi)) (ok.pu.2 _ (getD_mem [] hi));have hp2:Sp.elem 6 (Nj (G.getD i []))=Lu (G.getD i []):=rfl;simp (disch:=omega) only[JD,hp,hp2,JW]
   .intro t k;dsimp only[U22];rw[Vw,cond_false];rfl
   .have w:=aH N hN [(G.map Lu).flatten] (by simp) (by rw[JL];omega);rw[JL]at w;rw[w,Js,Oz,Ju];rfl
 obtain⟨A2,hA2⟩: ∃ A,A=A1++KX (decide (((G.length:Nat):Int)>0),false,[50,46,53,46,50,57,46,51,55],false,AdS G):=⟨_,rfl⟩
 rw[<- hA2];have kA2:A2.length<=3:=by rw[hA2,Dp];have:=Oi (decide (((G.length:Nat):Int)>0),false,[50,46,53,46,50,57,46,51,55],false,AdS G);omega
 dsimp only[U20];refine(QV (x:=(B,C,D,F,G,H,I,J,K,L,O,P,Q,T,U,V,W,X,Y,A2++KX (decide (((H.length:Nat):Int)>0),false,[50,46,53,46,50,57,46,51,50],false,Aep H))) (λj=> ?_)).trans ?_
 .unfold KX;cases hh:decide (((H.length:Nat):Int)>0)with
  | false=>rw[cond_false,cond_false,DT]
  | true =>
   have hl:=Lp (g:=(λs=>Sp.elem 48 (Lu s))) (M:=70) (l:=H) (λm hm=>by have:=Nh (ok.po.2 m hm);have:=Sp.JS 48 (Lu m);omega);have hk:=ok.po.1;rw[cond_true,cond_true];refine(Zf (mk:=λi t=>(t,(i:Int),B,C,D,F,G,H,I,J,K,L,O,P,Q,T,U,V,W,X,Y,A2)) H [] ((λs=>Sp.elem 48 (Lu s))) (λt=>Jq (JI N 48 [t]) λr=>Vm.chk (decide ((A2.length+1)*41<=140737488355328)) (j (B,C,D,F,G,H,I,J,K,L,O,P,Q,T,U,V,W,X,Y,A2++[([50,46,53,46,50,57,46,51,50],false,r)]))) ?_ ?_ N).trans ?_
   .intro i t hi ht k;dsimp only[U22];rw[Int.toNat_natCast];have hv:=ok.po.2 _ (getD_mem [] hi);have hp:=WE N _ hN (hx.po.2 _ (getD_mem [] hi)) hv;have hp2:Sp.elem 6 (Nj (H.getD i []))=Lu (H.getD i []):=rfl;have w:=aH N hN [Lu (H.getD i [])] (by simp) (by rw[JL];have:=Nh hv;omega);rw[JL]at w;simp (disch:=omega) only[JD,hp,hp2,w,JW]
   .intro t k;dsimp only[U22];rw[Vw,cond_false];rfl
   .have w:=aH N hN [(H.map (λs=>Sp.elem 48 (Lu s))).flatten] (by simp) (by rw[JL];omega);rw[JL]at w;rw[w,Js,Oz,Ju];rfl
 obtain⟨A3,hA3⟩: ∃ A,A=A2++KX (decide (((H.length:Nat):Int)>0),false,[50,46,53,46,50,57,46,51,50],false,Aep H):=⟨_,rfl⟩
 rw[<- hA3];have kA3:A3.length<=4:=by rw[hA3,Dp];have:=Oi (decide (((H.length:Nat):Int)>0),false,[50,46,53,46,50,57,46,51,50],false,Aep H);omega
 dsimp only[U20];refine(QV (x:=(B,C,D,F,G,H,I,J,K,L,O,P,Q,T,U,V,W,X,Y,A3++KX (decide (((I.length:Nat):Int)>0),false,[50,46,53,46,50,57,46,51,51],true,Aeh I))) (λj=> ?_)).trans ?_
 .unfold KX;cases hh:decide (((I.length:Nat):Int)>0)with
  | false=>rw[cond_false,cond_false,DT]
  | true =>
   have hl:=Lp (g:=(λm:Bs×Bs=>Sp.elem 48 (Lu m.1++Lu m.2))) (M:=135) (l:=I) (λm hm=>by have:=Nh (ok.ma.2 m hm).1;have:=Nh (ok.ma.2 m hm).2;have:=Sp.JS 48 (Lu m.1++Lu m.2);rw[Dp]at this;omega);have hk:=ok.ma.1;rw[cond_true,cond_true];refine(Zf (mk:=λi t=>(t,(i:Int),B,C,D,F,G,H,I,J,K,L,O,P,Q,T,U,V,W,X,Y,A3)) I ([],[]) ((λm:Bs×Bs=>Sp.elem 48 (Lu m.1++Lu m.2))) (λt=>Jq (JI N 48 [t]) λr=>Vm.chk (decide ((A3.length+1)*41<=140737488355328)) (j (B,C,D,F,G,H,I,J,K,L,O,P,Q,T,U,V,W,X,Y,A3++[([50,46,53,46,50,57,46,51,51],true,r)]))) ?_ ?_ N).trans ?_
   .intro i t hi ht k;dsimp only[U22];rw[Int.toNat_natCast];have hv:=ok.ma.2 _ (getD_mem ([],[]) hi);have hsm:sD (I.getD i ([],[])):=hx.ma _ (getD_mem ([],[]) hi);have hp:=WE N _ hN hsm.1 hv.1;have hq:=WE N _ hN hsm.2 hv.2;have hp2:Sp.elem 6 (Nj (I.getD i ([],[])).1)=Lu (I.getD i ([],[])).1:=rfl;have hq2:Sp.elem 6 (Nj (I.getD i ([],[])).2)=Lu (I.getD i ([],[])).2:=rfl;have w:=aH N hN [Lu (I.getD i ([],[])).1,Lu (I.getD i ([],[])).2] (by simp) (by rw[QG,Dp];have:=Nh hv.1;have:=Nh hv.2;omega);rw[QG]at w;simp (disch:=omega) only[JD,hp,hq,hp2,hq2,w,JW]
   .intro t k;dsimp only[U22];rw[Vw,cond_false];rfl
   .have w:=aH N hN [(I.map (λm:Bs×Bs=>Sp.elem 48 (Lu m.1++Lu m.2))).flatten] (by simp) (by rw[JL];omega);rw[JL]at w;rw[w,Js,Oz,Ju];rfl
 obtain⟨A4,hA4⟩: ∃ A,A=A3++KX (decide (((I.length:Nat):Int)>0),false,[50,46,53,46,50,57,46,51,51],true,Aeh I):=⟨_,rfl⟩
 rw[<- hA4];have kA4:A4.length<=5:=by rw[hA4,Dp];have:=Oi (decide (((I.length:Nat):Int)>0),false,[50,46,53,46,50,57,46,51,51],true,Aeh I);omega
 dsimp only[U20];refine(QV (x:=(B,C,D,F,G,H,I,J,K,L,O,P,Q,T,U,V,W,X,Y,A4++KX (J != -1||K != -1,false,[50,46,53,46,50,57,46,51,54],true,Aa5 J K))) (λj=> ?_)).trans ?_
 .rw[fM s2,fM s3];unfold KX;cases hh:(J != -1||K != -1)with
  | false=>rw[cond_false,cond_false,DT]
  | true =>
   rw[cond_true,cond_true]
   have fin: ∀ a c:Bs,a=(bif J != -1 then Sp.elem 128 (inB J)else [])->c=(bif K != -1 then Sp.elem 129 (inB K)else [])->(Jq (JI N 48 [a++c]) λr=>Vm.chk (decide ((A4.length+1)*41<=140737488355328)) (j (B,C,D,F,G,H,I,J,K,L,O,P,Q,T,U,V,W,X,Y,A4++[([50,46,53,46,50,57,46,51,54],true,r)])))=j (B,C,D,F,G,H,I,J,K,L,O,P,Q,T,U,V,W,X,Y,A4++[([50,46,53,46,50,57,46,51,54],true,Aa5 J K)]):=by
    intro a c ha P
    have h1:a.length<=10:=by
     rw[ha];cases J != -1
     .exact Eb _
     .show(Sp.elem 128 (inB J)).length<=10;omega
    have h2:c.length<=10:=by
     rw[P];cases K != -1
     .exact Eb _
     .show(Sp.elem 129 (inB K)).length<=10;omega
    have w:=aH N hN [a++c] (by simp) (by rw[JL,Dp];omega);rw[JL]at w;rw[w,Js,Oz,Ju];unfold Aa5;rw[<- ha,<- P]
   refine(QV (x:=(bif J != -1 then Sp.elem 128 (inB J)else [],B,C,D,F,G,H,I,J,K,L,O,P,Q,T,U,V,W,X,Y,A4)) (λj=> ?_)).trans ?_
   .cases J != -1 with
    | true=>rw[cond_true,n2,Js];rfl
    | false=>rfl
   dsimp only[U21];obtain⟨a,ha⟩: ∃ a:Bs,a=(bif J != -1 then Sp.elem 128 (inB J)else []):=⟨_,rfl⟩
   rw[<- ha]
   have h1:a.length<=10:=by
    rw[ha];cases J != -1
    .exact Eb _
    .show(Sp.elem 128 (inB J)).length<=10;omega
   refine(QV (x:=(a++(bif K != -1 then Sp.elem 129 (inB K)else []),B,C,D,F,G,H,I,J,K,L,O,P,Q,T,U,V,W,X,Y,A4)) (λj=> ?_)).trans ?_
   .rw[fM s3];cases K != -1 with
    | true=>rw[cond_true,n3,Js,Oz,Ju];rfl
    | false=>rw[cond_false,cond_false,DT]
   dsimp only[U21];exact fin a _ ha rfl
 obtain⟨A5,hA5⟩: ∃ A,A=A4++KX (J != -1||K != -1,false,[50,46,53,46,50,57,46,51,54],true,Aa5 J K):=⟨_,rfl⟩
 rw[<- hA5];have kA5:A5.length<=6:=by rw[hA5,Dp];have:=Oi (J != -1||K != -1,false,[50,46,53,46,50,57,46,51,54],true,Aa5 J K);omega
 dsimp only[U20];refine(QV (x:=(B,C,D,F,G,H,I,J,K,L,O,P,Q,T,U,V,W,X,Y,A5++KX (L != -1,false,[50,46,53,46,50,57,46,53,52],true,Sp.elem 2 (inB L)))) (λj=> ?_)).trans ?_
 .rw[fM s4];unfold KX;cases hh:L != -1 with
  | false=>rw[cond_false,cond_false,DT]
  | true=>rw[cond_true,cond_true,n4,Js,Oz,Ju]
 obtain⟨A6,hA6⟩: ∃ A,A=A5++KX (L != -1,false,[50,46,53,46,50,57,46,53,52],true,Sp.elem 2 (inB L)):=⟨_,rfl⟩
 rw[<- hA6];have kA6:A6.length<=7:=by rw[hA6,Dp];have:=Oi (L != -1,false,[50,46,53,46,50,57,46,53,52],true,Sp.elem 2 (inB L));omega
 dsimp only[U20];refine(QV (x:=(B,C,D,F,G,H,I,J,K,L,O,P,Q,T,U,V,W,X,Y,A6++KX (decide (((O.length:Nat):Int)>0),false,[50,46,53,46,50,57,46,49,55],false,Sp.elem 48 (Np O)))) (λj=> ?_)).trans ?_
 .unfold KX;cases hh:decide (((O.length:Nat):Int)>0)with
  | false=>rw[cond_false,cond_false,DT]
  | true =>
   have hna0:O≠ []:=by intro h;subst h;cases hh
   have hl:=bJ ok.na.2 ok.na.1;have w:=aH N hN [Np O] (by simp) (by rw[JL];omega);rw[JL]at w;rw[cond_true,cond_true,dC N O hN hx.na,jV hna0 ok.na.1 ok.na.2,Js];dsimp only;rw[w,Js,Oz,Ju]
 obtain⟨A7,hA7⟩: ∃ A,A=A6++KX (decide (((O.length:Nat):Int)>0),false,[50,46,53,46,50,57,46,49,55],false,Sp.elem 48 (Np O)):=⟨_,rfl⟩
 rw[<- hA7];have kA7:A7.length<=8:=by rw[hA7,Dp];have:=Oi (decide (((O.length:Nat):Int)>0),false,[50,46,53,46,50,57,46,49,55],false,Sp.elem 48 (Np O));omega
 dsimp only[U20];have hsub:OQ N (Q,T)=some (OU (Q,T)):=Acr N (Q,T) hN hx.pe hx.ex;cases hE:QW (P,(OU (Q,T)).2 != 0,[50,46,53,46,50,57,46,51,48],true,(OU (Q,T)).1)with
 | true =>
  have hany:(OT (B,C,D,F,G,H,I,J,K,L,O,P,Q,T,U,V,W,X,Y)).any QW=true:=FZ.2 ⟨(P,(OU (Q,T)).2 != 0,[50,46,53,46,50,57,46,51,48],true,(OU (Q,T)).1),Hu.2 ⟨8,rfl⟩,hE⟩;rw[hany];unfold QW at hE;rw[Dw]at hE;obtain⟨hE1,hE2⟩:=hE;have hE1:P=true:=hE1;have hE2:((OU (Q,T)).2 != 0)=true:=hE2;have hcon:=ok.con;unfold uD at hcon;rw[hE1,cond_true]at hcon;have h2:(OU (Q,T)).2=2:=by unfold OU at hE2 ⊢;rw[hcon]at hE2 ⊢;exact AoP (by simpa using hE2)
  show(bif P then _ else _)=_;rw[hE1,cond_true,hsub,Js,hE2,cond_true,h2];rfl
 | false =>
 refine(QV (x:=(B,C,D,F,G,H,I,J,K,L,O,P,Q,T,U,V,W,X,Y,A7++KX (P,(OU (Q,T)).2 != 0,[50,46,53,46,50,57,46,51,48],true,(OU (Q,T)).1))) (λj=> ?_)).trans ?_
 .unfold KX;cases hh:P with
  | false=>rw[cond_false,cond_false,DT]
  | true =>rw[hh,QW,ER]at hE;have hE:((OU (Q,T)).2 != 0)=false:=hE;rw[cond_true,cond_true,hsub,Js,hE,cond_false,Oz,Ju]
 obtain⟨A8,hA8⟩: ∃ A,A=A7++KX (P,(OU (Q,T)).2 != 0,[50,46,53,46,50,57,46,51,48],true,(OU (Q,T)).1):=⟨_,rfl⟩
 rw[<- hA8];have kA8:A8.length<=9:=by rw[hA8,Dp];have:=Oi (P,(OU (Q,T)).2 != 0,[50,46,53,46,50,57,46,51,48],true,(OU (Q,T)).1);omega
 dsimp only[U20];refine(QV (x:=(B,C,D,F,G,H,I,J,K,L,O,P,Q,T,U,V,W,X,Y,A8++KX (!(U==[]),false,[50,46,53,46,50,57,46,49,52],false,Sp.elem 4 U))) (λj=> ?_)).trans ?_
 .unfold KX;cases hh:(!(U==[]))with
  | false=>rw[cond_false,cond_false,DT]
  | true =>have hk:=ok.sk;have w:JI N 4 [U]=_:=RN N 4 [U] (by omega) (by omega) hN (by simp) (by rw[JL];omega);rw[JL]at w;rw[cond_true,cond_true,w,Js,Oz,Ju]
 obtain⟨A9,hA9⟩: ∃ A,A=A8++KX (!(U==[]),false,[50,46,53,46,50,57,46,49,52],false,Sp.elem 4 U):=⟨_,rfl⟩
 rw[<- hA9];have kA9:A9.length<=10:=by rw[hA9,Dp];have:=Oi (!(U==[]),false,[50,46,53,46,50,57,46,49,52],false,Sp.elem 4 U);omega
 dsimp only[U20];refine(QV (x:=(B,C,D,F,G,H,I,J,K,L,O,P,Q,T,U,V,W,X,Y,A9++KX (!(V==[]),false,[50,46,53,46,50,57,46,51,53],false,Sp.elem 48 (Sp.elem 128 V)))) (λj=> ?_)).trans ?_
 .unfold KX;cases hh:(!(V==[]))with
  | false=>rw[cond_false,cond_false,DT]
  | true =>have hk:=ok.ak;have he:=Sp.JS 128 V;have w:JI N 128 [V]=_:=RN N 128 [V] (by omega) (by omega) hN (by simp) (by rw[JL];omega);have w2:=aH N hN [Sp.elem 128 V] (by simp) (by rw[JL];omega);rw[JL]at w w2;rw[cond_true,cond_true,w,Js,w2,Js,Oz,Ju]
 obtain⟨A10,hA10⟩: ∃ A,A=A9++KX (!(V==[]),false,[50,46,53,46,50,57,46,51,53],false,Sp.elem 48 (Sp.elem 128 V)):=⟨_,rfl⟩
 rw[<- hA10];have kA10:A10.length<=11:=by rw[hA10,Dp];have:=Oi (!(V==[]),false,[50,46,53,46,50,57,46,51,53],false,Sp.elem 48 (Sp.elem 128 V));omega
 dsimp only[U20];have hp1:MP N W=some (KP W):=XX N W hN hx.pt;have hp2:MP N X=some (KP X):=XX N X hN hx.fr;have hq1:W≠ []->(KP W).2≠0->(KP W).2=2:=λh h2=>Apb h ok.pt h2;have hq2:X≠ []->(KP X).2≠0->(KP X).2=2:=λh h2=>Apb h ok.fr h2;refine(Uj (S:=List Ex) (R:=Int) (mk:=λi s=>((i:Int),B,C,D,F,G,H,I,J,K,L,O,P,Q,T,U,V,W,X,Y,[W,X],s)) [(decide (((W.length:Nat):Int)>0),(KP W).2 != 0,[50,46,53,46,50,57,46,51,49],false,(KP W).1),(decide (((X.length:Nat):Int)>0),(KP X).2 != 0,[50,46,53,46,50,57,46,52,54],false,(KP X).1)] noX (λi s=>s.length<=11+i) (λr s=>bif QW r then .inl 2 else .inr (s++KX r)) (λe=>some ([],e)) (λs=>some (s++Y,0)) ?_ ?_ ?_ N A10 kA10 (by show 2<N;omega)).trans ?_
 .intro i s hi hI k;have hi:i<2:=hi;have hI:s.length<=11+i:=hI;dsimp only[U22];rw[Vx,cond_true,Sv,Ju];rcases(by omega:i=0\/i=1)with rfl | rfl
  .show Vm.chk true (Vm.chk true (bif (((W.length:Nat):Int)==0)then k (i64.wrap (((0:Nat):Int)+1),B,C,D,F,G,H,I,J,K,L,O,P,Q,T,U,V,W,X,Y,[W,X],s)else Jq (MP N W) λr249=>bif r249.2 != 0 then some ([],r249.2)else Vm.chk true (Vm.chk true (Vm.chk true (Vm.chk (decide ((s.length+1)*41<=140737488355328)) (k (i64.wrap (((0:Nat):Int)+1),B,C,D,F,G,H,I,J,K,L,O,P,Q,T,U,V,W,X,Y,[W,X],s++[([50,46,53,46,50,57,46,51,49],false,r249.1)])))))))=Tt (bif QW (decide (((W.length:Nat):Int)>0),(KP W).2 != 0,[50,46,53,46,50,57,46,51,49],false,(KP W).1)then .inl 2 else .inr (s++KX (decide (((W.length:Nat):Int)>0),(KP W).2 != 0,[50,46,53,46,50,57,46,51,49],false,(KP W).1))) _ _;unfold QW KX;rw[len0,Y3,hp1,Js,Oz];cases he:W.isEmpty with
   | true=>rw[ED];simp only[Ju,cond_true,cond_false,EW,DT];rfl
   | false =>
    have hne:W≠ []:=by intro h;subst h;cases he
    rw[EC];simp only[Ju,cond_true,cond_false,ER];cases hz:(KP W).2 != 0 with
    | true=>rw[hq1 hne (by simpa using hz)];rfl
    | false=>rfl
  .show Vm.chk true (Vm.chk true (bif (((X.length:Nat):Int)==0)then k (i64.wrap (((1:Nat):Int)+1),B,C,D,F,G,H,I,J,K,L,O,P,Q,T,U,V,W,X,Y,[W,X],s)else Jq (MP N X) λr249=>bif r249.2 != 0 then some ([],r249.2)else Vm.chk true (Vm.chk true (Vm.chk true (Vm.chk (decide ((s.length+1)*41<=140737488355328)) (k (i64.wrap (((1:Nat):Int)+1),B,C,D,F,G,H,I,J,K,L,O,P,Q,T,U,V,W,X,Y,[W,X],s++[([50,46,53,46,50,57,46,52,54],false,r249.1)])))))))=Tt (bif QW (decide (((X.length:Nat):Int)>0),(KP X).2 != 0,[50,46,53,46,50,57,46,52,54],false,(KP X).1)then .inl 2 else .inr (s++KX (decide (((X.length:Nat):Int)>0),(KP X).2 != 0,[50,46,53,46,50,57,46,52,54],false,(KP X).1))) _ _;unfold QW KX;rw[len0,Y3,hp2,Js,Oz];cases he:X.isEmpty with
   | true=>rw[ED];simp only[Ju,cond_true,cond_false,EW,DT];rfl
   | false =>
    have hne:X≠ []:=by intro h;subst h;cases he
    rw[EC];simp only[Ju,cond_true,cond_false,ER];cases hz:(KP X).2 != 0 with
    | true=>rw[hq2 hne (by simpa using hz)];rfl
    | false=>rfl
 .intro i s s' hi hI he;have hI:s.length<=11+i:=hI;generalize ([(decide (((W.length:Nat):Int)>0),(KP W).2 != 0,[50,46,53,46,50,57,46,51,49],false,(KP W).1),(decide (((X.length:Nat):Int)>0),(KP X).2 != 0,[50,46,53,46,50,57,46,52,54],false,(KP X).1)]:List (Bool×Bool×Ex)).getD i noX=r at he;cases B:QW r with
  | true=>rw[B]at he;cases he
  | false =>rw[B]at he;injection he with he;subst he;have:=Oi r;show(s++KX r).length<=11+(i+1);rw[Dp];omega
 .intro s k hI;have hI:s.length<=11+2:=hI;dsimp only[U22];rw[Vw (by show(2:Int)<=((2:Nat):Int);omega),cond_false];dsimp only[U20];rw[Oz,Ju]
 .rw[NG];have hany:(OT (B,C,D,F,G,H,I,J,K,L,O,P,Q,T,U,V,W,X,Y)).any QW=(QW (P,(OU (Q,T)).2 != 0,[50,46,53,46,50,57,46,51,48],true,(OU (Q,T)).1)||(QW (decide (((W.length:Nat):Int)>0),(KP W).2 != 0,[50,46,53,46,50,57,46,51,49],false,(KP W).1)||QW (decide (((X.length:Nat):Int)>0),(KP X).2 != 0,[50,46,53,46,50,57,46,52,54],false,(KP X).1))):=by unfold OT QW;simp
  have hflat:(OT (B,C,D,F,G,H,I,J,K,L,O,P,Q,T,U,V,W,X,Y)).flatMap KX=A10++(KX (decide (((W.length:Nat):Int)>0),(KP W).2 != 0,[50,46,53,46,50,57,46,51,49],false,(KP W).1)++KX (decide (((X.length:Nat):Int)>0),(KP X).2 != 0,[50,46,53,46,50,57,46,52,54],false,(KP X).1)):=by rw[hA10,hA9,hA8,hA7,hA6,hA5,hA4,hA3,hA2,hA1,<- hl0];unfold OT;simp only[Fq,List.flatMap_nil,DT,Ea]
  rw[hany,hflat,hE,EL];cases QW (decide (((W.length:Nat):Int)>0),(KP W).2 != 0,[50,46,53,46,50,57,46,51,49],false,(KP W).1)with
  | true=>rfl
  | false =>
   rw[cond_false,Sum.elim_inr,NG];cases QW (decide (((X.length:Nat):Int)>0),(KP X).2 != 0,[50,46,53,46,50,57,46,52,54],false,(KP X).1)with
   | true=>rfl
   | false =>rw[cond_false,Sum.elim_inr];show some ((A10++KX (decide (((W.length:Nat):Int)>0),(KP W).2 != 0,[50,46,53,46,50,57,46,51,49],false,(KP W).1)++KX (decide (((X.length:Nat):Int)>0),(KP X).2 != 0,[50,46,53,46,50,57,46,52,54],false,(KP X).1))++Y,(0:Int))=some ((A10++(KX (decide (((W.length:Nat):Int)>0),(KP W).2 != 0,[50,46,53,46,50,57,46,51,49],false,(KP W).1)++KX (decide (((X.length:Nat):Int)>0),(KP X).2 != 0,[50,46,53,46,50,57,46,52,54],false,(KP X).1)))++Y,0);rw[Ea A10]
abbrev RnT:Type:=List (Bs×Int×Bs)
abbrev GnT:Type:=Int×Bs×List RnT
abbrev PtT:Type:=List GnT×Int×Bool×List RnT
abbrev Y8T:Type:=Int×Int×Int×Int×Int×Int×Int×Int
abbrev HsT:Type:=Int×Int×Int×Int×Int×Int×Int×Int×List Int×Int
abbrev TrT:Type:=List (List Bs)×Bs×Bs×Int
abbrev SgT:Type:=Bs×Int×Int×List TrT
def Tot {α :Type} (Q: α ->Prop) (o:Option α):Prop:= ∃ v,o=some v/\Q v
def Tot.chk {α :Type} {Q: α ->Prop} {c:Bool} {k:Option α} (hc:c=true) (h:Tot Q k):Tot Q (Vm.chk c k):=by rw[hc];exact h
def Tot.call {α β :Type} [Inhabited α] {P: α ->Prop} {Q: β ->Prop} {x:Option α} {f: α ->Option β} (h:Tot P x) (hf: ∀ v,P v->Tot Q (f v)):Tot Q (Jq x f):=by obtain⟨v,rfl,hv⟩:=h;exact hf v hv
def Tot.bif {α :Type} {Q: α ->Prop} {b:Bool} {x y:Option α} (h1:b=true->Tot Q x) (h2:b=false->Tot Q y):Tot Q (bif b then x else y):=by
 cases b with
 | true=>exact h1 rfl
 | false=>exact h2 rfl
def Tot.some {α :Type} {Q: α ->Prop} {v: α} (h:Q v):Tot Q (some v):=⟨v,rfl,h⟩
def Tot.AiF {α :Type} {o:Option α} (h:o.isSome=true):Tot (λ_=>True) o:=by
 cases o with
 | none=>cases h
 | some v=>exact⟨v,rfl,trivial⟩
def Tot.mono {α :Type} {P Q: α ->Prop} {o:Option α} (h:Tot P o) (hq: ∀ v,P v->Q v):Tot Q o:=let ⟨v,e,p⟩:=h;⟨v,e,hq v p⟩
def AnJ (l:List Int):l=(List.range l.length).map λi=>l.getD i 0:=by
 apply List.ext_getElem
 .simp
 .intro i h1 h2;simp [Dn,h1]
def ApC (M:Nat) (p0:Y8T) (f:Nat->Int):(LY (M+70) p0 ((List.range 64).map f)).isSome=true:=by kernel_rfl
def Aie {N:Nat} (hN:70<=N) (p0:Y8T) {l:List Int} (hl:l.length=64):Tot (λ_=>True) (LY N p0 l):=by obtain⟨M,rfl⟩:=Ir hN;have h:=ApC M p0 λi=>l.getD i 0;rw[<- hl,<- AnJ]at h;exact Tot.AiF h
def TL {α :Type} (l:List α) (a b:Nat) (h:b<=l.length:=by omega):(J4 l a b).length=b - a:=by simp [J4];omega
abbrev AgE (r:HsT):List Int:=r.2.2.2.2.2.2.2.2.1
def Ade (N:Nat):Tot (λ_=>True) (VI N):=Tot.AiF (by kernel_rfl)
def AtW {N:Nat} (hN:70<=N) (hM:N<=1000000000) (p0:HsT) (h8:(AgE p0).length<64) (p1:Bs) (hl:p1.length+64<N):Tot (λr=>(AgE r).length<64) (NJ N p0 p1):=by
 unfold NJ;try simp -zeta only[Ap]
 refine Tot.bif (λ_=>Tot.some h8) λ_=> ?_;refine Ai9 (λx=>x.2.2.2.2.2.2.2.2.1.length<64) (Tot _) (λj hj=>Tot.bif (λ_=>(Ade N).call λv _=>hj _ h8) λ_=>hj _ h8) ?_;rintro ⟨b0,b1,b2,b3,b4,b5,b6,b7,b8,b9⟩ hb;have hb:b8.length<64:=hb;dsimp only[U10];refine Tot.chk (Dk) (Tot.chk (Dk (by rw[D5];omega)) ?_);refine S9 (λx=>x.1.length<N) (λx=>x.1.length) (Tot _) ?_ N _ (by show(b8++p1.map _).length<N;rw[Dp,D5];omega) (by show(b8++p1.map _).length<N;rw[Dp,D5];omega);rintro ⟨t,c0,c1,c2,c3,c4,c5,c6,c7,c8,c9⟩ hI k hk;have hI:t.length<N:=hI;dsimp only[U11];refine Tot.bif (λh=> ?_) λh=> ?_
 .have h:=DC h;refine Tot.chk (Dk) ((Aie hN _ (by rw[TL _ _ _])).call λv _=>Tot.chk (Dk) (hk _ ?_ ?_))
  .show(J4 t 64 t.length).length<N;rw[TL _ _ _ (DD _)];omega
  .show(J4 t 64 t.length).length<t.length;rw[TL _ _ _ (DD _)];omega
 .have h:=E8 h;refine Tot.chk (Dk) (Tot.some ?_);show t.length<64;omega
def Ay1 (n:Nat):(n:Int).tmod 64=((n % 64:Nat):Int):=by rw[Fh (by omega)];omega
def Aw0 {N:Nat} (hN:150<=N) (p0:HsT) (h8:(AgE p0).length<64):Tot (λr=>r.1.length=32) (OH N p0):=by
 unfold OH;try simp -zeta only[Ap]
 refine(Ade N).call λv _=>Tot.chk rfl ?_;refine Ai9 (λx=>x.2.2.2.2.2.2.2.2.2.2.2.1.length=8/\x.2.2.2.2.2.2.2.2.2.2.2.2.length<64) (Tot _) (λj hj=>Tot.bif (λ_=>Tot.chk (Dk (by have:p0.2.2.2.2.2.2.2.2.1.length<64:=h8;omega)) (hj _ ⟨rfl,h8⟩)) λ_=>hj _ ⟨rfl,by show 0<64;omega⟩) ?_;rintro ⟨t,b0,b1,b2,b3,b4,b5,b6,b7,b8,b9,l1,l2⟩ ⟨h1,h2⟩;have h1:l1.length=8:=h1;have h2:l2.length<64:=h2;dsimp only[U13];refine Tot.chk (Dk) ?_;refine S9 (λx=>x.2.2.2.2.2.2.2.2.2.2.1.length=8/\x.2.2.2.2.2.2.2.2.2.2.2.length<=120) (λx=>120 - x.2.2.2.2.2.2.2.2.2.2.2.length) (Tot _) ?_ N _ ⟨h1,by show(l2++_).length<=120;simp;omega⟩ (by show 120 - _<N;omega);rintro ⟨b0,b1,b2,b3,b4,b5,b6,b7,b8,b9,l1,l2⟩ ⟨h1,h2⟩ k hk;have h1:l1.length=8:=h1;have h2:l2.length<=120:=h2;dsimp only[U12];rw[Ay1];refine Tot.bif (λh=> ?_) λh=> ?_
 .have h: ¬((l2.length % 64:Nat):Int)=56:=EM.1 h;refine Tot.chk (Dk) (hk _ ⟨h1,?_⟩ ?_)
  .show(l2++[0]).length<=120;simp;omega
  .show 120 - (l2++[0]).length<120 - l2.length;simp;omega
 .have h:((l2.length % 64:Nat):Int)=56:=by simpa using h
  clear k hk;refine S9 (λx=>x.2.2.2.2.2.2.2.2.2.2.2.1.length=8/\ -1<=x.1/\x.1<=7/\((x.2.2.2.2.2.2.2.2.2.2.2.2.length:Int)+x.1+1) % 64=0/\(x.2.2.2.2.2.2.2.2.2.2.2.2.length:Int)+x.1+1<=128) (λx=>(x.1+1).toNat) (Tot _) ?_ N _ ⟨h1,by show(-1:Int)<=7;omega,by show(7:Int)<=7;omega,by show((l2.length:Int)+7+1) % 64=0;omega,by show(l2.length:Int)+7+1<=128;omega⟩ (by show((7:Int)+1).toNat<N;omega);rintro ⟨t,b0,b1,b2,b3,b4,b5,b6,b7,b8,b9,l1,l2⟩ ⟨h1,h3,h4,h5,h6⟩ k hk;have h1:l1.length=8:=h1;have h3: -1<=t:=h3;have h4:t<=7:=h4;have h5:((l2.length:Int)+t+1) % 64=0:=h5;have h6:(l2.length:Int)+t+1<=128:=h6;dsimp only[U13];refine Tot.bif (λh=> ?_) λh=> ?_
  .have h:=DC h;refine Tot.chk (Dk (by rw[wu64 (x:=t) (by omega),wu64 (by omega)];omega)) (Tot.chk (Dk) (hk _ ⟨h1,?_⟩ ?_))
   .show -1<=i64.wrap (t - 1)/\i64.wrap (t - 1)<=7/\(((l2++[_]).length:Int)+i64.wrap (t - 1)+1) % 64=0/\((l2++[_]).length:Int)+i64.wrap (t - 1)+1<=128;rw[w64];simp;omega
   .show(i64.wrap (t - 1)+1).toNat<(t+1).toNat
    rw[w64];omega
  .have h:=E8 h;have ht:t= -1:=by omega
   subst ht;clear k hk;refine S9 (λx=>x.2.2.2.2.2.2.2.2.2.2.2.length=8/\x.1.length % 64=0/\x.1.length<=128) (λx=>x.1.length) (Tot _) ?_ N _ ⟨h1,by show l2.length % 64=0;omega,by show l2.length<=128;omega⟩ (by show l2.length<N;omega);rintro ⟨t,b0,b1,b2,b3,b4,b5,b6,b7,b8,b9,l1⟩ ⟨h1,h2,h3⟩ k hk;have h1:l1.length=8:=h1;have h2:t.length % 64=0:=h2;have h3:t.length<=128:=h3;dsimp only[U12];refine Tot.bif (λh=> ?_) λh=> ?_
   .have h:=DC h;refine Tot.chk (by rw[h1];rfl) (Tot.chk (Dk) ((Aie (by omega) _ (by rw[TL _ _ _])).call λv _=>Tot.chk (by rw[h1];rfl) (Tot.chk (Dk) (hk _ ⟨rfl,?_⟩ ?_))))
    .show(J4 t 64 t.length).length % 64=0/\(J4 t 64 t.length).length<=128;rw[TL _ _ _ (DD _)];omega
    .show(J4 t 64 t.length).length<t.length;rw[TL _ _ _ (DD _)];omega
   .clear k hk h;dsimp only[U11];refine Tot.chk (by rw[h1];rfl) ?_;refine S9 (λx=>0<=x.1/\x.1<=8/\(x.2.2.2.2.2.2.2.2.2.2.2.length:Int)=4*x.1/\x.2.2.2.2.2.2.2.2.2.2.2.all Vm.isByte=true) (λx=>(8 - x.1).toNat) (Tot _) ?_ N _ ⟨by show(0:Int)<=0;omega,by show(0:Int)<=8;omega,rfl,rfl⟩ (by show((8:Int) - 0).toNat<N;omega);rintro ⟨t,b0,b1,b2,b3,b4,b5,b6,b7,b8,b9,l⟩ ⟨h1,h2,h3,h4⟩ k hk;have h1:0<=t:=h1;have h2:t<=8:=h2;have h3:(l.length:Int)=4*t:=h3;have h4:l.all Vm.isByte=true:=h4;dsimp only[U12];refine Tot.bif (λh=> ?_) λh=> ?_
    .have h:=DC h;refine Tot.chk (Dk) (Tot.chk (Dk) (Tot.chk (Dk) (hk _ ?_ ?_)))
     .show 0<=i64.wrap (t+1)/\i64.wrap (t+1)<=8/\((l++[_,_,_,_]).length:Int)=4*i64.wrap (t+1)/\(l++[_,_,_,_]).all Vm.isByte=true;rw[w64];refine⟨by omega,by omega,by simp;omega,?_⟩;rw[I5,h4];simp only[List.all_cons,OZ,List.all_nil,Gi]
     .show(8 - i64.wrap (t+1)).toNat<(8 - t).toNat
      rw[w64];omega
    .have h:=E8 h;dsimp only[U11];refine Tot.chk h4 (Tot.some ?_);show(l.map Vm.byteOf).length=32;rw[D5];omega
def AuP {N:Nat} (hN:150<=N) (hM:N<=1000000000) {l:List Bs} (hl:l.length<N) (hs: ∀ s∈l,s.length+64<N):Tot (λr=>r.length=32) (X7 N l):=by
 unfold X7;try simp -zeta only[Ap]
 refine Tot.call (P:=λr=>(AgE r).length<64) ⟨_,rfl,by show 0<64;omega⟩ λv hv=> ?_;refine S9 (λx=>0<=x.1/\x.1<=(l.length:Int)/\(AgE x.2).length<64) (λx=>((l.length:Int) - x.1).toNat) (Tot _) ?_ N _ ⟨by show(0:Int)<=0;omega,by show(0:Int)<=l.length;omega,hv⟩ (by show((l.length:Int) - 0).toNat<N;omega);rintro ⟨t,b0,b1,b2,b3,b4,b5,b6,b7,b8,b9⟩ ⟨h1,h2,h3⟩ k hk;have h1:0<=t:=h1;have h2:t<=(l.length:Int):=h2;dsimp only[U11];refine Tot.bif (λh=> ?_) λh=> ?_
 .have h:=DC h;have hlt:t.toNat<l.length:=by omega
  refine Tot.chk (Dk h1) (Tot.chk (Dk h) ((AtW (by omega) hM _ h3 _ (by rw[getD_lt _ _ _ hlt];exact hs _ (Ej hlt))).call λv hv=>hk _ ?_ ?_))
  .show 0<=i64.wrap (t+1)/\i64.wrap (t+1)<=(l.length:Int)/\(AgE v).length<64;rw[w64];exact⟨by omega,by omega,hv⟩
  .show((l.length:Int) - i64.wrap (t+1)).toNat<((l.length:Int) - t).toNat
   rw[w64];omega
 .dsimp only[U10];exact(Aw0 hN _ h3).call λv hv=>Tot.some hv
def ArL {N:Nat} (hN:150<=N) (hM:N<=1000000000) {l:List Bs} (hl:l.length<N) (hs: ∀ s∈l,s.length+64<N):Tot (λr=>r.length=16) (LQ N l):=by
 unfold LQ;try simp -zeta only[Ap]
 refine(AuP hN hM hl hs).call λv hv=>Tot.chk (Dk) (Tot.some ?_);rw[TL _ _ _]
def b4P (p:Int):Bs:=List.map Vm.byteOf ([u8.wrap (p.fdiv (16777216)),u8.wrap (p.fdiv (65536)),u8.wrap (p.fdiv (256)),u8.wrap p]:List Int)
def b1P (p:Int):Bs:=List.map Vm.byteOf ([u8.wrap p]:List Int)
def AeI (N:Nat) (p:Int):rF N p=some (b4P p):=by
 unfold rF;try simp -zeta only[Ap]
 rw[JV _ (by simp [OZ])];rfl
def AeH (N:Nat) (p:Int):rE N p=some (b1P p):=by
 unfold rE;try simp -zeta only[Ap]
 rw[JV _ (by simp [OZ])];rfl
def AfJ (N:Nat) (p:Int):bP N p=some (b4P p):=AeI N p
def hS (N:Nat) (l:List Bs):Bs:=(LQ N l).getD []
structure Hok (N:Nat) (l:List Bs):Prop where
 n:150<=N
 m:N<=1000000000
 len:l.length<N
 each: ∀ s∈l,s.length+64<N
def lV {N:Nat} {l:List Bs} (h:Hok N l):LQ N l=some (hS N l)/\(hS N l).length=16:=by obtain⟨v,e,hv⟩:=ArL h.n h.m h.len h.each;unfold hS;rw[e];exact⟨rfl,hv⟩
def wk (f:Int->Bs->Bs) (a:Int):Nat->Bs->Bs
 | 0,x=>x
 | n+1,x=>wk f (a+1) n (f a x)
def AyB (f:Int->Bs->Bs): ∀(n:Nat) (a:Int) (m:Nat) (x:Bs),wk f a (n+m) x=wk f (a+n) m (wk f a n x):=by
 intro n
 induction n with
 | zero=>intro a m x;simp [wk]
 | succ n ih =>intro a m x;rw[show n+1+m=(n+m)+1 by omega];show wk f (a+1) (n+m) (f a x)=wk f (a+((n+1:Nat):Int)) m (wk f (a+1) n (f a x));rw[ih];congr 1;omega
def Anj {f:Int->Bs->Bs} (hf: ∀ t x,x.length=16->(f t x).length=16): ∀(n:Nat) (a:Int) (x:Bs),x.length=16->(wk f a n x).length=16:=by
 intro n
 induction n with
 | zero=>intro a x h;exact h
 | succ n ih=>intro a x h;exact ih _ _ (hf _ _ h)
def st (N:Nat) (p0:Bs) (p1 p2 t:Int) (x:Bs):Bs:=hS N [[67],p0,b4P p1,b1P p2,b1P t,x]
structure Big (N:Nat):Prop where
 n:2000<=N
 m:N<=1000000000
def hok {N:Nat} (h:Big N) {l:List Bs} (hl:l.length<=100) (hs:l.all (λs=>decide (s.length<=1000))=true):Hok N l:=by have h1:=h.n;refine⟨by omega,h.m,by omega,λs hm=> ?_⟩;have:=DC (DI.1 hs s hm);omega
def Arw {N:Nat} (h:Big N) {p0:Bs} (h0:p0.length<=1000) (p1 p2 t:Int) {x:Bs} (hx:x.length=16):LQ N [[67],p0,b4P p1,b1P p2,b1P t,x]=some (st N p0 p1 p2 t x)/\(st N p0 p1 p2 t x).length=16 :=
 lV (hok h (by simp) (by simp [h0,hx,b4P,b1P]))
def walk_eq {N:Nat} (h:Big N) {p0:Bs} (h0:p0.length<=1000) (p1 p2:Int) {a b:Int} (ha:0<=a) (hab:a<=b) (hb:b<=15) {x:Bs} (hx:x.length=16):ZB N p0 p1 p2 a b x=some (wk (st N p0 p1 p2) a (b - a).toNat x):=by
 unfold ZB;have hn:=h.n;refine Nc (X:=Bs×Int) (λx=>x.1.length=16/\0<=x.2/\x.2<=b) (λx=>(b - x.2).toNat) (λx=>some (wk (st N p0 p1 p2) x.2 (b - x.2).toNat x.1)) ?_ N _ ⟨hx,ha,hab⟩ (by show(b - a).toNat<N;omega);rintro ⟨x,t⟩ ⟨h1,h2,h3⟩ k hk;have h1:x.length=16:=h1;have h2:0<=t:=h2;have h3:t<=b:=h3;dsimp only[U2];by_cases hlt:t<b
 .rw[Dk hlt,cond_true,AeI,Js,AeH,Js,AeH,Js];obtain⟨e1,e2⟩:=Arw h h0 p1 p2 t h1;rw[e1,Js,w64];refine(hk _ ⟨e2,by show 0<=t+1;omega,by show t+1<=b;omega⟩ (by show(b - (t+1)).toNat<(b - t).toNat;omega)).trans ?_;show some (wk _ (t+1) (b - (t+1)).toNat _)=some (wk _ t (b - t).toNat x);rw[show(b - t).toNat=(b - (t+1)).toNat+1 by omega];rfl
 .rw[Dq hlt,cond_false];rw[show(b - t).toNat=0 by omega];rfl
def tH {ρ :Type} {B:Int×List Bs->(Int×List Bs->Option ρ)->(List Bs->Option ρ)->Option ρ} {kx:List Bs->Option ρ} (n:Nat) (g:Nat->Bs)
 (h: ∀(i:Nat) (acc:List Bs) (k:Int×List Bs->Option ρ),i<n->acc.length=i->B ((i:Int),acc) k kx=k ((i:Int)+1,acc++[g i]))
 (hend: ∀(acc:List Bs) (k:Int×List Bs->Option ρ),acc.length=n->B ((n:Int),acc) k kx=kx acc) {N:Nat} (hN:n<N:=by omega):Jy B N (0,[]) kx=kx ((List.range n).map g):=by
 refine Nc (λx=>x.1=(x.2.length:Int)/\x.2.length<=n/\x.2=(List.range x.2.length).map g) (λx=>n - x.2.length) (λ_=>kx ((List.range n).map g)) ?_ N _ ⟨rfl,Eb _,rfl⟩ (by show n - 0<N;omega);rintro ⟨t,acc⟩ ⟨h1,h2,h3⟩ k hk;have h1:t=(acc.length:Int):=h1;have h2:acc.length<=n:=h2;have h3:acc=(List.range acc.length).map g:=h3;subst h1;by_cases hl:acc.length<n
 .rw[h acc.length acc k hl rfl];refine hk _ ⟨by show(acc.length:Int)+1=((acc++[g acc.length]).length:Int);simp,by show(acc++[g acc.length]).length<=n;simp;omega,?_⟩ (by show n - (acc++[g acc.length]).length<n - acc.length;simp;omega);show acc++[g acc.length]=(List.range (acc++[g acc.length]).length).map g;rw[Dp,List.length_singleton,H7,Fb,<- h3];rfl
 .have e:acc.length=n:=by omega
  have h4:=hend acc k e;rw[<- e]at h4;rw[h4,<- e];exact congrArg kx h3
def Arn (N:Nat) (p1:Bs) (p2:Int) (i:Nat):Bs:=hS N [[83],p1,b4P p2,b1P (i:Int)]
def Ya {N:Nat} (h:Big N) {p1:Bs} (h1:p1.length<=1000) (p2:Int) (i:Nat):YE N p1 p2 (i:Int)=some (Arn N p1 p2 i)/\(Arn N p1 p2 i).length=16:=by obtain⟨e1,e2⟩:=lV (N:=N) (l:=[[83],p1,b4P p2,b1P (i:Int)]) (hok h (by simp) (by simp [h1,b4P,b1P]));refine⟨?_,e2⟩;unfold YE;rw[AeI,Js,AeH,Js,e1];rfl
def Anh (N:Nat) (p0 p1:Bs) (p2:Int) (i:Nat):Bs:=wk (st N p0 p2 (i:Int)) 0 15 (Arn N p1 p2 i)
def st_len {N:Nat} (h:Big N) {p0:Bs} (h0:p0.length<=1000) (p1 p2:Int): ∀ t x,x.length=16->(st N p0 p1 p2 t x).length=16:=λt _ hx=>(Arw h h0 p1 p2 t hx).2
def Aao: ∀(l:List Bs),(∀ s∈l,s.length=16)->l.flatten.length=16*l.length:=by
 intro l
 induction l with
 | nil=>intro _;rfl
 | cons a r ih =>intro h;rw[List.flatten_cons,Dp,h a Dy,ih λs hs=>h s (Dz _ hs),List.length_cons];omega
def iN (b:UInt8):Int:=(b.toNat:Int)
def lJ (l:Bs):(l.map iN).map Vm.byteOf=l:=by
 rw[ES]
 conv=>rhs;rw[<- Gf l]
 refine Eu λb _=> ?_;show UInt8.ofNat ((b.toNat:Int)).toNat=b;simp
def AsM (l:Bs):(l.map iN).all Vm.isByte=true:=by rw[DI];intro x hx;obtain⟨b,_,rfl⟩:=DK.1 hx;have:=Ny b;unfold Vm.isByte iN;rw[Dk,Dk];rfl
def join_eq {N:Nat} (h:Big N) {l:List Bs} (hl:l.length<=1000) (h16: ∀ s∈l,s.length=16):kD N l=some l.flatten:=by
 have hn:=h.n;have hf:=Aao l h16;unfold kD;try simp -zeta only[Ap]
 rw[w64 (x:=(l.length:Int)*16),JV _ (Dk),JV _ (Dk),JV _ (Dk)];refine(Nc (X:=Int×List Int) (λx=>0<=x.1/\x.1<=(l.length:Int)/\x.2.length=16*l.length/\x.2.take (16*x.1.toNat)=((l.take x.1.toNat).flatten).map iN) (λx=>((l.length:Int) - x.1).toNat) (λ_=>some l.flatten) ?_ N _ ⟨by show(0:Int)<=0;omega,by show(0:Int)<=l.length;omega,by show(List.replicate _ _).length=_;rw[Ee];omega,by simp⟩ (by show((l.length:Int) - 0).toNat<N;omega));rintro ⟨t,y⟩ ⟨h1,h2,h3,h4⟩ k hk;have h1:0<=t:=h1;have h2:t<=(l.length:Int):=h2;have h3:y.length=16*l.length:=h3;have h4:y.take (16*t.toNat)=((l.take t.toNat).flatten).map iN:=h4;dsimp only[U2];by_cases hlt:t<(l.length:Int)
 .have hi:t.toNat<l.length:=by omega
  have hg:l.getD t.toNat []=l[t.toNat]:=getD_lt _ _ _ hi;have h5:(l.getD t.toNat []).length=16:=by rw[hg];exact h16 _ (Ej hi)
  have h6:l.take (t.toNat+1)=l.take t.toNat++[l.getD t.toNat []]:=by rw[hg,List.take_succ_eq_append_getElem hi]
  have h7:((l.take t.toNat).flatten).length=16*t.toNat:=by rw[Aao _ λs hs=>h16 s (Gm hs),D9];omega
  generalize l.getD t.toNat []=s at h5 h6 ⊢;rw[Dk hlt,cond_true,JV _ (Dk h1),JV _ rfl,w64 (x:=t*16),w64 (x:=t+1),JV _ (Dk),JV _ (Dk),JV _ (Dk),JV _ (Dk)];have e16:(t*16).toNat=16*t.toNat:=by omega
  rw[e16];have h8:(y.take (16*t.toNat)).length=16*t.toNat:=by rw[D9];omega
  refine hk _ ⟨by show 0<=t+1;omega,by show t+1<=_;omega,?_,?_⟩ (by show((l.length:Int) - (t+1)).toNat<((l.length:Int) - t).toNat;omega)
  .show(oI y (16*t.toNat) s).length=_;unfold oI;simp only[Dp,D5,DU,h8];omega
  .show(oI y (16*t.toNat) s).take (16*(t+1).toNat)=((l.take (t+1).toNat).flatten).map iN;rw[show(t+1).toNat=t.toNat+1 by omega,h6,FX,Fb,<- h4];unfold oI;rw[FV (by simp only[Dp,D5,h8];omega)];rw[Fp (by simp only[Dp,D5,h8];omega)];simp [iN]
 .have et:t.toNat=l.length:=by omega
  rw[Dq hlt,cond_false];rw[et,<- h3,E5,E5]at h4;rw[h4];show chk _ _=_;rw[JV _ (AsM _),lJ]
def Ux {n:Nat} {g:Nat->Bs} (h: ∀ i,(g i).length=16): ∀ s∈(List.range n).map g,s.length=16:=by intro s hs;obtain⟨i,_,rfl⟩:=DK.1 hs;exact h i
def Ah5 (N:Nat) (p0:Bs) (p1:Int) (l:List Bs):Bs:=hS N [[76],p0,b4P p1,l.flatten]
def bU {N:Nat} (h:Big N) {p0:Bs} (h0:p0.length<=1000) (p1:Int) {l:List Bs} (hl:l.length<=60) (h16: ∀ s∈l,s.length=16):YD N p0 p1 l=some (Ah5 N p0 p1 l)/\(Ah5 N p0 p1 l).length=16:=by have hf:=Aao l h16;obtain⟨e1,e2⟩:=lV (N:=N) (l:=[[76],p0,b4P p1,l.flatten]) (hok h (by simp) (by simp only[List.all_cons,List.all_nil,hf,GI,Dk h0];rw[Dk (by omega:16*l.length<=1000)];simp [b4P]));refine⟨?_,e2⟩;unfold YD;rw[AeI,Js,join_eq h (by omega) h16,Js,e1];rfl
def jC (N:Nat) {p0:Bs} (h0:p0.length=16) {p:Int} (h1:0<=p) (h2:p<256):RV N p0 p=some 0:=by
 unfold RV;try simp -zeta only[Ap]
 rw[show((p0.length:Int) != 16)=false by rw[h0];rfl,Dq (by omega: ¬ p<0),Dq (by omega: ¬ p>=256)];rfl
def Aab (N:Nat) {p0 p1:Bs} (h0:p0.length=16) (hs:p1.length=32) {p:Int} (h1:0<=p) (h2:p<256):UT N p0 p1 p=some 0:=by
 unfold UT;try simp -zeta only[Ap]
 rw[show((p0.length:Int) != 16)=false by rw[h0];rfl,show((p1.length:Int) != 32)=false by rw[hs];rfl];show Jq (RV N p0 p) _=_;rw[jC N h0 h1 h2];rfl
def AeA {N:Nat} (h:Big N) {p0 p1:Bs} (h0:p0.length<=1000) (hs:p1.length<=1000) (p2:Int) (i:Nat):(Anh N p0 p1 p2 i).length=16:=Anj (st_len h h0 p2 i) _ _ _ (Ya h hs p2 i).2
def pkP (N:Nat) (p0 p1:Bs) (p2:Int):Bs:=Ah5 N p0 p2 ((List.range 35).map (Anh N p0 p1 p2))
def ArJ {N:Nat} (h:Big N) {p0 p1:Bs} (h0:p0.length=16) (hs:p1.length=32) {p2:Int} (h1:0<=p2) (h2:p2<256):fZ N p0 p1 p2=some (pkP N p0 p1 p2,0):=by
 have hn:=h.n;unfold fZ;try simp -zeta only[Ap]
 rw[Aab N h0 hs h1 h2];show Jy (X:=Int×List Bs) (Y:=List Bs) _ N (0,[]) _=_;refine(tH 35 (Anh N p0 p1 p2) (λi acc k hi ha=> ?_) (λacc k ha=> ?_)).trans ?_
 .dsimp only[U2];rw[Dk (by omega:(i:Int)<35),cond_true,(Ya h (by omega) p2 i).1,Js,walk_eq h (by omega) p2 i (F7 0) (by omega) (F7 15) (Ya h (by omega) p2 i).2,Js,JV _ (Dk),w64];rfl
 .rfl
 .rw[(bU h (by omega) p2 (by simp) (Ux (AeA h (by omega) (by omega) p2))).1];rfl
def pk_len {N:Nat} (h:Big N) {p0 p1:Bs} (h0:p0.length=16) (hs:p1.length=32) (p2:Int):(pkP N p0 p1 p2).length=16:=(bU h (by omega) p2 (by simp) (Ux (AeA h (by omega) (by omega) p2))).2
def Dig (l:List Int):Prop:=l.length=35/\ ∀ i,0<=l.getD i 0/\l.getD i 0<=15
def AyC (a:Nat) (h:a<256):0<=J9 .and .u8 (a:Int) 15/\J9 .and .u8 (a:Int) 15<=15:=by
 have: ∀ a:Fin 256,0<=J9 .and .u8 ((a.val:Nat):Int) 15/\J9 .and .u8 ((a.val:Nat):Int) 15<=15:=by decide +kernel
 exact this ⟨a,h⟩
def ArR (a:Nat) (h:a<1024):0<=J9 .and .i64 (a:Int) 15/\J9 .and .i64 (a:Int) 15<=15:=by
 have: ∀ a:Fin 1024,0<=J9 .and .i64 ((a.val:Nat):Int) 15/\J9 .and .i64 ((a.val:Nat):Int) 15<=15:=by decide +kernel
 exact this ⟨a,h⟩
def AuO {l:List Int} (h: ∀ x∈l,0<=x/\x<=15) (i:Nat):0<=l.getD i 0/\l.getD i 0<=15:=by
 by_cases hi:i<l.length
 .rw[getD_lt _ _ _ hi];exact h _ (Ej hi)
 .rw[Dn,Ed (by omega)];simp
def Aqg (a b:Nat):(a:Int).fdiv (b:Int)=((a / b:Nat):Int):=by rw[FD _ (Int.natCast_nonneg b)];rfl
def Apo {N:Nat} (h:Big N) {p:Bs} (hp:p.length=16):Tot (λr=>r.2=0/\Dig r.1) (QI N p):=by
 have hn:=h.n;unfold QI;try simp -zeta only[Ap]
 rw[show((p.length:Int) != 16)=false by rw[hp];rfl];refine Tot.chk (Dk) ?_;show Tot _ (Jy (X:=Int×Int×List Int×List Int) _ N (0,0,p.map iN,[]) _);refine S9 (λx=>0<=x.2.1/\x.2.1<=16/\x.2.2.1=p.map iN/\(x.2.2.2.length:Int)=2*x.2.1/\(∀ d∈x.2.2.2,0<=d/\d<=15)/\0<=x.1/\x.1<=30*x.2.1) (λx=>(16 - x.2.1).toNat) (Tot _) ?_ N _ ⟨by show(0:Int)<=0;omega,by show(0:Int)<=16;omega,rfl,rfl,(λ_ h=>by cases h),by show(0:Int)<=0;omega,by show(0:Int)<=30*0;omega⟩ (by show((16:Int) - 0).toNat<N;omega);rintro ⟨c,t,l,acc⟩ ⟨h1,h2,h3,h4,h5,h6,h7⟩ k hk;have h1:0<=t:=h1;have h2:t<=16:=h2;have h3:l=p.map iN:=h3;have h4:(acc.length:Int)=2*t:=h4;have h5: ∀ d∈acc,0<=d/\d<=15:=h5;have h6:0<=c:=h6;have h7:c<=30*t:=h7;dsimp only[U4];refine Tot.bif (λhb=> ?_) λhb=> ?_
 .have hb:=DC hb;rw[D5,hp]at hb;have hl:t.toNat<l.length:=by rw[h3,D5];omega
  obtain⟨a,ha,hlt⟩: ∃ a:Nat,l.getD t.toNat 0=(a:Int)/\a<256:=by rw[getD_lt _ _ _ hl];have hm:l[t.toNat]∈p.map iN:=h3▸Ej hl;obtain⟨b,_,hb⟩:=DK.1 hm;exact⟨b.toNat,hb.symm,Ny b⟩
  obtain⟨q1,q2⟩:=AyC a hlt;have hd:(a:Int).fdiv 16=((a / 16:Nat):Int):=Aqg a 16;rw[ha,hd];generalize J9 .and .u8 (a:Int) 15=y at q1 q2 ⊢;rw[w64 (x:=((a / 16:Nat):Int)),w64 (x:=y),w64 (x:=15 - ((a / 16:Nat):Int)),w64 (x:=15 - ((a / 16:Nat):Int)+15),w64 (x:=15 - ((a / 16:Nat):Int)+15 - y),w64 (x:=t+1),w64];refine Tot.chk (Dk h1) (Tot.chk (Dk) (Tot.chk (Dk) (Tot.chk (Dk) (hk _ ⟨by show 0<=t+1;omega,by show t+1<=16;omega,h3,?_,?_,?_,?_⟩ ?_))))
  .show((acc++[_,_]).length:Int)=2*(t+1);simp;omega
  .intro d hd;have hd:d∈acc++[((a / 16:Nat):Int),y]:=hd;rcases DN.1 hd with hd | hd
   .exact h5 d hd
   .simp only[D7,Fe,GN]at hd;rcases hd with rfl | rfl<;>omega
  .show 0<=c+(15 - ((a / 16:Nat):Int)+15 - y);omega
  .show c+(15 - ((a / 16:Nat):Int)+15 - y)<=30*(t+1);omega
  .show(16 - (t+1)).toNat<(16 - t).toNat
   omega
 .have hb:=E8 hb;rw[D5,hp]at hb;dsimp only[U2];refine Tot.chk (Dk) (Tot.some ⟨rfl,?_,?_⟩)
  .show(acc++[_,_,_]).length=35;simp;omega
  .obtain⟨n,hn,hn2⟩: ∃ n:Nat,c=(n:Int)/\n<=480:=⟨c.toNat,by omega,by omega⟩
   refine AuO λx hx=> ?_;have hx:x∈acc++[c.fdiv 256,J9 .and .i64 (c.fdiv 16) 15,J9 .and .i64 c 15]:=hx;rcases DN.1 hx with hx | hx
   .exact h5 x hx
   .simp only[D7,Fe,GN]at hx;subst hn;have e1:(n:Int).fdiv 256=((n / 256:Nat):Int):=Aqg n 256;have e2:(n:Int).fdiv 16=((n / 16:Nat):Int):=Aqg n 16;rcases hx with rfl | rfl | rfl
    .rw[e1];omega
    .rw[e2];exact ArR _ (by omega)
    .exact ArR _ (by omega)
def Au7: ∀(l:List Bs) (i:Nat),(∀ s∈l,s.length=16)->i<l.length->J4 l.flatten (16*i) (16*(i+1))=l.getD i []:=by
 intro l
 induction l with
 | nil=>intro i _ h;simp at h
 | cons a r ih =>
  intro i h hi;have ha:a.length=16:=h a Dy;cases i with
  | zero =>show((a++r.flatten).take (16*(0+1))).drop (16*0)=a;rw[FV (by omega),Fp (by omega)];rfl
  | succ i =>have:=ih i (λs hs=>h s (Dz _ hs)) (by simpa using hi);show((a++r.flatten).take (16*(i+1+1))).drop (16*(i+1))=r.getD i [];rw[<- this];rw[show 16*(i+1+1)=a.length+16*(i+1) by omega,List.take_length_add_append,show 16*(i+1)=a.length+16*i by omega,List.drop_length_add_append];rw[ha,show 16+16*i=16*(i+1) by omega];rfl
def Zw (N:Nat) (d:Bs):List Int:=((QI N d).getD ([],0)).1
def lQ {N:Nat} (h:Big N) {d:Bs} (hd:d.length=16):QI N d=some (Zw N d,0)/\Dig (Zw N d):=by obtain⟨⟨l,e⟩,h1,h2,h3⟩:=Apo h hd;have h2:e=0:=h2;subst h2;unfold Zw;rw[h1];exact⟨rfl,h3⟩
def sgP (N:Nat) (p0 p1:Bs) (p2:Int) (d:Bs) (i:Nat):Bs:=wk (st N p0 p2 (i:Int)) 0 ((Zw N d).getD i 0).toNat (Arn N p1 p2 i)
def oN (N:Nat) (p0 p1:Bs) (p2:Int) (d:Bs):Bs:=((List.range 35).map (sgP N p0 p1 p2 d)).flatten
section
variable {N:Nat} (h:Big N) {p0 p1:Bs} (h0:p0.length=16) (hs:p1.length=32) {p2:Int} (h1:0<=p2) (h2:p2<256) {d:Bs} (hd:d.length=16)
include h h0 hs
theorem Acm (p2:Int) (d:Bs) (i:Nat):(sgP N p0 p1 p2 d i).length=16:=Anj (st_len h (by omega) p2 i) _ _ _ (Ya h (by omega) p2 i).2
theorem wU (p2:Int) (d:Bs):(oN N p0 p1 p2 d).length=560:=by unfold oN;rw[Aao _ (Ux (Acm h h0 hs p2 d)),D5,DW]
include h1 h2 hd
theorem Awz:vU N p0 p1 p2 d=some (oN N p0 p1 p2 d,0):=by
 have hn:=h.n;obtain⟨e1,e2,e3⟩:=lQ h hd;unfold vU;try simp -zeta only[Ap]
 rw[Aab N h0 hs h1 h2,Js];rw[show((0:Int) != 0)=false from rfl,cond_false];rw[e1,Js];show Jy (X:=Int×List Bs) (Y:=List Bs) _ N (0,[]) _=_;refine(tH 35 (sgP N p0 p1 p2 d) (λi acc k hi ha=> ?_) (λacc k ha=> ?_)).trans ?_
 .have e4:=e3 i;dsimp only[U2];rw[Dk (by omega:(i:Int)<35),cond_true,JV _ (Dk),JV _ (Dk),(Ya h (by omega) p2 i).1,Js,Int.toNat_natCast,walk_eq h (by omega) p2 i (F7 0) e4.1 e4.2 (Ya h (by omega) p2 i).2,Js,JV _ (Dk),w64,Int.sub_zero];rfl
 .rfl
 .rw[join_eq h (by simp) (Ux (Acm h h0 hs p2 d))];rfl
theorem Apu:Vf N p0 p2 d (oN N p0 p1 p2 d)=some (pkP N p0 p1 p2,0):=by
 have hn:=h.n;obtain⟨e1,e2,e3⟩:=lQ h hd;have hsl:=wU h h0 hs p2 d;unfold Vf;try simp -zeta only[Ap]
 rw[jC N h0 h1 h2,Js];rw[show((0:Int) != 0)=false from rfl,cond_false];rw[e1,Js];show(bif (((oN N p0 p1 p2 d).length:Int) != 560)then _ else _)=_;rw[show(((oN N p0 p1 p2 d).length:Int) != 560)=false by rw[hsl];rfl,cond_false];refine(tH 35 (Anh N p0 p1 p2) (λi acc k hi ha=> ?_) (λacc k ha=> ?_)).trans ?_
 .have e4:=e3 i;have hc:J4 (oN N p0 p1 p2 d) (16*i) (16*(i+1))=sgP N p0 p1 p2 d i:=by unfold oN;rw[Au7 _ _ (Ux (Acm h h0 hs p2 d)) (by simpa using hi),getD_lt _ _ _ (by simpa using hi)];simp
  dsimp only[U2];rw[Dk (by omega:(i:Int)<35),cond_true,w64 (x:=(i:Int)*16),w64 (x:=(i:Int)+1),w64];rw[JV _ (Dk),JV _ (Dk),JV _ (Dk),JV _ (Dk),JV _ (Dk),show((i:Int)*16).toNat=16*i by omega,show(((i:Int)+1)*16).toNat=16*(i+1) by omega,hc,Int.toNat_natCast,walk_eq h (by omega) p2 i e4.1 e4.2 (F7 15) (Acm h h0 hs p2 d i),Js,JV _ (Dk)];congr 3;congr 1;unfold sgP Anh;rw[show(15:Nat)=((Zw N d).getD i 0).toNat+(15 - (Zw N d).getD i 0).toNat by omega,AyB];congr 1;omega
 .rfl
 .rw[(bU h (by omega) p2 (by simp) (Ux (AeA h (by omega) (by omega) p2))).1];rfl
end
structure FI (n:Nat) (s:Bool×List Int):Prop where
 len:s.2.length<=2*n
 byt:s.2.all Vm.isByte=true
structure FJ (n:Nat) (s:List Int):Prop where
 len:s.length<=n
 byt:s.all Vm.isByte=true
section
variable (N:Nat) (hN:1048578<N) {L:List Int} (hL:L.length<=9223372036854775807)
include hL
def Ag8 (a:Att):Prop:=a.1.length<=40/\a.2.2.length<=40
instance (a:Att):Decidable (Ag8 a):=by unfold Ag8;infer_instance
theorem pM {d:List Int×Int} (hd:KJ L d):Ends (λr=>Ag8 r.1/\KJ L r.2) (Wv N d):=by
 unfold Wv;try simp -zeta only[Ap]
 refine JF (nx N hL hd 12 (by omega)) ?_;rintro ⟨r,d'⟩ ⟨h0,h1,h2⟩;dsimp only at h0 h1 h2 ⊢;refine JK (by simp;omega) (JK (by simp;omega) (JK (by simp;omega) (KU ⟨?_,h2⟩)));exact Q7 (by decide) h0 h1
def nmS (n:List (List Att)):Prop:=n.length<=3/\MG n
include hN in
theorem AiD {d:List Int×Int} (hd:KJ L d):Ends (λr=>nmS r.1/\KJ L r.2) (Ui N d):=by
 unfold Ui;try simp only[clR]
 refine JF (nx N hL hd 4 (by omega)) ?_;rintro ⟨r,d1,d2⟩ ⟨h0,h1,h2⟩;dsimp only at h0 h1 h2 ⊢;refine Ou (λx=>0<=x.1/\x.1<4/\KJ L (x.2.1,x.2.2.1)/\((x.2.2.2.length:Int)+x.1<=3)/\MG x.2.2.2) (λx=>x.1.toNat) ?_ N _ ⟨h0,h1,h2,by simp;omega,λr hr=>by cases hr⟩ (by dsimp only;omega);rintro ⟨t,a,b,acc⟩ ⟨g0,g1,g2,g3,g4⟩ k hk;dsimp only[U4]at g0 g1 g2 g3 g4 ⊢;refine Kt (λht=> ?_) (λ_=> ?_)
 .have ht:=DC ht;refine JF (nx N hL g2 5 (by omega)) ?_;rintro ⟨r,e1,e2⟩ ⟨f0,f1,f2⟩;dsimp only at f0 f1 f2 ⊢
  have hw:i64.wrap (1+i64.wrap (r.tdiv 4))<=2/\0<=i64.wrap (1+i64.wrap (r.tdiv 4)):=by
   have:r=0\/r=1\/r=2\/r=3\/r=4:=by omega
   rcases this with rfl | rfl | rfl | rfl | rfl<;>decide
  refine Ou (λx=>0<=x.1/\x.1<=2/\KJ L (x.2.1,x.2.2.1)/\((x.2.2.2.1.length:Int)+x.1<=2)/\(∀ e∈x.2.2.2.1,cZ e)/\x.2.2.2.2=acc) (λx=>x.1.toNat) ?_ N _ ⟨hw.2,hw.1,f2,by simp;omega,(λr hr=>by cases hr),rfl⟩ (by dsimp only;omega);rintro ⟨t',a',b',acc',out⟩ ⟨p0,p1,p2,p3,p4,p5⟩ k' hk';dsimp only[U5]at p0 p1 p2 p3 p4 p5 ⊢;subst p5;refine Kt (λht'=> ?_) (λ_=> ?_)
  .have ht':=DC ht';refine JF (pM N hL p2) ?_;rintro ⟨r,q1,q2⟩ ⟨z0,z1⟩;dsimp only at z0 z1 ⊢
   have taut:(decide ((0:Int)<(acc'.length:Int))||((acc'.length:Nat):Int)==0)=true:=by
    cases acc' with
    | nil=>rfl
    | cons x y=>rw[Dk (by rw[List.length_cons];omega)];rfl
   have mW:(decide (0<acc'.length)||((acc'.length:Nat):Int)==0)=true:=by
    cases acc' with
    | nil=>rfl
    | cons x y=>rw[Dk (by rw[List.length_cons];omega)];rfl
   have hsm:cZ r:=⟨by have:=z0.1;omega,by have:=z0.2;omega⟩
   refine JK (by first | exact taut | exact mW) (JK (by first | exact taut | exact mW) (JK (by first | exact taut | exact mW) ?_));refine Kt (λ_=> ?_) (λ_=> ?_)
   .refine JK (Dk) (hk' _ ⟨?_,?_,z1,?_,?_,rfl⟩ ?_)
    .dsimp only;rw[w64];omega
    .dsimp only;rw[w64];omega
    .dsimp only;rw[w64,Dp];simp;omega
    .intro e he;rcases DN.1 he with he | he
     .exact p4 e he
     .rw[Ec.1 he];exact hsm
    .dsimp only;rw[w64];omega
   .refine hk' _ ⟨?_,?_,z1,?_,p4,rfl⟩ ?_
    .dsimp only;rw[w64];omega
    .dsimp only;rw[w64];omega
    .dsimp only;rw[w64];omega
    .dsimp only;rw[w64];omega
  .dsimp only[U4];refine JK (Dk) (hk _ ⟨?_,?_,p2,?_,?_⟩ ?_)
   .dsimp only;rw[w64];omega
   .dsimp only;rw[w64];omega
   .dsimp only;rw[w64,Dp];simp;omega
   .intro e he;rcases DN.1 he with he | he
    .exact g4 e he
    .rw[Ec.1 he];exact p4
   .dsimp only;rw[w64];omega
 .dsimp only[U3];exact KU ⟨⟨by dsimp only;omega,g4⟩,g2⟩
end
section
variable (N:Nat) (hN:1048578<N) {L:List Int} (hL:L.length<=9223372036854775807)
def nmC (n:List (List Att)):Bool:=decide (n.length<=3)&&n.all λr=>r.all λe=>decide (e.1.length<=40)&&decide (e.2.2.length<=40)
def nmO (o:Option (List (List Att))):Bool:=match o with
 | some n=>nmC n
 | none=>false
theorem AxZ {n:List (List Att)} (h:nmC n=true):nmS n:=by unfold nmC at h;rw[Dw,D6]at h;refine⟨h.1,λr hr e he=> ?_⟩;have:=DI.1 (DI.1 h.2 r hr) e he;rw[Dw,D6,D6]at this;exact⟨by omega,by omega⟩
theorem Ajc (M:Nat): ∀ k:Fin 16,nmO (TS (M+70) (k.val:Int))=true:=DC (by kernel_rfl)
include hN in
theorem Ag9 {k:Int} (h0:0<=k) (h1:k<16):Ends nmS (TS N k):=by
 obtain⟨M,rfl⟩: ∃ M,N=M+70:=⟨N - 70,by omega⟩
 have h:=Ajc M ⟨k.toNat,by omega⟩;rw[show(((⟨k.toNat,by omega⟩:Fin 16).val:Nat):Int)=k from Je h0]at h;cases ho:TS (M+70) k with
 | none=>rw[ho]at h;cases h
 | some n=>rw[ho]at h;exact⟨n,rfl,AxZ h⟩
def shortS (s:Bs):Prop:=s.length<=40
instance (s:Bs):Decidable (shortS s):=by unfold shortS;infer_instance
def gnS (g:Gn):Prop:=g.2.1.length<=40/\MG g.2.2/\g.2.2.length<=3
theorem Awf {g:Gn} (h:gnS g):kN g:=⟨by have:=h.1;omega,h.2.1⟩
theorem Zy {k:Int} {s:Bs} (h:shortS s):gnS (k,s,[]):=⟨h,(λr hr=>by cases hr),by simp⟩
include hN hL in
theorem jP {d:List Int×Int} (hd:KJ L d):Ends (λr=>gnS r.1/\KJ L r.2) (TT N d):=by
 unfold TT;try simp only[clR]
 refine JF (nx N hL hd 4 (by omega)) ?_;rintro ⟨r,d'⟩ ⟨h0,h1,h2⟩;dsimp only at h0 h1 h2 ⊢;refine Kt (λ_=> ?_) (λ_=>Kt (λ_=> ?_) (λ_=>Kt (λ_=> ?_) (λ_=> ?_)))
 .refine JF (nx N hL h2 6 (by omega)) ?_;rintro ⟨r,d'⟩ ⟨h0,h1,h2⟩;dsimp only at h0 h1 h2 ⊢;refine JK (Dk) (JK (Dk) (JK (Dk) (KU ⟨Zy (Q7 (P:=shortS) (by decide) h0 h1),h2⟩)))
 .refine JF (nx N hL h2 7 (by omega)) ?_;rintro ⟨r,d'⟩ ⟨h0,h1,h2⟩;dsimp only at h0 h1 h2 ⊢;refine JK (Dk) (JK (Dk) (JK (Dk) (KU ⟨Zy (Q7 (P:=shortS) (by decide) h0 h1),h2⟩)))
 .refine JF (nx N hL h2 4 (by omega)) ?_;rintro ⟨r,d'⟩ ⟨h0,h1,h2⟩;dsimp only at h0 h1 h2 ⊢;refine JK (Dk) (JK (Dk) (JK (Dk) (KU ⟨Zy (Q7 (P:=shortS) (by decide) h0 h1),h2⟩)))
 .refine JF (AiD N hN hL h2) ?_;rintro ⟨n,d'⟩ ⟨g0,g1⟩;exact KU ⟨⟨by simp,g0.2,g0.1⟩,g1⟩
include hN hL in
theorem zJ {d:List Int×Int} (hd:KJ L d):Ends (λr=>gnS r.1/\KJ L r.2) (XP N d):=by
 unfold XP;try simp only[clR]
 refine JF (nx N hL hd 4 (by omega)) ?_;rintro ⟨r,d'⟩ ⟨h0,h1,h2⟩;dsimp only at h0 h1 h2 ⊢;refine Kt (λ_=> ?_) (λ_=>Kt (λ_=> ?_) (λ_=>Kt (λ_=> ?_) (λ_=> ?_)))
 .refine JF (nx N hL h2 7 (by omega)) ?_;rintro ⟨r,d'⟩ ⟨h0,h1,h2⟩;dsimp only at h0 h1 h2 ⊢;refine JK (Dk) (JK (Dk) (JK (Dk) (KU ⟨Zy (Q7 (P:=shortS) (by decide) h0 h1),h2⟩)))
 .refine JF (nx N hL h2 7 (by omega)) ?_;rintro ⟨r,d'⟩ ⟨h0,h1,h2⟩;dsimp only at h0 h1 h2 ⊢;refine JK (Dk) (JK (Dk) (JK (Dk) (KU ⟨Zy (Q7 (P:=shortS) (by decide) h0 h1),h2⟩)))
 .refine JF (nx N hL h2 5 (by omega)) ?_;rintro ⟨r,d'⟩ ⟨h0,h1,h2⟩;dsimp only at h0 h1 h2 ⊢;refine JK (Dk) (JK (Dk) (JK (Dk) (KU ⟨Zy (Q7 (P:=shortS) (by decide) h0 h1),h2⟩)))
 .refine JF (AiD N hN hL h2) ?_;rintro ⟨n,d'⟩ ⟨g0,g1⟩;exact KU ⟨⟨by simp,g0.2,g0.1⟩,g1⟩
def Ahh (m:Nat) (l:List Gn):Prop:=l.length<=m/\ ∀ g∈l,gnS g
theorem AlB {m:Nat} {l:List Gn} (h:Ahh m l):Lh l:=λg hg=>Awf (h.2 g hg)
include hN hL in
theorem Akl {d:List Int×Int} (hd:KJ L d):Ends (λr=>(Ahh 3 r.1.1/\Ahh 3 r.1.2)/\KJ L r.2) (Xt N d):=by
 unfold Xt;try simp only[clR]
 refine JF (nx N hL hd 4 (by omega)) ?_;rintro ⟨r,d1,d2⟩ ⟨h0,h1,h2⟩;dsimp only at h0 h1 h2 ⊢;refine Ou (λx=>0<=x.1/\x.1<4/\KJ L (x.2.1,x.2.2.1)/\((x.2.2.2.length:Int)+x.1<=3)/\ ∀ g∈x.2.2.2,gnS g) (λx=>x.1.toNat) ?_ N _ ⟨h0,h1,h2,by simp;omega,(λr hr=>by cases hr)⟩ (by dsimp only;omega);rintro ⟨t,a,b,acc⟩ ⟨g0,g1,g2,g3,g4⟩ k hk;dsimp only[U4]at g0 g1 g2 g3 g4 ⊢;refine Kt (λht=> ?_) (λ_=> ?_)
 .have ht:=DC ht;refine JF (zJ N hN hL g2) ?_;rintro ⟨g,e1,e2⟩ ⟨f0,f1⟩;dsimp only at f0 f1 ⊢;refine JK (Dk) (hk _ ⟨?_,?_,f1,?_,Z9 g4 f0⟩ ?_)
  .dsimp only;rw[w64];omega
  .dsimp only;rw[w64];omega
  .dsimp only;rw[w64,Dp];simp;omega
  .dsimp only;rw[w64];omega
 .dsimp only[U3];refine JF (nx N hL g2 3 (by omega)) ?_;rintro ⟨r,e1,e2⟩ ⟨f0,f1,f2⟩;dsimp only at f0 f1 f2 ⊢;refine Ou (λx=>0<=x.1/\x.1<3/\KJ L (x.2.1,x.2.2.1)/\x.2.2.2.1=acc/\((x.2.2.2.2.length:Int)+x.1<=2)/\ ∀ g∈x.2.2.2.2,gnS g) (λx=>x.1.toNat) ?_ N _ ⟨f0,f1,f2,rfl,by simp;omega,(λr hr=>by cases hr)⟩ (by dsimp only;omega);rintro ⟨t',a',b',acc',out⟩ ⟨p0,p1,p2,p3,p4,p5⟩ k' hk';dsimp only[U5]at p0 p1 p2 p3 p4 p5 ⊢;subst p3;refine Kt (λht'=> ?_) (λ_=> ?_)
  .have ht':=DC ht';refine JF (zJ N hN hL p2) ?_;rintro ⟨g,q1,q2⟩ ⟨z0,z1⟩;dsimp only at z0 z1 ⊢;refine JK (Dk) (hk' _ ⟨?_,?_,z1,rfl,?_,Z9 p5 z0⟩ ?_)
   .dsimp only;rw[w64];omega
   .dsimp only;rw[w64];omega
   .dsimp only;rw[w64,Dp];simp;omega
   .dsimp only;rw[w64];omega
  .dsimp only[U4];refine Kt (λ_=> ?_) (λ_=>KU ⟨⟨⟨by dsimp only;omega,g4⟩,by dsimp only;omega,p5⟩,p2⟩);refine JF (zJ N hN hL p2) ?_;rintro ⟨g,q1,q2⟩ ⟨z0,z1⟩;dsimp only at z0 z1 ⊢;refine JK (Dk) (KU ⟨⟨⟨by dsimp only;omega,g4⟩,?_,Z9 p5 z0⟩,z1⟩);dsimp only;rw[Dp];simp;omega
def Avs (l:List Pt):Prop:=l.length<=3/\ ∀ p∈l,Qw p
include hN hL in
theorem Adn {d:List Int×Int} (hd:KJ L d):Ends (λr=>Avs r.1/\KJ L r.2) (Xd N d):=by
 unfold Xd;try simp only[clR]
 refine JF (nx N hL hd 3 (by omega)) ?_;rintro ⟨r,d1,d2⟩ ⟨h0,h1,h2⟩;dsimp only at h0 h1 h2 ⊢;rw[w64];refine Ou (λx=>0<=x.1/\x.1<4/\KJ L (x.2.1,x.2.2.1)/\((x.2.2.2.length:Int)+x.1<=3)/\ ∀ p∈x.2.2.2,Qw p) (λx=>x.1.toNat) ?_ N _ ⟨by dsimp only;omega,by dsimp only;omega,h2,by simp;omega,(λr hr=>by cases hr)⟩ (by dsimp only;omega);rintro ⟨t,a,b,acc⟩ ⟨g0,g1,g2,g3,g4⟩ k hk;dsimp only[U4]at g0 g1 g2 g3 g4 ⊢;refine Kt (λht=> ?_) (λ_=>by dsimp only[U3];exact KU ⟨⟨by dsimp only;omega,g4⟩,g2⟩);have ht:=DC ht;refine JF (jP N hN hL g2) ?_;rintro ⟨g,e⟩ ⟨f0,f1⟩;refine JF (nx N hL f1 6 (by omega)) ?_;rintro ⟨r6,e1,e2⟩ ⟨c0,c1,c2⟩;dsimp only at c0 c1 c2 f0 ⊢;refine JK (Dk) (JK (Dk) (JK (Dk) ?_));have hr:0<= [(0:Int),0,510,2,64,384].getD r6.toNat 0/\ [(0:Int),0,510,2,64,384].getD r6.toNat 0<=510:=Q7 (P:=λx:Int=>0<=x/\x<=510) (by decide) c0 c1;have hg:Lh [g]:=λx hx=>by rw[Ec.1 hx];exact Awf f0
 refine Aaw (P:=λx=>KJ L (x.1,x.2.1)/\x.2.2.1=[(0:Int),0,510,2,64,384].getD r6.toNat 0/\MG x.2.2.2.2.1/\x.2.2.2.2.2.1=[g]/\x.2.2.2.2.2.2=acc) (λj hj=> ?_) ?_
 .refine JF (nx N hL c2 3 (by omega)) ?_;rintro ⟨r3,q1,q2⟩ ⟨z0,z1,z2⟩;dsimp only at z0 z1 z2 ⊢;refine Kt (λ_=> ?_) (λ_=>hj _ ⟨z2,rfl,(λr hr=>by cases hr),rfl,rfl⟩);refine JF (nx N hL z2 16 (by omega)) ?_;rintro ⟨r3,q1,q2⟩ ⟨z0,z1,z2⟩;dsimp only at z0 z1 z2 ⊢;refine JF (Ag9 N hN z0 z1) ?_;intro n hn;exact hj _ ⟨z2,rfl,hn.2,rfl,rfl⟩
 .rintro ⟨q1,q2,x1,x2,x3,x4,x5⟩ ⟨y1,y2,y3,y4,y5⟩;dsimp only[U7]at y1 y2 y3 y4 y5 ⊢;subst y2 y4 y5;refine JK (Dk) (hk _ ⟨?_,?_,y1,?_,Z9 g4 ⟨hg,y3,by dsimp only;omega,by dsimp only;omega⟩⟩ ?_)
  .dsimp only;rw[w64];omega
  .dsimp only;rw[w64];omega
  .dsimp only;rw[w64,Dp];simp;omega
  .dsimp only;rw[w64];omega
end
section
variable (N:Nat) (hN:1048578<N) {L:List Int} (hL:L.length<=9223372036854775807)
theorem oH {k:Int} (h0:0<=k) (h1:k<9):Ends shortS (Ve N k):=by
 unfold Ve;try simp -zeta only[Ap]
 have h:k.tmod 9=k:=by
  have:k=0\/k=1\/k=2\/k=3\/k=4\/k=5\/k=6\/k=7\/k=8:=by omega
  rcases this with rfl | rfl | rfl | rfl | rfl | rfl | rfl | rfl | rfl<;>rfl
 rw[h];exact JK (Dk) (JK (Dk) (JK (Dk) (KU (Q7 (P:=shortS) (by decide) h0 h1))))
def Aqy (m:Nat) (l:List Bs):Prop:=l.length<=m/\ ∀ s∈l,shortS s
include hN hL in
theorem AiG {d:List Int×Int} (p:Bool) (hd:KJ L d):Ends (λr=>Aqy 3 r.1/\KJ L r.2) (bM N d p):=by
 unfold bM;try simp only[clR]
 refine JF (nx N hL hd 3 (by omega)) ?_;rintro ⟨r,d1,d2⟩ ⟨h0,h1,h2⟩;dsimp only at h0 h1 h2 ⊢;rw[w64];refine Ou (λx=>0<=x.1/\x.1<4/\KJ L (x.2.1,x.2.2.1)/\((x.2.2.2.length:Int)+x.1<=3)/\ ∀ s∈x.2.2.2,shortS s) (λx=>x.1.toNat) ?_ N _ ⟨by dsimp only;omega,by dsimp only;omega,h2,by simp;omega,(λr hr=>by cases hr)⟩ (by dsimp only;omega);rintro ⟨t,a,b,acc⟩ ⟨g0,g1,g2,g3,g4⟩ k hk;dsimp only[U4]at g0 g1 g2 g3 g4 ⊢;refine Kt (λht=> ?_) (λ_=>by dsimp only[U3];exact KU ⟨⟨by dsimp only;omega,g4⟩,g2⟩);have ht:=DC ht;refine JF (nx N hL g2 9 (by omega)) ?_;rintro ⟨r9,e1,e2⟩ ⟨c0,c1,c2⟩;dsimp only at c0 c1 c2 ⊢;refine JF (oH N c0 c1) ?_;intro s hs;refine Aaw (P:=λx=>shortS x.1/\KJ L (x.2.1,x.2.2.1)/\x.2.2.2=acc) (λj hj=> ?_) ?_
 .refine Kt (λ_=> ?_) (λ_=>hj _ ⟨hs,c2,rfl⟩);refine JF (nx N hL c2 5 (by omega)) ?_;rintro ⟨r3,q1,q2⟩ ⟨z0,z1,z2⟩;dsimp only at z0 z1 z2 ⊢;exact JK (Dk) (JK (Dk) (JK (Dk) (hj _ ⟨Q7 (P:=shortS) (by decide) z0 z1,z2,rfl⟩)))
 .rintro ⟨s,q1,q2,x⟩ ⟨y1,y2,y3⟩;dsimp only at y1 y2 y3;subst y3;dsimp only[U4];refine Ou (λz=>0<=z.2.1/\z.2.1<=(x.length:Int)/\KJ L (z.2.2.1,z.2.2.2.1)/\z.2.2.2.2=x) (λz=>x.length - z.2.1.toNat) ?_ N _ ⟨F7 _,by dsimp only;omega,y2,rfl⟩ (by dsimp only;omega);rintro ⟨w1,i,a',b',x'⟩ ⟨p0,p1,p2,p3⟩ k' hk';dsimp only[U5]at p0 p1 p2 p3 ⊢;subst p3;refine Kt (λhi=> ?_) (λ_=> ?_)
  .have hi:=DC hi;refine JK (Dk) (JK (Dk) (JK (Dk) (hk' _ ⟨?_,?_,p2,rfl⟩ ?_)))
   .dsimp only;rw[w64];omega
   .dsimp only;rw[w64];omega
   .dsimp only;rw[w64];omega
  .dsimp only[U4];refine Kt (λ_=> ?_) (λ_=> ?_)
   .refine JK (Dk) (hk _ ⟨?_,?_,p2,?_,Z9 g4 y1⟩ ?_)
    .dsimp only;rw[w64];omega
    .dsimp only;rw[w64];omega
    .dsimp only;rw[w64,Dp];simp;omega
    .dsimp only;rw[w64];omega
   .refine hk _ ⟨?_,?_,p2,?_,g4⟩ ?_
    .dsimp only;rw[w64];omega
    .dsimp only;rw[w64];omega
    .dsimp only;rw[w64];omega
    .dsimp only;rw[w64];omega
def AxX (m:Bs×Bs):Prop:=shortS m.1/\shortS m.2
def Awk (m:Nat) (l:List (Bs×Bs)):Prop:=l.length<=m/\ ∀ s∈l,AxX s
include hN hL in
theorem Aj1 {d:List Int×Int} (hd:KJ L d):Ends (λr=>Awk 3 r.1/\KJ L r.2) (Xu N d):=by
 unfold Xu;try simp only[clR]
 refine JF (nx N hL hd 3 (by omega)) ?_;rintro ⟨r,d1,d2⟩ ⟨h0,h1,h2⟩;dsimp only at h0 h1 h2 ⊢;rw[w64];refine Ou (λx=>0<=x.1/\x.1<4/\KJ L (x.2.1,x.2.2.1)/\((x.2.2.2.length:Int)+x.1<=3)/\ ∀ s∈x.2.2.2,AxX s) (λx=>x.1.toNat) ?_ N _ ⟨by dsimp only;omega,by dsimp only;omega,h2,by simp;omega,(λr hr=>by cases hr)⟩ (by dsimp only;omega);rintro ⟨t,a,b,acc⟩ ⟨g0,g1,g2,g3,g4⟩ k hk;dsimp only[U4]at g0 g1 g2 g3 g4 ⊢;refine Kt (λht=> ?_) (λ_=>by dsimp only[U3];exact KU ⟨⟨by dsimp only;omega,g4⟩,g2⟩);have ht:=DC ht;refine JF (nx N hL g2 9 (by omega)) ?_;rintro ⟨r9,e1,e2⟩ ⟨c0,c1,c2⟩;dsimp only at c0 c1 c2 ⊢;refine JF (oH N c0 c1) ?_;intro s hs;refine JF (nx N hL c2 9 (by omega)) ?_;rintro ⟨r9,e1,e2⟩ ⟨c0,c1,c2⟩;dsimp only at c0 c1 c2 ⊢;refine JF (oH N c0 c1) ?_;intro s2 hs2;refine Ou (λz=>0<=z.2.1/\z.2.1<=(acc.length:Int)/\KJ L (z.2.2.1,z.2.2.2.1)/\z.2.2.2.2.1=s/\z.2.2.2.2.2.1=s2/\z.2.2.2.2.2.2=acc) (λz=>acc.length - z.2.1.toNat) ?_ N _ ⟨F7 _,by dsimp only;omega,c2,rfl,rfl,rfl⟩ (by dsimp only;omega);rintro ⟨w1,i,a',b',s',s2',x'⟩ ⟨p0,p1,p2,p3,p4,p5⟩ k' hk';dsimp only[U7]at p0 p1 p2 p3 p4 p5 ⊢;subst p3 p4 p5;refine Kt (λhi=> ?_) (λ_=> ?_)
 .have hi:=DC hi;refine JK (Dk) (JK (Dk) (JK (Dk) (hk' _ ⟨?_,?_,p2,rfl,rfl,rfl⟩ ?_)))
  .dsimp only;rw[w64];omega
  .dsimp only;rw[w64];omega
  .dsimp only;rw[w64];omega
 .dsimp only[U6];refine Kt (λ_=> ?_) (λ_=> ?_)
  .refine JK (Dk) (hk _ ⟨?_,?_,p2,?_,Z9 g4 ⟨hs,hs2⟩⟩ ?_)
   .dsimp only;rw[w64];omega
   .dsimp only;rw[w64];omega
   .dsimp only;rw[w64,Dp];simp;omega
   .dsimp only;rw[w64];omega
  .refine hk _ ⟨?_,?_,p2,?_,g4⟩ ?_
   .dsimp only;rw[w64];omega
   .dsimp only;rw[w64];omega
   .dsimp only;rw[w64];omega
   .dsimp only;rw[w64];omega
def Azd (m:Nat) (l:List Ex):Prop:=l.length<=m/\ ∀ x∈l,shortS x.1/\shortS x.2.2
structure Apq (pl us re im ia:Int) (pe ex:List Gn) (sk ak:Bs) (fr:List Pt) (pu po:List Bs) (ma:List (Bs×Bs)) (na:List Gn) (pt:List Pt) (un:List Ex):Prop where
 pl: -1<=pl/\pl<=70
 us:0<=us/\us<=511
 re: -1<=re/\re<=70
 im: -1<=im/\im<=70
 ia: -1<=ia/\ia<=70
 pe:Ahh 3 pe
 ex:Ahh 3 ex
 sk:shortS sk
 ak:shortS ak
 fr:Avs fr
 pu:Aqy 3 pu
 po:Aqy 3 po
 ma:Awk 3 ma
 na:Ahh 2 na
 pt:Avs pt
 un:Azd 2 un
theorem AoE {α :Type} {l:List α} {a b:Nat} {x: α} (h:x∈J4 l a b):x∈l:=Gm (FT h)
def Apr:Info->Prop
 | (_,_,pl,us,pu,po,ma,re,im,ia,na,_,pe,ex,sk,ak,pt,fr,un)=>Apq pl us re im ia pe ex sk ak fr pu po ma na pt un
include hN hL in
theorem AsK {d:List Int×Int} (hd:KJ L d):Ends (λr=>Apr r.1/\KJ L r.2) (lY N d):=by
 unfold lY;try simp only[clR]
 rw[show wL N=some (false,false,-1,0,[],[],[],-1,-1,-1,[],false,[],[],[],[],[],[],[])from rfl,Js];refine JF (nx N hL hd 6 (by omega)) ?_;rintro ⟨r,d1,d2⟩ ⟨h0,h1,h2⟩;dsimp only at h0 h1 h2 ⊢;refine Ou (λx=> ∃ t a b hb ca pl us re im ia hc pe ex sk ak fr pu po ma na pt un,x=(t,a,b,hb,ca,pl,us,pu,po,ma,re,im,ia,na,hc,pe,ex,sk,ak,pt,fr,un)/\0<=t/\t<6/\KJ L (a,b)/\Apq pl us re im ia pe ex sk ak fr pu po ma na pt un) (λx=>x.1.toNat) ?_ N _ ⟨r,d1,d2,false,false,-1,0,-1,-1,-1,false,[],[],[],[],[],[],[],[],[],[],[],rfl,h0,h1,h2,⟨by omega,by omega,by omega,by omega,by omega,⟨by simp,by simp⟩,⟨by simp,by simp⟩,by decide,by decide,⟨by simp,by simp⟩,⟨by simp,by simp⟩,⟨by simp,by simp⟩,⟨by simp,by simp⟩,⟨by simp,by simp⟩,⟨by simp,by simp⟩,⟨by simp,by simp⟩⟩⟩ (by dsimp only;omega);rintro _ ⟨t,a,b,hb,ca,pl,us,re,im,ia,hc,pe,ex,sk,ak,fr,pu,po,ma,na,pt,un,rfl,g0,g1,g2,P⟩ k hk;dsimp only[U22];refine Kt (λht=> ?_) (λ_=> ?_)
 .have ht:=DC ht;have go: ∀(a':List Int) (b':Int) (hb' ca':Bool) (pl' us' re' im' ia':Int) (hc':Bool) (pe' ex':List Gn) (sk' ak':Bs) (fr':List Pt) (pu' po':List Bs) (ma':List (Bs×Bs)) (na':List Gn) (pt':List Pt) (un':List Ex),KJ L (a',b')->Apq pl' us' re' im' ia' pe' ex' sk' ak' fr' pu' po' ma' na' pt' un'->Ends (λr=>Apr r.1/\KJ L r.2) (k (i64.wrap (t - 1),a',b',hb',ca',pl',us',pu',po',ma',re',im',ia',na',hc',pe',ex',sk',ak',pt',fr',un')):=by intro a' b' hb' ca' pl' us' re' im' ia' hc' pe' ex' sk' ak' fr' pu' po' ma' na' pt' un' hda hP;rw[w64];exact hk _ ⟨t - 1,a',b',hb',ca',pl',us',re',im',ia',hc',pe',ex',sk',ak',fr',pu',po',ma',na',pt',un',rfl,by omega,by omega,hda,hP⟩ (by dsimp only;omega)
  refine JF (nx N hL g2 14 (by omega)) ?_;rintro ⟨r,d1,d2⟩ ⟨h0,h1,h2⟩;dsimp only at h0 h1 h2 ⊢;refine Aaw (P:=λx=> ∃ q,x=(q,d1,d2,hb,ca,pl,us,pu,po,ma,re,im,ia,na,hc,pe,ex,sk,ak,pt,fr,un)) (λj hj=>Kt (λ_=>hj _ ⟨_,rfl⟩) (λ_=>hj _ ⟨_,rfl⟩)) ?_;rintro _ ⟨q,rfl⟩;dsimp only[U22];refine Kt (λ_=> ?_) (λ_=>Kt (λ_=> ?_) (λ_=>Kt (λ_=> ?_) (λ_=>Kt (λ_=> ?_) (λ_=>Kt (λ_=> ?_) (λ_=>Kt (λ_=> ?_) (λ_=>Kt (λ_=> ?_) (λ_=>Kt (λ_=> ?_) (λ_=>Kt (λ_=> ?_) (λ_=>Kt (λ_=> ?_) (λ_=>Kt (λ_=> ?_) (λ_=>Kt (λ_=> ?_) (λ_=> ?_))))))))))))
  .refine JF (nx N hL h2 5 (by omega)) ?_;rintro ⟨r,e1,e2⟩ ⟨f0,f1,f2⟩;dsimp only at f0 f1 f2 ⊢;exact go _ _ _ _ _ _ _ _ _ _ _ _ _ _ _ _ _ _ _ _ _ f2 {P with pl:=by rw[w64];omega}
  .exact go _ _ _ _ _ _ _ _ _ _ _ _ _ _ _ _ _ _ _ _ _ h2 {P with pl:=by omega}
  .refine JF (nx N hL h2 511 (by omega)) ?_;rintro ⟨r,e1,e2⟩ ⟨f0,f1,f2⟩;dsimp only at f0 f1 f2 ⊢;exact go _ _ _ _ _ _ _ _ _ _ _ _ _ _ _ _ _ _ _ _ _ f2 {P with us:=by rw[w64];omega}
  .refine JF (AiG N hN hL true h2) ?_;rintro ⟨r,e1,e2⟩ ⟨f0,f2⟩;exact go _ _ _ _ _ _ _ _ _ _ _ _ _ _ _ _ _ _ _ _ _ f2 {P with pu:=f0}
  .refine JF (AiG N hN hL false h2) ?_;rintro ⟨r,e1,e2⟩ ⟨f0,f2⟩;exact go _ _ _ _ _ _ _ _ _ _ _ _ _ _ _ _ _ _ _ _ _ f2 {P with po:=f0}
  .refine JF (Aj1 N hN hL h2) ?_;rintro ⟨r,e1,e2⟩ ⟨f0,f2⟩;exact go _ _ _ _ _ _ _ _ _ _ _ _ _ _ _ _ _ _ _ _ _ f2 {P with ma:=f0}
  .refine JF (nx N hL h2 5 (by omega)) ?_;rintro ⟨r,e⟩ ⟨f0,f1,f2⟩;refine JF (nx N hL f2 5 (by omega)) ?_;rintro ⟨r2,e1,e2⟩ ⟨c0,c1,c2⟩;dsimp only at f0 f1 c0 c1 c2 ⊢;exact go _ _ _ _ _ _ _ _ _ _ _ _ _ _ _ _ _ _ _ _ _ c2 {P with re:=by rw[w64];omega,im:=by rw[w64];omega}
  .refine JF (nx N hL h2 65 (by omega)) ?_;rintro ⟨r,e1,e2⟩ ⟨f0,f1,f2⟩;dsimp only at f0 f1 f2 ⊢;exact go _ _ _ _ _ _ _ _ _ _ _ _ _ _ _ _ _ _ _ _ _ f2 {P with ia:=by omega}
  .refine JF (jP N hN hL h2) ?_;rintro ⟨x,e⟩ ⟨f0,f2⟩;refine JF (jP N hN hL f2) ?_;rintro ⟨y,e⟩ ⟨f1,f2⟩;refine JF (nx N hL f2 2 (by omega)) ?_;rintro ⟨r2,e1,e2⟩ ⟨c0,c1,c2⟩;dsimp only at f0 f1 c0 c1 c2 ⊢;rw[w64];refine JK (Dk) (JK (Dk) ?_);refine go _ _ _ _ _ _ _ _ _ _ _ _ _ _ _ _ _ _ _ _ _ c2 {P with na:=⟨?_,λg hg=> ?_⟩}
   .unfold J4;rw[DU,D9];simp;omega
   .rcases D7.1 (AoE hg)with rfl | hg
    .exact f0
    .rw[Ec.1 hg];exact f1
  .refine JF (Akl N hN hL h2) ?_;rintro ⟨⟨x,y⟩,e1,e2⟩ ⟨⟨f0,f1⟩,f2⟩;exact go _ _ _ _ _ _ _ _ _ _ _ _ _ _ _ _ _ _ _ _ _ f2 {P with pe:=f0,ex:=f1}
  .refine JF (nx N hL h2 3 (by omega)) ?_;rintro ⟨r,e⟩ ⟨f0,f1,f2⟩;dsimp only at f0 f1 f2 ⊢;refine JK (Dk) (JK (Dk) (JK (Dk) ?_));refine JF (nx N hL f2 2 (by omega)) ?_;rintro ⟨r2,e1,e2⟩ ⟨c0,c1,c2⟩;dsimp only at c0 c1 c2 ⊢;refine JK (Dk) (JK (Dk) (JK (Dk) ?_));exact go _ _ _ _ _ _ _ _ _ _ _ _ _ _ _ _ _ _ _ _ _ c2 {P with sk:=Q7 (P:=shortS) (by decide) f0 f1,ak:=Q7 (P:=shortS) (by decide) c0 c1}
  .refine JF (Adn N hN hL h2) ?_;rintro ⟨r,e1,e2⟩ ⟨f0,f2⟩;exact go _ _ _ _ _ _ _ _ _ _ _ _ _ _ _ _ _ _ _ _ _ f2 {P with pt:=f0}
  .refine JF (Adn N hN hL h2) ?_;rintro ⟨r,e⟩ ⟨f0,f2⟩;refine JF (nx N hL f2 2 (by omega)) ?_;rintro ⟨r2,e⟩ ⟨c0,c1,c2⟩;refine JF (nx N hL c2 3 (by omega)) ?_;rintro ⟨r3,e1,e2⟩ ⟨z0,z1,z2⟩;dsimp only at f0 c0 c1 z0 z1 z2 ⊢;refine JK (Dk) (JK (Dk) ?_);refine go _ _ _ _ _ _ _ _ _ _ _ _ _ _ _ _ _ _ _ _ _ z2 {P with fr:=f0,un:=⟨?_,λg hg=> ?_⟩}
   .unfold J4;rw[DU,D9];simp;omega
   .rcases D7.1 (AoE hg)with rfl | hg
    .exact⟨(by decide:shortS [49,46,50,46,51,46,52,46,53]),(by decide:shortS [5,0])⟩
    .rw[Ec.1 hg];exact⟨by decide,by decide⟩
 .dsimp only[U21];exact KU ⟨P,g2⟩
end
def Ab8 {s:Bs} (h:shortS s):LG s:=by unfold shortS at h;unfold LG;omega
def Apr.small {x:Info} (h:Apr x):PX x:=by
 obtain⟨B,C,D,F,G,H,I,J,K,L,M,O,P,Q,R,S,T,U,un⟩:=x;have h:Apq D F J K L P Q R S U G H I M T un:=h;have hi: ∀ {m:Nat} {l:List Bs},Aqy m l->m<=1000->l.length<=1048576/\ ∀ s∈l,LG s:=λg hm=>⟨by have:=g.1;omega,λs hs=>Ab8 (g.2 s hs)⟩
 refine⟨hi h.pu (by omega),hi h.po (by omega),λs hs=>⟨Ab8 (h.ma.2 s hs).1,Ab8 (h.ma.2 s hs).2⟩,AlB h.na,AlB h.pe,AlB h.ex,h.pt.2,h.fr.2,?_,λs hs=>⟨Ab8 (h.un.2 s hs).1,Ab8 (h.un.2 s hs).2⟩⟩;have:=h.un.1;dsimp only;omega
def AdM (t:Nat) (c:Bs):(VH t c).1.length<=131077:=dB
def AvD (s:St2):(OU s).1.length<=131077:=by
 unfold OU;cases ZH s != 0 with
 | true=>exact Eb _
 | false=>exact AdM _ _
def Am2 (l:List Pt):(KP l).1.length<=131077:=by
 unfold KP;cases l.isEmpty with
 | true=>exact Eb _
 | false=>cases RJ l != 0 with
  | true=>exact Eb _
  | false=>exact AdM _ _
def Wp {t:Nat} {c:Bs} (h:c.length<=1048571):(Sp.elem t c).length<=1048576:=by have:=Sp.JS t c;omega
def AfT {b:Bool} {c:Bs} {k:Nat} (h:c.length<=k):((bif b then c else []):Bs).length<=k:=by cases b with
 | true=>exact h
 | false=>exact Eb _
def Axl {N:Nat} (hN:1048578<N) {x:Info} (h0:Qp x=0):(OT x).all (λr=>decide (r.2.2.1.length<=40)&&decide (r.2.2.2.2.length<=1048576))=true:=by
 obtain⟨B,C,D,F,G,H,I,J,K,L,O,P,Q,R,S,T,U,V,W⟩:=x;obtain⟨ok,_⟩:=AdU h0;obtain⟨s1,s2,s3,s4⟩:=ok.sp;have k: ∀ {n:Int} {t:Nat},spI n=true->(Sp.elem t (inB n)).length<=7:=λh=>by have:=iE N hN h;have:=Sp.JS ‹Nat› (inB ‹Int›);omega
 have v1:(aT C D).length<=1048576:=Wp (by rw[Dp];have a:((bif C then Sp.elem 1 [255]else []):Bs).length<=6:=AfT (by decide);have b:((bif D != -1 then Sp.elem 2 (inB D)else []):Bs).length<=7:=AfT (k s1);omega);have v2:(Sp.elem 3 (flB F)).length<=1048576:=Wp (by have:=iD ok.us;omega);have v3:(AdS G).length<=1048576:=Wp (by have:=Lp (g:=Lu) (M:=65) (l:=G) (λm hm=>by exact Nh (ok.pu.2 m hm));have:=ok.pu.1;omega);have v4:(Aep H).length<=1048576:=Wp (by have:=Lp (g:=(λs=>Sp.elem 48 (Lu s))) (M:=70) (l:=H) (λm hm=>by have:=Nh (ok.po.2 m hm);have:=Sp.JS 48 (Lu m);omega);have:=ok.po.1;omega);have v5:(Aeh I).length<=1048576:=Wp (by have:=Lp (g:=(λm:Bs×Bs=>Sp.elem 48 (Lu m.1++Lu m.2))) (M:=135) (l:=I) (λm hm=>by have:=Nh (ok.ma.2 m hm).1;have:=Nh (ok.ma.2 m hm).2;have:=Sp.JS 48 (Lu m.1++Lu m.2);rw[Dp]at this;omega);have:=ok.ma.1;omega);have v6:(Aa5 J K).length<=1048576:=Wp (by rw[Dp];have a:((bif J != -1 then Sp.elem 128 (inB J)else []):Bs).length<=7:=AfT (k s2);have b:((bif K != -1 then Sp.elem 129 (inB K)else []):Bs).length<=7:=AfT (k s3);omega);have v7:(Sp.elem 2 (inB L)).length<=1048576:=by have:=k (t:=2) s4;omega
 have v8:(Sp.elem 48 (Np O)).length<=1048576:=Wp (by have:=bJ ok.na.2 ok.na.1;omega);have v9:(OU (Q,R)).1.length<=1048576:=by have:=AvD (Q,R);omega
 have va:(Sp.elem 4 S).length<=1048576:=Wp (by have:=ok.sk;omega);have vb:(Sp.elem 48 (Sp.elem 128 T)).length<=1048576:=Wp (by have:=ok.ak;have:=Sp.JS 128 T;omega);have vc:(KP U).1.length<=1048576:=by have:=Am2 U;omega
 have vd:(KP V).1.length<=1048576:=by have:=Am2 V;omega
 unfold OT;simp only[List.all_cons,List.all_nil,Dk v1,Dk v2,Dk v3,Dk v4,Dk v5,Dk v6,Dk v7,Dk v8,Dk v9,Dk va,Dk vb,Dk vc,Dk vd];rfl
def AwO: ∀(l:List (Bool×Bool×Ex)),(l.flatMap KX).length<=l.length:=by
 intro l
 induction l with
 | nil=>exact DD _
 | cons r l ih=>rw[Fq,Dp,List.length_cons];have:=Oi r;omega
def AoM {N:Nat} (hN:1048578<N) {x:Info} (hx:PX x):(∀ e∈(encI x).1,Uc e)/\(encI x).1.length<=1048600:=by
 unfold encI;by_cases h0:Qp x=0
 .rw[iP h0,cond_false];cases (OT x).any QW with
  | true=>exact⟨(λe he=>nomatch he),Eb _⟩
  | false =>
   rw[cond_false];refine⟨λe he=> ?_,?_⟩
   .rcases DN.1 he with he | he
    .obtain⟨r,hr,hg⟩:=Eg.1 he;have:=DI.1 (Axl hN h0) r hr;rw[Dw,D6,D6]at this;unfold KX at hg;cases h1:r.1 with
     | true=>rw[h1,cond_true,Ec]at hg;subst hg;exact⟨by unfold LG;omega,this.2⟩
     | false=>rw[h1]at hg;exact nomatch hg
    .exact hx.un.2 e he
   .rw[Dp];have a:=AwO (OT x);rw[AiK]at a;have:=hx.un.1;omega
 .rw[VB h0,cond_true];exact⟨(λe he=>nomatch he),Eb _⟩
section
variable (N:Nat) (hN:1048700<N)
include hN
end
set_option linter.unusedSectionVars false
def ne_nil {s:Bs} (h:0<s.length):(s==([]:Bs))=false:=by cases s with | nil=>simp at h | cons a r=>rfl
def idP (N:Nat) (sd:Bs):Bs:=hS N [[73],sd]
def xH (N:Nat) (sd:Bs):TrT:=([],sd,idP N sd,0)
def dK (N:Nat) (sd:Bs):Bs:=pkP N (idP N sd) sd 0
def TB (N:Nat) (sd:Bs):TrT:=([[dK N sd]],sd,idP N sd,0)
def Arq (N:Nat) (sd:Bs):SgT:=(sd,0,0,[xH N sd])
def AmZ (N:Nat) (sd:Bs):SgT:=(sd,0,1,[TB N sd])
def Abb (N:Nat) (sd:Bs):Int×Bs×Bs:=(0,idP N sd,dK N sd)
def AdK (N:Nat) (sd m:Bs):Bs:=hS N [[77],idP N sd,dK N sd,b4P 0,m]
def YP (N:Nat) (sd m:Bs):Bs:=b4P 0++oN N (idP N sd) sd 0 (AdK N sd m)
section
variable {N:Nat} (h:Big N) {sd:Bs} (hs:sd.length=32)
include h hs
theorem id_eq:LQ N [[73],sd]=some (idP N sd)/\(idP N sd).length=16:=lV (hok h (by simp) (by simp [hs]))
theorem Ahr:(dK N sd).length=16:=pk_len h (id_eq h hs).2 hs 0
theorem Ano:Vz N sd 0=some (.inl (xH N sd,0)):=by
 unfold Vz;try simp -zeta only[Ap]
 rw[show((sd.length:Int) != 32)=false by rw[hs];rfl,cond_false,(id_eq h hs).1];rfl
theorem zD (l:List (List Bs)) (k:Bs):MO N (l,sd,k,0)=some (1,(l,sd,k,0)):=by
 unfold MO NL;try simp -zeta only[Ap]
 rw[Js,ne_nil (by rw[hs];decide)];rfl
theorem Ax4:YQ N sd 0=some (.inl (Arq N sd,0)):=by
 have e:=zD h hs [] (idP N sd);unfold YQ Ab9;try simp -zeta only[Ap]
 rw[Ano h hs,Aii];unfold xH;dsimp only;rw[e];rfl
theorem AyJ:Oj N (xH N sd)=some (TB N sd):=by
 obtain⟨M,rfl⟩: ∃ M,N=M+10:=⟨N - 10,by have:=h.n;omega⟩
 unfold Oj;try simp -zeta only[Ap]
 have e:=ArJ h (id_eq h hs).2 hs (F7 0) (by omega:(0:Int)<256);unfold xH;rw[KL];dsimp only[U6];rw[e];rfl
theorem Awg:Oj N (TB N sd)=some (TB N sd):=rfl
theorem AkI (t:TrT) (ht:Oj N t=some (TB N sd)) (hv:t.2.1=sd):SB N t=some (Abb N sd,TB N sd):=by unfold SB NL;rw[Js,hv,ne_nil (by rw[hs];decide)];dsimp only;rw[EC,ED,cond_false,ht];rfl
theorem Ass {m:Bs} (hm:m.length+64<N):Pg N (Abb N sd) 0 m=some (AdK N sd m)/\(AdK N sd m).length=16:=by
 have hn:=h.n
 obtain⟨e1,e2⟩:=lV (N:=N) (l:=[[77],idP N sd,dK N sd,b4P 0,m]) ⟨by omega,h.m,by simp;omega,λs hs'=>by
  have i1:=(id_eq h hs).2;have i2:=Ahr h hs;simp only[D7,Fe,GN]at hs';rcases hs' with rfl | rfl | rfl | rfl | rfl
  .simp;omega
  .omega
  .omega
  .simp [b4P];omega
  .exact hm⟩
 refine⟨?_,e2⟩;unfold Pg;rw[AfJ,Js];show Jq (LQ N [[77],idP N sd,dK N sd,b4P 0,m]) _=_;rw[e1];rfl
theorem Aue {m:Bs} (hm:m.length+64<N) (l:List (List Bs)) (ht:Oj N (l,sd,idP N sd,0)=some (TB N sd)):U0 N (l,sd,idP N sd,0) 0 m=some (YP N sd m,0,TB N sd):=by
 have hn:=h.n;have e1:=zD h hs l (idP N sd);have e2:=AkI h hs (l,sd,idP N sd,0) ht rfl;obtain⟨e3,e4⟩:=Ass h hs hm;have e5:=Awz h (id_eq h hs).2 hs (F7 0) (by omega) e4;have hl:=wU h (id_eq h hs).2 hs 0 (AdK N sd m);unfold U0 NL;try simp -zeta only[Ap]
 rw[Js,ne_nil (by rw[hs];decide)];dsimp only;rw[e1];simp (decide:=true) only[EC,ED,cond_false,cond_true,Option.isSome_some,DZ,EP,Ju,Option.getD_some,Int.lt_irrefl,Hw];rw[e2,Js];dsimp only[TB];rw[Es,Es,Ju,Ju];refine(JV _ rfl).trans ?_;rw[e3,Js,e5,Js];dsimp only;rw[show((0:Int) != 0)=false from rfl,cond_false,AfJ,Js,JV _ (Dk (by rw[hl];simp [b4P]))];obtain⟨M,rfl⟩: ∃ M,N=M+10:=⟨N - 10,by omega⟩
 rfl
theorem Awx:Me N (AmZ N sd)=some (Abb N sd,AmZ N sd):=by
 have e:=AkI h hs (TB N sd) (Awg h hs) rfl;unfold Me N8;try simp -zeta only[Ap]
 dsimp only[AmZ,List.headD_cons];rw[ne_nil (by rw[hs];decide),EW,Js];dsimp only;rw[cond_false,List.headD_cons,e,Js];dsimp only;rw[Es,Es,Ju,Ju];rfl
theorem Aps {m:Bs} (hm:m.length+64<N):RU N (Abb N sd) m (YP N sd m)=some 0:=by
 have hn:=h.n;obtain⟨e3,e4⟩:=Ass h hs hm;have e5:=Apu h (id_eq h hs).2 hs (F7 0) (by omega) e4;have hl:=wU h (id_eq h hs).2 hs 0 (AdK N sd m);have hk:=Ahr h hs;have hi:=(id_eq h hs).2;have h4:(b4P 0).length=4:=rfl
 have hc:KW N (Abb N sd)=some 0:=by
  unfold KW Abb;try simp -zeta only[Ap]
  try dsimp only
  rw[show((List.length (idP N sd):Int) != 16)=false by rw[hi];rfl,show((List.length (dK N sd):Int) != 16)=false by rw[hk];rfl];rfl
 have hsl:(YP N sd m).length=564:=by unfold YP;rw[Dp,hl,h4]
 have c1:J4 (YP N sd m) 0 4=b4P 0:=by unfold J4 YP;rw[FV (by omega)];rfl
 have c2:J4 (YP N sd m) 4 564=oN N (idP N sd) sd 0 (AdK N sd m):=by unfold J4;rw[Fp (by omega)];unfold YP;exact List.drop_left' h4
 have hf:Tj N (YP N sd m)=some (0,true):=by
  unfold Tj;try simp -zeta only[Ap]
  rw[c1,hsl];obtain⟨M,rfl⟩: ∃ M,N=M+10:=⟨N - 10,by omega⟩
  rfl
 unfold RU;try simp -zeta only[Ap]
 rw[hc,Js,show((0:Int) != 0)=false from rfl,cond_false,hsl,hf,Js];dsimp only[Abb];rw[show((((564:Nat):Int)) != i64.wrap (564+i64.wrap (0*16)))=false from rfl,cond_false];refine(JV _ rfl).trans ?_;rw[Dq (by decide: ¬(0:Int)>=i64.wrap (1*2 ^ min (u64.wrap 0).toNat 64)),cond_false];have e3':Pg N (0,idP N sd,dK N sd) 0 m=_:=e3;rw[e3',Js];refine(JV _ rfl).trans ?_;rw[c2,e5,Js];dsimp only;rw[show((0:Int) != 0)=false from rfl,cond_false];refine(JV _ rfl).trans ?_;obtain⟨M,rfl⟩: ∃ M,N=M+10:=⟨N - 10,by omega⟩
 rw[KL];dsimp only[U6,U4];rw[Dq (by decide: ¬(0:Int)<0),cond_false];show(bif !(dK (M+10) sd==dK (M+10) sd)then _ else _)=_;rw[Es];rfl
end
set_option linter.unusedSectionVars false
section
variable {N:Nat} (h:Big N) {sd:Bs} (hs:sd.length=32)
include h hs
end
end Go.Proofs.YtacidcemomccpaaGreatDoor.Pl
