import Derived.Test.YtdihmdelaolelaaGreatDoorA25
set_option linter.all false
namespace Go.Proofs.YtdihmdelaolelaaGreatDoor.Pl
open IntKind (i64 u8 u32 u64)
open Go Vm
def QM {α ρ :Type} {A:(α ->Option ρ)->Option ρ} {f: α ->Option ρ} {x: α} (h: ∀ j: α ->Option ρ,A j=j x):KX A f=f x:=h f
def number_eq (N t:Nat) (n:Int) (ht:t<256) (h31:t % 32≠31) (hN:1048578<N) (h:spI n=true):LD N (t:Int) n=some (Sp.elem t (inB n)):=by obtain⟨_,h2,h3⟩:=UG N n hN h;all_goals grind[Q9,inB,JO,LD,Jt]
def AqA (N:Nat) (v:Bool) (hN:1048578<N):Xx N 1 v=some (bif v then Sp.elem 1 [255]else []):=by
 unfold Xx;cases v with
 | false=>rfl
 | true =>have w:JK N 1 [[255]]=_:=Q9 N 1 [[255]] (by omega) (by omega) hN (by simp) (by simp);show Jr (JK N 1 [[255]]) _=_;rw[w,Jt];rfl
def aW (N:Nat) (hN:1048578<N) (l:List Bs) (hl:l.length<=1000) (hs:l.flatten.length<=131072):JK N 48 l=some (Sp.elem 48 l.flatten):=Q9 N 48 l (by omega) (by omega) hN hl hs
def ApP {t:Nat} {c:Bs} (h:(Y7 t c).2≠0):(Y7 t c).2=2:=by grind[Y7,KT]
def ApY {l:List Pt} (h0:l≠ []) (h1:RF l=0) (h:(KN l).2≠0):(KN l).2=2:=by unfold KN at h ⊢;rw[show l.isEmpty=false by cases l with | nil=>exact absurd rfl h0 | cons _ _=>rfl,h1]at h ⊢;exact ApP h
set_option maxHeartbeats 1000000 in
def Ajx (N:Nat) (x:Info) (hN:1048578<N) (hx:O5 x):UB N x=some (encI x):=by
 have hck:=zT N x hN hx;have hun:=hx.un.1;unfold UB encI;try simp only[clR]
 rw[hck,Jt,<- JY];refine KJ fun h0=> ?_;have h0:Qg x=0:=by simpa using h0
 clear hck;obtain⟨B,C,D,F,G,H,I,J,K,L,O,P,Q,T,U,V,W,X,Y⟩:=x;have hun:Y.length<=1048576:=hun;obtain⟨ok,_⟩:=Aet h0;obtain⟨s1,s2,s3,s4⟩:=ok.sp;have i1:=iY N hN s1;have i2:=iY N hN s2;have i3:=iY N hN s3;have i4:=iY N hN s4;have n1:LD N 2 D=_:=number_eq N 2 D (by omega) (by omega) hN s1;have n2:LD N 128 J=_:=number_eq N 128 J (by omega) (by omega) hN s2;have n3:LD N 129 K=_:=number_eq N 129 K (by omega) (by omega) hN s3;have n4:LD N 2 L=_:=number_eq N 2 L (by omega) (by omega) hN s4;have q1:=Sp.JQ 2 (inB D);have q2:=Sp.JQ 128 (inB J);have q3:=Sp.JQ 129 (inB K);have fl:QI N 3 F=_:=Amr N 3 F (by omega) (by omega) hN ok.us;have gg:=fun n h=>iE (n:=n) h;refine(QM (x:=(B,C,D,F,G,H,I,J,K,L,O,P,Q,T,U,V,W,X,Y,(KU (B,false,[50,46,53,46,50,57,46,49,57],true,bK C D)))) (fun j=> ?_)).trans ?_
 .cases B with
  | false=>rfl
  | true =>
   have hbl:((bif C then Sp.elem 1 [255]else []):Bs).length<=10:=by cases C<;>decide
   rw[cond_true,AqA N C hN,Jt,iE s1];simp only[KX];unfold KU bK;cases hp:D != -1 with
   | true =>have w:=aW N hN [(bif C then Sp.elem 1 [255]else [])++Sp.elem 2 (inB D)] (by simp) (by rw[JO,Dv];omega);rw[JO]at w;rw[cond_true,n1,Jt];dsimp only[U20];rw[Ov,Jz,w,Jt];rfl
   | false =>have w:=aW N hN [(bif C then Sp.elem 1 [255]else [])] (by simp) (by rw[JO];omega);rw[JO]at w;rw[cond_false];dsimp only[U20];rw[w,Jt,cond_true,cond_false,DV]
 generalize hl0:KU (B,false,[50,46,53,46,50,57,46,49,57],true,bK C D)=A0;have kA0:A0.length<=1:=by rw[<- hl0];exact NZ _
 dsimp only[U20];refine(QM (x:=(B,C,D,F,G,H,I,J,K,L,O,P,Q,T,U,V,W,X,Y,A0++KU (F != 0,false,[50,46,53,46,50,57,46,49,53],true,Sp.elem 3 (flB F)))) (fun j=> ?_)).trans ?_
 .unfold KU;by_cases h:F=0
  .rw[qA h,cond_false,cond_false,DV]
  .rw[bM h,cond_true,fl,Jt,Ov,Jz];unfold pfB;rw[QO h];rfl
 obtain⟨A1,hA1⟩: ∃ A,A=A0++KU (F != 0,false,[50,46,53,46,50,57,46,49,53],true,Sp.elem 3 (flB F)):=⟨_,rfl⟩
 rw[<- hA1];have kA1:A1.length<=2:=by rw[hA1,Dv];have:=NZ (F != 0,false,[50,46,53,46,50,57,46,49,53],true,Sp.elem 3 (flB F));omega
 dsimp only[U20];refine(QM (x:=(B,C,D,F,G,H,I,J,K,L,O,P,Q,T,U,V,W,X,Y,A1++KU (decide (((G.length:Nat):Int)>0),false,[50,46,53,46,50,57,46,51,55],false,Aer G))) (fun j=> ?_)).trans ?_
 .unfold KU;cases hh:decide (((G.length:Nat):Int)>0)with
  | false=>rw[cond_false,cond_false,DV]
  | true =>
   have hl:=Lp (g:=Lt) (M:=65) (l:=G) (fun m hm=>by exact MZ (ok.pu.2 m hm));have hk:=ok.pu.1;rw[cond_true,cond_true];refine(Zm (mk:=fun i t=>(t,(i:Int),B,C,D,F,G,H,I,J,K,L,O,P,Q,T,U,V,W,X,Y,A1)) G [] (Lt) (fun t=>Jr (JK N 48 [t]) fun r=>Vm.chk (decide ((A1.length+1)*41<=140737488355328)) (j (B,C,D,F,G,H,I,J,K,L,O,P,Q,T,U,V,W,X,Y,A1++[([50,46,53,46,50,57,46,51,55],false,r)]))) ?_ ?_ N).trans ?_
   .intro i t hi ht k;dsimp only[U22];rw[Int.toNat_natCast];have hp:=WJ N _ hN (hx.pu.2 _ (getD_mem [] hi)) (ok.pu.2 _ (getD_mem [] hi));have hp2:Sp.elem 6 (Na (G.getD i []))=Lt (G.getD i []):=rfl;simp (disch:=omega) only[JF,hp,hp2,JX]
   .intro t k;dsimp only[U22];rw[Vs,cond_false];rfl
   .have w:=aW N hN [(G.map Lt).flatten] (by simp) (by rw[JO];omega);rw[JO]at w;rw[w,Jt,Ov,Jz];rfl
 obtain⟨A2,hA2⟩: ∃ A,A=A1++KU (decide (((G.length:Nat):Int)>0),false,[50,46,53,46,50,57,46,51,55],false,Aer G):=⟨_,rfl⟩
 rw[<- hA2];have kA2:A2.length<=3:=by rw[hA2,Dv];have:=NZ (decide (((G.length:Nat):Int)>0),false,[50,46,53,46,50,57,46,51,55],false,Aer G);omega
 dsimp only[U20];refine(QM (x:=(B,C,D,F,G,H,I,J,K,L,O,P,Q,T,U,V,W,X,Y,A2++KU (decide (((H.length:Nat):Int)>0),false,[50,46,53,46,50,57,46,51,50],false,AeE H))) (fun j=> ?_)).trans ?_
 .unfold KU;cases hh:decide (((H.length:Nat):Int)>0)with
  | false=>rw[cond_false,cond_false,DV]
  | true =>
   have hl:=Lp (g:=(fun s=>Sp.elem 48 (Lt s))) (M:=70) (l:=H) (fun m hm=>by have:=MZ (ok.po.2 m hm);have:=Sp.JQ 48 (Lt m);omega);have hk:=ok.po.1;rw[cond_true,cond_true];refine(Zm (mk:=fun i t=>(t,(i:Int),B,C,D,F,G,H,I,J,K,L,O,P,Q,T,U,V,W,X,Y,A2)) H [] ((fun s=>Sp.elem 48 (Lt s))) (fun t=>Jr (JK N 48 [t]) fun r=>Vm.chk (decide ((A2.length+1)*41<=140737488355328)) (j (B,C,D,F,G,H,I,J,K,L,O,P,Q,T,U,V,W,X,Y,A2++[([50,46,53,46,50,57,46,51,50],false,r)]))) ?_ ?_ N).trans ?_
   .intro i t hi ht k;dsimp only[U22];rw[Int.toNat_natCast];have hv:=ok.po.2 _ (getD_mem [] hi);have hp:=WJ N _ hN (hx.po.2 _ (getD_mem [] hi)) hv;have hp2:Sp.elem 6 (Na (H.getD i []))=Lt (H.getD i []):=rfl;have w:=aW N hN [Lt (H.getD i [])] (by simp) (by rw[JO];have:=MZ hv;omega);rw[JO]at w;simp (disch:=omega) only[JF,hp,hp2,w,JX]
   .intro t k;dsimp only[U22];rw[Vs,cond_false];rfl
   .have w:=aW N hN [(H.map (fun s=>Sp.elem 48 (Lt s))).flatten] (by simp) (by rw[JO];omega);rw[JO]at w;rw[w,Jt,Ov,Jz];rfl
 obtain⟨A3,hA3⟩: ∃ A,A=A2++KU (decide (((H.length:Nat):Int)>0),false,[50,46,53,46,50,57,46,51,50],false,AeE H):=⟨_,rfl⟩
 rw[<- hA3];have kA3:A3.length<=4:=by rw[hA3,Dv];have:=NZ (decide (((H.length:Nat):Int)>0),false,[50,46,53,46,50,57,46,51,50],false,AeE H);omega
 dsimp only[U20];refine(QM (x:=(B,C,D,F,G,H,I,J,K,L,O,P,Q,T,U,V,W,X,Y,A3++KU (decide (((I.length:Nat):Int)>0),false,[50,46,53,46,50,57,46,51,51],true,Ae6 I))) (fun j=> ?_)).trans ?_
 .unfold KU;cases hh:decide (((I.length:Nat):Int)>0)with
  | false=>rw[cond_false,cond_false,DV]
  | true =>
   have hl:=Lp (g:=(fun m:Bs×Bs=>Sp.elem 48 (Lt m.1++Lt m.2))) (M:=135) (l:=I) (fun m hm=>by have:=MZ (ok.ma.2 m hm).1;have:=MZ (ok.ma.2 m hm).2;have:=Sp.JQ 48 (Lt m.1++Lt m.2);rw[Dv]at this;omega);have hk:=ok.ma.1;rw[cond_true,cond_true];refine(Zm (mk:=fun i t=>(t,(i:Int),B,C,D,F,G,H,I,J,K,L,O,P,Q,T,U,V,W,X,Y,A3)) I ([],[]) ((fun m:Bs×Bs=>Sp.elem 48 (Lt m.1++Lt m.2))) (fun t=>Jr (JK N 48 [t]) fun r=>Vm.chk (decide ((A3.length+1)*41<=140737488355328)) (j (B,C,D,F,G,H,I,J,K,L,O,P,Q,T,U,V,W,X,Y,A3++[([50,46,53,46,50,57,46,51,51],true,r)]))) ?_ ?_ N).trans ?_
   .intro i t hi ht k;dsimp only[U22];rw[Int.toNat_natCast];have hv:=ok.ma.2 _ (getD_mem ([],[]) hi);have hsm:sW (I.getD i ([],[])):=hx.ma _ (getD_mem ([],[]) hi);have hp:=WJ N _ hN hsm.1 hv.1;have hq:=WJ N _ hN hsm.2 hv.2;have hp2:Sp.elem 6 (Na (I.getD i ([],[])).1)=Lt (I.getD i ([],[])).1:=rfl;have hq2:Sp.elem 6 (Na (I.getD i ([],[])).2)=Lt (I.getD i ([],[])).2:=rfl;have w:=aW N hN [Lt (I.getD i ([],[])).1,Lt (I.getD i ([],[])).2] (by simp) (by rw[OW,Dv];have:=MZ hv.1;have:=MZ hv.2;omega);rw[OW]at w;simp (disch:=omega) only[JF,hp,hq,hp2,hq2,w,JX]
   .intro t k;dsimp only[U22];rw[Vs,cond_false];rfl
   .have w:=aW N hN [(I.map (fun m:Bs×Bs=>Sp.elem 48 (Lt m.1++Lt m.2))).flatten] (by simp) (by rw[JO];omega);rw[JO]at w;rw[w,Jt,Ov,Jz];rfl
 obtain⟨A4,hA4⟩: ∃ A,A=A3++KU (decide (((I.length:Nat):Int)>0),false,[50,46,53,46,50,57,46,51,51],true,Ae6 I):=⟨_,rfl⟩
 rw[<- hA4];have kA4:A4.length<=5:=by rw[hA4,Dv];have:=NZ (decide (((I.length:Nat):Int)>0),false,[50,46,53,46,50,57,46,51,51],true,Ae6 I);omega
 dsimp only[U20];refine(QM (x:=(B,C,D,F,G,H,I,J,K,L,O,P,Q,T,U,V,W,X,Y,A4++KU (J != -1||K != -1,false,[50,46,53,46,50,57,46,51,54],true,AaP J K))) (fun j=> ?_)).trans ?_
 .rw[iE s2,iE s3];unfold KU;cases hh:(J != -1||K != -1)with
  | false=>rw[cond_false,cond_false,DV]
  | true =>
   rw[cond_true,cond_true]
   have fin: ∀ a c:Bs,a=(bif J != -1 then Sp.elem 128 (inB J)else [])->c=(bif K != -1 then Sp.elem 129 (inB K)else [])->(Jr (JK N 48 [a++c]) fun r=>Vm.chk (decide ((A4.length+1)*41<=140737488355328)) (j (B,C,D,F,G,H,I,J,K,L,O,P,Q,T,U,V,W,X,Y,A4++[([50,46,53,46,50,57,46,51,54],true,r)])))=j (B,C,D,F,G,H,I,J,K,L,O,P,Q,T,U,V,W,X,Y,A4++[([50,46,53,46,50,57,46,51,54],true,AaP J K)]):=by
    intro a c ha P
    have h1:a.length<=10:=by
     rw[ha];cases J != -1
     .exact Em _
     .show(Sp.elem 128 (inB J)).length<=10;omega
    have h2:c.length<=10:=by
     rw[P];cases K != -1
     .exact Em _
     .show(Sp.elem 129 (inB K)).length<=10;omega
    have w:=aW N hN [a++c] (by simp) (by rw[JO,Dv];omega);rw[JO]at w;rw[w,Jt,Ov,Jz];unfold AaP;rw[<- ha,<- P]
   refine(QM (x:=(bif J != -1 then Sp.elem 128 (inB J)else [],B,C,D,F,G,H,I,J,K,L,O,P,Q,T,U,V,W,X,Y,A4)) (fun j=> ?_)).trans ?_
   .cases J != -1 with
    | true=>rw[cond_true,n2,Jt];rfl
    | false=>rfl
   dsimp only[U21];obtain⟨a,ha⟩: ∃ a:Bs,a=(bif J != -1 then Sp.elem 128 (inB J)else []):=⟨_,rfl⟩
   rw[<- ha]
   have h1:a.length<=10:=by
    rw[ha];cases J != -1
    .exact Em _
    .show(Sp.elem 128 (inB J)).length<=10;omega
   refine(QM (x:=(a++(bif K != -1 then Sp.elem 129 (inB K)else []),B,C,D,F,G,H,I,J,K,L,O,P,Q,T,U,V,W,X,Y,A4)) (fun j=> ?_)).trans ?_
   .rw[iE s3];cases K != -1 with
    | true=>rw[cond_true,n3,Jt,Ov,Jz];rfl
    | false=>rw[cond_false,cond_false,DV]
   dsimp only[U21];exact fin a _ ha rfl
 obtain⟨A5,hA5⟩: ∃ A,A=A4++KU (J != -1||K != -1,false,[50,46,53,46,50,57,46,51,54],true,AaP J K):=⟨_,rfl⟩
 rw[<- hA5];have kA5:A5.length<=6:=by rw[hA5,Dv];have:=NZ (J != -1||K != -1,false,[50,46,53,46,50,57,46,51,54],true,AaP J K);omega
 dsimp only[U20];refine(QM (x:=(B,C,D,F,G,H,I,J,K,L,O,P,Q,T,U,V,W,X,Y,A5++KU (L != -1,false,[50,46,53,46,50,57,46,53,52],true,Sp.elem 2 (inB L)))) (fun j=> ?_)).trans ?_
 .rw[iE s4];unfold KU;cases hh:L != -1 with
  | false=>rw[cond_false,cond_false,DV]
  | true=>rw[cond_true,cond_true,n4,Jt,Ov,Jz]
 obtain⟨A6,hA6⟩: ∃ A,A=A5++KU (L != -1,false,[50,46,53,46,50,57,46,53,52],true,Sp.elem 2 (inB L)):=⟨_,rfl⟩
 rw[<- hA6];have kA6:A6.length<=7:=by rw[hA6,Dv];have:=NZ (L != -1,false,[50,46,53,46,50,57,46,53,52],true,Sp.elem 2 (inB L));omega
 dsimp only[U20];refine(QM (x:=(B,C,D,F,G,H,I,J,K,L,O,P,Q,T,U,V,W,X,Y,A6++KU (decide (((O.length:Nat):Int)>0),false,[50,46,53,46,50,57,46,49,55],false,Sp.elem 48 (Nj O)))) (fun j=> ?_)).trans ?_
 .unfold KU;cases hh:decide (((O.length:Nat):Int)>0)with
  | false=>rw[cond_false,cond_false,DV]
  | true =>
   have hna0:O≠ []:=by intro h;subst h;cases hh
   have hl:=dB ok.na.2 ok.na.1;have w:=aW N hN [Nj O] (by simp) (by rw[JO];omega);rw[JO]at w;rw[cond_true,cond_true,dQ N O hN hx.na,kC hna0 ok.na.1 ok.na.2,Jt];dsimp only;rw[w,Jt,Ov,Jz]
 obtain⟨A7,hA7⟩: ∃ A,A=A6++KU (decide (((O.length:Nat):Int)>0),false,[50,46,53,46,50,57,46,49,55],false,Sp.elem 48 (Nj O)):=⟨_,rfl⟩
 rw[<- hA7];have kA7:A7.length<=8:=by rw[hA7,Dv];have:=NZ (decide (((O.length:Nat):Int)>0),false,[50,46,53,46,50,57,46,49,55],false,Sp.elem 48 (Nj O));omega
 dsimp only[U20];have hsub:OH N (Q,T)=some (OL (Q,T)):=AcC N (Q,T) hN hx.pe hx.ex;cases hE:QN (P,(OL (Q,T)).2 != 0,[50,46,53,46,50,57,46,51,48],true,(OL (Q,T)).1)with
 | true =>
  have hany:(OI (B,C,D,F,G,H,I,J,K,L,O,P,Q,T,U,V,W,X,Y)).any QN=true:=Gl.2 ⟨(P,(OL (Q,T)).2 != 0,[50,46,53,46,50,57,46,51,48],true,(OL (Q,T)).1),Hu.2 ⟨8,rfl⟩,hE⟩;rw[hany];unfold QN at hE;rw[Dx]at hE;obtain⟨hE1,hE2⟩:=hE;have hE1:P=true:=hE1;have hE2:((OL (Q,T)).2 != 0)=true:=hE2;have hcon:=ok.con;unfold uQ at hcon;rw[hE1,cond_true]at hcon;have h2:(OL (Q,T)).2=2:=by unfold OL at hE2 ⊢;rw[hcon]at hE2 ⊢;exact ApP (by simpa using hE2)
  show(bif P then _ else _)=_;rw[hE1,cond_true,hsub,Jt,hE2,cond_true,h2];rfl
 | false =>
 refine(QM (x:=(B,C,D,F,G,H,I,J,K,L,O,P,Q,T,U,V,W,X,Y,A7++KU (P,(OL (Q,T)).2 != 0,[50,46,53,46,50,57,46,51,48],true,(OL (Q,T)).1))) (fun j=> ?_)).trans ?_
 .unfold KU;cases hh:P with
  | false=>rw[cond_false,cond_false,DV]
  | true =>rw[hh,QN,EH]at hE;have hE:((OL (Q,T)).2 != 0)=false:=hE;rw[cond_true,cond_true,hsub,Jt,hE,cond_false,Ov,Jz]
 obtain⟨A8,hA8⟩: ∃ A,A=A7++KU (P,(OL (Q,T)).2 != 0,[50,46,53,46,50,57,46,51,48],true,(OL (Q,T)).1):=⟨_,rfl⟩
 rw[<- hA8];have kA8:A8.length<=9:=by rw[hA8,Dv];have:=NZ (P,(OL (Q,T)).2 != 0,[50,46,53,46,50,57,46,51,48],true,(OL (Q,T)).1);omega
 dsimp only[U20];refine(QM (x:=(B,C,D,F,G,H,I,J,K,L,O,P,Q,T,U,V,W,X,Y,A8++KU (!(U==[]),false,[50,46,53,46,50,57,46,49,52],false,Sp.elem 4 U))) (fun j=> ?_)).trans ?_
 .unfold KU;cases hh:(!(U==[]))with
  | false=>rw[cond_false,cond_false,DV]
  | true =>have hk:=ok.sk;have w:JK N 4 [U]=_:=Q9 N 4 [U] (by omega) (by omega) hN (by simp) (by rw[JO];omega);rw[JO]at w;rw[cond_true,cond_true,w,Jt,Ov,Jz]
 obtain⟨A9,hA9⟩: ∃ A,A=A8++KU (!(U==[]),false,[50,46,53,46,50,57,46,49,52],false,Sp.elem 4 U):=⟨_,rfl⟩
 rw[<- hA9];have kA9:A9.length<=10:=by rw[hA9,Dv];have:=NZ (!(U==[]),false,[50,46,53,46,50,57,46,49,52],false,Sp.elem 4 U);omega
 dsimp only[U20];refine(QM (x:=(B,C,D,F,G,H,I,J,K,L,O,P,Q,T,U,V,W,X,Y,A9++KU (!(V==[]),false,[50,46,53,46,50,57,46,51,53],false,Sp.elem 48 (Sp.elem 128 V)))) (fun j=> ?_)).trans ?_
 .unfold KU;cases hh:(!(V==[]))with
  | false=>rw[cond_false,cond_false,DV]
  | true =>have hk:=ok.ak;have he:=Sp.JQ 128 V;have w:JK N 128 [V]=_:=Q9 N 128 [V] (by omega) (by omega) hN (by simp) (by rw[JO];omega);have w2:=aW N hN [Sp.elem 128 V] (by simp) (by rw[JO];omega);rw[JO]at w w2;rw[cond_true,cond_true,w,Jt,w2,Jt,Ov,Jz]
 obtain⟨A10,hA10⟩: ∃ A,A=A9++KU (!(V==[]),false,[50,46,53,46,50,57,46,51,53],false,Sp.elem 48 (Sp.elem 128 V)):=⟨_,rfl⟩
 rw[<- hA10];have kA10:A10.length<=11:=by rw[hA10,Dv];have:=NZ (!(V==[]),false,[50,46,53,46,50,57,46,51,53],false,Sp.elem 48 (Sp.elem 128 V));omega
 dsimp only[U20];have hp1:MM N W=some (KN W):=Yg N W hN hx.pt;have hp2:MM N X=some (KN X):=Yg N X hN hx.fr;have hq1:W≠ []->(KN W).2≠0->(KN W).2=2:=fun h h2=>ApY h ok.pt h2;have hq2:X≠ []->(KN X).2≠0->(KN X).2=2:=fun h h2=>ApY h ok.fr h2;refine(Uf (S:=List Ex) (R:=Int) (mk:=fun i s=>((i:Int),B,C,D,F,G,H,I,J,K,L,O,P,Q,T,U,V,W,X,Y,[W,X],s)) [(decide (((W.length:Nat):Int)>0),(KN W).2 != 0,[50,46,53,46,50,57,46,51,49],false,(KN W).1),(decide (((X.length:Nat):Int)>0),(KN X).2 != 0,[50,46,53,46,50,57,46,52,54],false,(KN X).1)] noX (fun i s=>s.length<=11+i) (fun r s=>bif QN r then .inl 2 else .inr (s++KU r)) (fun e=>some ([],e)) (fun s=>some (s++Y,0)) ?_ ?_ ?_ N A10 kA10 (by show 2<N;omega)).trans ?_
 .intro i s hi hI k;have hi:i<2:=hi;have hI:s.length<=11+i:=hI;dsimp only[U22];rw[Vt,cond_true,Sr,Jz];rcases(by omega:i=0\/i=1)with rfl | rfl
  .show Vm.chk true (Vm.chk true (bif (((W.length:Nat):Int)==0)then k (i64.wrap (((0:Nat):Int)+1),B,C,D,F,G,H,I,J,K,L,O,P,Q,T,U,V,W,X,Y,[W,X],s)else Jr (MM N W) fun r249=>bif r249.2 != 0 then some ([],r249.2)else Vm.chk true (Vm.chk true (Vm.chk true (Vm.chk (decide ((s.length+1)*41<=140737488355328)) (k (i64.wrap (((0:Nat):Int)+1),B,C,D,F,G,H,I,J,K,L,O,P,Q,T,U,V,W,X,Y,[W,X],s++[([50,46,53,46,50,57,46,51,49],false,r249.1)])))))))=Tt (bif QN (decide (((W.length:Nat):Int)>0),(KN W).2 != 0,[50,46,53,46,50,57,46,51,49],false,(KN W).1)then .inl 2 else .inr (s++KU (decide (((W.length:Nat):Int)>0),(KN W).2 != 0,[50,46,53,46,50,57,46,51,49],false,(KN W).1))) _ _;unfold QN KU;rw[len0,YE,hp1,Jt,Ov];cases he:W.isEmpty with
   | true=>rw[EI];simp only[Jz,cond_true,cond_false,Fa,DV];rfl
   | false =>
    have hne:W≠ []:=by intro h;subst h;cases he
    rw[Eu];simp only[Jz,cond_true,cond_false,EH];cases hz:(KN W).2 != 0 with
    | true=>rw[hq1 hne (by simpa using hz)];rfl
    | false=>rfl
  .show Vm.chk true (Vm.chk true (bif (((X.length:Nat):Int)==0)then k (i64.wrap (((1:Nat):Int)+1),B,C,D,F,G,H,I,J,K,L,O,P,Q,T,U,V,W,X,Y,[W,X],s)else Jr (MM N X) fun r249=>bif r249.2 != 0 then some ([],r249.2)else Vm.chk true (Vm.chk true (Vm.chk true (Vm.chk (decide ((s.length+1)*41<=140737488355328)) (k (i64.wrap (((1:Nat):Int)+1),B,C,D,F,G,H,I,J,K,L,O,P,Q,T,U,V,W,X,Y,[W,X],s++[([50,46,53,46,50,57,46,52,54],false,r249.1)])))))))=Tt (bif QN (decide (((X.length:Nat):Int)>0),(KN X).2 != 0,[50,46,53,46,50,57,46,52,54],false,(KN X).1)then .inl 2 else .inr (s++KU (decide (((X.length:Nat):Int)>0),(KN X).2 != 0,[50,46,53,46,50,57,46,52,54],false,(KN X).1))) _ _;unfold QN KU;rw[len0,YE,hp2,Jt,Ov];cases he:X.isEmpty with
   | true=>rw[EI];simp only[Jz,cond_true,cond_false,Fa,DV];rfl
   | false =>
    have hne:X≠ []:=by intro h;subst h;cases he
    rw[Eu];simp only[Jz,cond_true,cond_false,EH];cases hz:(KN X).2 != 0 with
    | true=>rw[hq2 hne (by simpa using hz)];rfl
    | false=>rfl
 .intro i s s' hi hI he;have hI:s.length<=11+i:=hI;generalize ([(decide (((W.length:Nat):Int)>0),(KN W).2 != 0,[50,46,53,46,50,57,46,51,49],false,(KN W).1),(decide (((X.length:Nat):Int)>0),(KN X).2 != 0,[50,46,53,46,50,57,46,52,54],false,(KN X).1)]:List (Bool×Bool×Ex)).getD i noX=r at he;cases B:QN r with
  | true=>rw[B]at he;cases he
  | false =>rw[B]at he;injection he with he;subst he;have:=NZ r;show(s++KU r).length<=11+(i+1);rw[Dv];omega
 .intro s k hI;have hI:s.length<=11+2:=hI;dsimp only[U22];rw[Vs (by show(2:Int)<=((2:Nat):Int);omega),cond_false];dsimp only[U20];rw[Ov,Jz]
 .rw[N9];have hany:(OI (B,C,D,F,G,H,I,J,K,L,O,P,Q,T,U,V,W,X,Y)).any QN=(QN (P,(OL (Q,T)).2 != 0,[50,46,53,46,50,57,46,51,48],true,(OL (Q,T)).1)||(QN (decide (((W.length:Nat):Int)>0),(KN W).2 != 0,[50,46,53,46,50,57,46,51,49],false,(KN W).1)||QN (decide (((X.length:Nat):Int)>0),(KN X).2 != 0,[50,46,53,46,50,57,46,52,54],false,(KN X).1))):=by unfold OI QN;simp
  have hflat:(OI (B,C,D,F,G,H,I,J,K,L,O,P,Q,T,U,V,W,X,Y)).flatMap KU=A10++(KU (decide (((W.length:Nat):Int)>0),(KN W).2 != 0,[50,46,53,46,50,57,46,51,49],false,(KN W).1)++KU (decide (((X.length:Nat):Int)>0),(KN X).2 != 0,[50,46,53,46,50,57,46,52,54],false,(KN X).1)):=by rw[hA10,hA9,hA8,hA7,hA6,hA5,hA4,hA3,hA2,hA1,<- hl0];unfold OI;simp only[F7,Jo,DV,Ee]
  rw[hany,hflat,hE,EK];cases QN (decide (((W.length:Nat):Int)>0),(KN W).2 != 0,[50,46,53,46,50,57,46,51,49],false,(KN W).1)with
  | true=>rfl
  | false =>
   rw[cond_false,Sum.elim_inr,N9];cases QN (decide (((X.length:Nat):Int)>0),(KN X).2 != 0,[50,46,53,46,50,57,46,52,54],false,(KN X).1)with
   | true=>rfl
   | false =>rw[cond_false,Sum.elim_inr];show some ((A10++KU (decide (((W.length:Nat):Int)>0),(KN W).2 != 0,[50,46,53,46,50,57,46,51,49],false,(KN W).1)++KU (decide (((X.length:Nat):Int)>0),(KN X).2 != 0,[50,46,53,46,50,57,46,52,54],false,(KN X).1))++Y,(0:Int))=some ((A10++(KU (decide (((W.length:Nat):Int)>0),(KN W).2 != 0,[50,46,53,46,50,57,46,51,49],false,(KN W).1)++KU (decide (((X.length:Nat):Int)>0),(KN X).2 != 0,[50,46,53,46,50,57,46,52,54],false,(KN X).1)))++Y,0);rw[Ee A10]
abbrev RnT:Type:=List (Bs×Int×Bs)
abbrev GnT:Type:=Int×Bs×List RnT
abbrev PtT:Type:=List GnT×Int×Bool×List RnT
abbrev Y8T:Type:=Int×Int×Int×Int×Int×Int×Int×Int
abbrev HsT:Type:=Int×Int×Int×Int×Int×Int×Int×Int×List Int×Int
abbrev TrT:Type:=List (List Bs)×Bs×Bs×Int
abbrev SgT:Type:=Bs×Int×Int×List TrT
def Tot {α :Type} (Q: α ->Prop) (o:Option α):Prop:= ∃ v,o=some v/\Q v
def Tot.chk {α :Type} {Q: α ->Prop} {c:Bool} {k:Option α} (hc:c=true) (h:Tot Q k):Tot Q (Vm.chk c k):=by rw[hc];exact h
def Tot.call {α β :Type} [Inhabited α] {P: α ->Prop} {Q: β ->Prop} {x:Option α} {f: α ->Option β} (h:Tot P x) (hf: ∀ v,P v->Tot Q (f v)):Tot Q (Jr x f):=by obtain⟨v,rfl,hv⟩:=h;exact hf v hv
def Tot.bif {α :Type} {Q: α ->Prop} {b:Bool} {x y:Option α} (h1:b=true->Tot Q x) (h2:b=false->Tot Q y):Tot Q (bif b then x else y):=by
 cases b with
 | true=>exact h1 rfl
 | false=>exact h2 rfl
def Tot.some {α :Type} {Q: α ->Prop} {v: α} (h:Q v):Tot Q (some v):=⟨v,rfl,h⟩
def Tot.Ajd {α :Type} {o:Option α} (h:o.isSome=true):Tot (fun _=>True) o:=by
 cases o with
 | none=>cases h
 | some v=>exact⟨v,rfl,trivial⟩
def Tot.mono {α :Type} {P Q: α ->Prop} {o:Option α} (h:Tot P o) (hq: ∀ v,P v->Q v):Tot Q o:=let ⟨v,e,p⟩:=h;⟨v,e,hq v p⟩
def AoG (l:List Int):l=(List.range l.length).map fun i=>l.getD i 0:=by
 apply Jp
 .simp
 .intro i h1 h2;simp [Dn,h1]
def Aq9 (M:Nat) (p0:Y8T) (f:Nat->Int):(QV (M+70) p0 ((List.range 64).map f)).isSome=true:=by kernel_rfl
def Ai5 {N:Nat} (hN:70<=N) (p0:Y8T) {l:List Int} (hl:l.length=64):Tot (fun _=>True) (QV N p0 l):=by obtain⟨M,rfl⟩:=Nat.exists_eq_add_of_le' hN;have h:=Aq9 M p0 fun i=>l.getD i 0;rw[<- hl,<- AoG]at h;exact Tot.Ajd h
def Zz {α :Type} (l:List α) (a b:Nat) (h:b<=l.length:=by omega):(J6 l a b).length=b - a:=by simp [J6];omega
abbrev Ahe (r:HsT):List Int:=r.2.2.2.2.2.2.2.2.1
def Ad4 (N:Nat):Tot (fun _=>True) (Y9 N):=Tot.Ajd (by kernel_rfl)
def AuL {N:Nat} (hN:70<=N) (hM:N<=1000000000) (p0:HsT) (h8:(Ahe p0).length<64) (p1:Bs) (hl:p1.length+64<N):Tot (fun r=>(Ahe r).length<64) (Tv N p0 p1):=by
 unfold Tv;try simp -zeta only[Ap]
 refine Tot.bif (fun _=>Tot.some h8) fun _=> ?_;refine AiU (fun x=>x.2.2.2.2.2.2.2.2.1.length<64) (Tot _) (fun j hj=>Tot.bif (fun _=>(Ad4 N).call fun v _=>hj _ h8) fun _=>hj _ h8) ?_;rintro ⟨b0,b1,b2,b3,b4,b5,b6,b7,b8,b9⟩ hb;have hb:b8.length<64:=hb;dsimp only[U10];refine Tot.chk (Dk) (Tot.chk (Dk (by rw[D7];omega)) ?_);refine Sv (fun x=>x.1.length<N) (fun x=>x.1.length) (Tot _) ?_ N _ (by show(b8++p1.map _).length<N;rw[Dv,D7];omega) (by show(b8++p1.map _).length<N;rw[Dv,D7];omega);rintro ⟨t,c0,c1,c2,c3,c4,c5,c6,c7,c8,c9⟩ hI k hk;have hI:t.length<N:=hI;dsimp only[U11];refine Tot.bif (fun h=> ?_) fun h=> ?_
 .have h:=DC h;refine Tot.chk (Dk) ((Ai5 hN _ (by rw[Zz _ _ _])).call fun v _=>Tot.chk (Dk) (hk _ ?_ ?_))
  .show(J6 t 64 t.length).length<N;rw[Zz _ _ _ (DK _)];omega
  .show(J6 t 64 t.length).length<t.length;rw[Zz _ _ _ (DK _)];omega
 .have h:=Ep h;refine Tot.chk (Dk) (Tot.some ?_);show t.length<64;omega
def Aza (n:Nat):(n:Int).tmod 64=((n % 64:Nat):Int):=by rw[DT (by omega)];omega
def Axh {N:Nat} (hN:150<=N) (p0:HsT) (h8:(Ahe p0).length<64):Tot (fun r=>r.1.length=32) (Vx N p0):=by
 unfold Vx;try simp -zeta only[Ap]
 refine(Ad4 N).call fun v _=>Tot.chk rfl ?_;refine AiU (fun x=>x.2.2.2.2.2.2.2.2.2.2.2.1.length=8/\x.2.2.2.2.2.2.2.2.2.2.2.2.length<64) (Tot _) (fun j hj=>Tot.bif (fun _=>Tot.chk (Dk (by have:p0.2.2.2.2.2.2.2.2.1.length<64:=h8;omega)) (hj _ ⟨rfl,h8⟩)) fun _=>hj _ ⟨rfl,by show 0<64;omega⟩) ?_;rintro ⟨t,b0,b1,b2,b3,b4,b5,b6,b7,b8,b9,l1,l2⟩ ⟨h1,h2⟩;have h1:l1.length=8:=h1;have h2:l2.length<64:=h2;dsimp only[U13];refine Tot.chk (Dk) ?_;refine Sv (fun x=>x.2.2.2.2.2.2.2.2.2.2.1.length=8/\x.2.2.2.2.2.2.2.2.2.2.2.length<=120) (fun x=>120 - x.2.2.2.2.2.2.2.2.2.2.2.length) (Tot _) ?_ N _ ⟨h1,by show(l2++_).length<=120;simp;omega⟩ (by show 120 - _<N;omega);rintro ⟨b0,b1,b2,b3,b4,b5,b6,b7,b8,b9,l1,l2⟩ ⟨h1,h2⟩ k hk;have h1:l1.length=8:=h1;have h2:l2.length<=120:=h2;dsimp only[U12];rw[Aza];refine Tot.bif (fun h=> ?_) fun h=> ?_
 .have h: ¬((l2.length % 64:Nat):Int)=56:=EE.1 h;refine Tot.chk (Dk) (hk _ ⟨h1,?_⟩ ?_)
  .show(l2++[0]).length<=120;simp;omega
  .show 120 - (l2++[0]).length<120 - l2.length;simp;omega
 .have h:((l2.length % 64:Nat):Int)=56:=by simpa using h
  clear k hk;refine Sv (fun x=>x.2.2.2.2.2.2.2.2.2.2.2.1.length=8/\ -1<=x.1/\x.1<=7/\((x.2.2.2.2.2.2.2.2.2.2.2.2.length:Int)+x.1+1) % 64=0/\(x.2.2.2.2.2.2.2.2.2.2.2.2.length:Int)+x.1+1<=128) (fun x=>(x.1+1).toNat) (Tot _) ?_ N _ ⟨h1,by show(-1:Int)<=7;omega,by show(7:Int)<=7;omega,by show((l2.length:Int)+7+1) % 64=0;omega,by show(l2.length:Int)+7+1<=128;omega⟩ (by show((7:Int)+1).toNat<N;omega);rintro ⟨t,b0,b1,b2,b3,b4,b5,b6,b7,b8,b9,l1,l2⟩ ⟨h1,h3,h4,h5,h6⟩ k hk;have h1:l1.length=8:=h1;have h3: -1<=t:=h3;have h4:t<=7:=h4;have h5:((l2.length:Int)+t+1) % 64=0:=h5;have h6:(l2.length:Int)+t+1<=128:=h6;dsimp only[U13];refine Tot.bif (fun h=> ?_) fun h=> ?_
  .have h:=DC h;refine Tot.chk (Dk (by rw[wu64 (x:=t) (by omega),wu64 (by omega)];omega)) (Tot.chk (Dk) (hk _ ⟨h1,?_⟩ ?_))
   .show -1<=i64.wrap (t - 1)/\i64.wrap (t - 1)<=7/\(((l2++[_]).length:Int)+i64.wrap (t - 1)+1) % 64=0/\((l2++[_]).length:Int)+i64.wrap (t - 1)+1<=128;rw[w64];simp;omega
   .show(i64.wrap (t - 1)+1).toNat<(t+1).toNat
    rw[w64];omega
  .have h:=Ep h;have ht:t= -1:=by omega
   subst ht;clear k hk;refine Sv (fun x=>x.2.2.2.2.2.2.2.2.2.2.2.length=8/\x.1.length % 64=0/\x.1.length<=128) (fun x=>x.1.length) (Tot _) ?_ N _ ⟨h1,by show l2.length % 64=0;omega,by show l2.length<=128;omega⟩ (by show l2.length<N;omega);rintro ⟨t,b0,b1,b2,b3,b4,b5,b6,b7,b8,b9,l1⟩ ⟨h1,h2,h3⟩ k hk;have h1:l1.length=8:=h1;have h2:t.length % 64=0:=h2;have h3:t.length<=128:=h3;dsimp only[U12];refine Tot.bif (fun h=> ?_) fun h=> ?_
   .have h:=DC h;refine Tot.chk (by rw[h1];rfl) (Tot.chk (Dk) ((Ai5 (by omega) _ (by rw[Zz _ _ _])).call fun v _=>Tot.chk (by rw[h1];rfl) (Tot.chk (Dk) (hk _ ⟨rfl,?_⟩ ?_))))
    .show(J6 t 64 t.length).length % 64=0/\(J6 t 64 t.length).length<=128;rw[Zz _ _ _ (DK _)];omega
    .show(J6 t 64 t.length).length<t.length;rw[Zz _ _ _ (DK _)];omega
   .clear k hk h;dsimp only[U11];refine Tot.chk (by rw[h1];rfl) ?_;refine Sv (fun x=>0<=x.1/\x.1<=8/\(x.2.2.2.2.2.2.2.2.2.2.2.length:Int)=4*x.1/\x.2.2.2.2.2.2.2.2.2.2.2.all Vm.isByte=true) (fun x=>(8 - x.1).toNat) (Tot _) ?_ N _ ⟨by show(0:Int)<=0;omega,by show(0:Int)<=8;omega,rfl,rfl⟩ (by show((8:Int) - 0).toNat<N;omega);rintro ⟨t,b0,b1,b2,b3,b4,b5,b6,b7,b8,b9,l⟩ ⟨h1,h2,h3,h4⟩ k hk;have h1:0<=t:=h1;have h2:t<=8:=h2;have h3:(l.length:Int)=4*t:=h3;have h4:l.all Vm.isByte=true:=h4;dsimp only[U12];refine Tot.bif (fun h=> ?_) fun h=> ?_
    .have h:=DC h;refine Tot.chk (Dk) (Tot.chk (Dk) (Tot.chk (Dk) (hk _ ?_ ?_)))
     .show 0<=i64.wrap (t+1)/\i64.wrap (t+1)<=8/\((l++[_,_,_,_]).length:Int)=4*i64.wrap (t+1)/\(l++[_,_,_,_]).all Vm.isByte=true;rw[w64];refine⟨by omega,by omega,by simp;omega,?_⟩;rw[GH,h4];simp only[List.all_cons,OT,List.all_nil,FY]
     .show(8 - i64.wrap (t+1)).toNat<(8 - t).toNat
      rw[w64];omega
    .have h:=Ep h;dsimp only[U11];refine Tot.chk h4 (Tot.some ?_);show(l.map Vm.byteOf).length=32;rw[D7];omega
def AvD {N:Nat} (hN:150<=N) (hM:N<=1000000000) {l:List Bs} (hl:l.length<N) (hs: ∀ s∈l,s.length+64<N):Tot (fun r=>r.length=32) (vI N l):=by
 unfold vI;try simp -zeta only[Ap]
 refine Tot.call (P:=fun r=>(Ahe r).length<64) ⟨_,rfl,by show 0<64;omega⟩ fun v hv=> ?_;refine Sv (fun x=>0<=x.1/\x.1<=(l.length:Int)/\(Ahe x.2).length<64) (fun x=>((l.length:Int) - x.1).toNat) (Tot _) ?_ N _ ⟨by show(0:Int)<=0;omega,by show(0:Int)<=l.length;omega,hv⟩ (by show((l.length:Int) - 0).toNat<N;omega);rintro ⟨t,b0,b1,b2,b3,b4,b5,b6,b7,b8,b9⟩ ⟨h1,h2,h3⟩ k hk;have h1:0<=t:=h1;have h2:t<=(l.length:Int):=h2;dsimp only[U11];refine Tot.bif (fun h=> ?_) fun h=> ?_
 .have h:=DC h;have hlt:t.toNat<l.length:=by omega
  refine Tot.chk (Dk h1) (Tot.chk (Dk h) ((AuL (by omega) hM _ h3 _ (by rw[getD_lt _ _ _ hlt];exact hs _ (Ec hlt))).call fun v hv=>hk _ ?_ ?_))
  .show 0<=i64.wrap (t+1)/\i64.wrap (t+1)<=(l.length:Int)/\(Ahe v).length<64;rw[w64];exact⟨by omega,by omega,hv⟩
  .show((l.length:Int) - i64.wrap (t+1)).toNat<((l.length:Int) - t).toNat
   rw[w64];omega
 .dsimp only[U10];exact(Axh hN _ h3).call fun v hv=>Tot.some hv
def AsJ {N:Nat} (hN:150<=N) (hM:N<=1000000000) {l:List Bs} (hl:l.length<N) (hs: ∀ s∈l,s.length+64<N):Tot (fun r=>r.length=16) (Nh N l):=by
 unfold Nh;try simp -zeta only[Ap]
 refine(AvD hN hM hl hs).call fun v hv=>Tot.chk (Dk) (Tot.some ?_);rw[Zz _ _ _]
def b4P (p:Int):Bs:=List.map Vm.byteOf ([u8.wrap (p.fdiv (16777216)),u8.wrap (p.fdiv (65536)),u8.wrap (p.fdiv (256)),u8.wrap p]:List Int)
def b1P (p:Int):Bs:=List.map Vm.byteOf ([u8.wrap p]:List Int)
def AkX (N:Nat) (p:Int):rW N p=some (b4P p):=by
 unfold rW;try simp -zeta only[Ap]
 rw[KQ _ (by simp [OT])];rfl
def Aq1 (N:Nat) (p:Int):rV N p=some (b1P p):=by
 unfold rV;try simp -zeta only[Ap]
 rw[KQ _ (by simp [OT])];rfl
def Aue (N:Nat) (p:Int):dE N p=some (b4P p):=AkX N p
def hS (N:Nat) (l:List Bs):Bs:=(Nh N l).getD []
structure Hok (N:Nat) (l:List Bs):Prop where
 n:150<=N
 m:N<=1000000000
 len:l.length<N
 each: ∀ s∈l,s.length+64<N
def AfK {N:Nat} {l:List Bs} (h:Hok N l):Nh N l=some (hS N l)/\(hS N l).length=16:=by obtain⟨v,e,hv⟩:=AsJ h.n h.m h.len h.each;unfold hS;rw[e];exact⟨rfl,hv⟩
def wk (f:Int->Bs->Bs) (a:Int):Nat->Bs->Bs
 | 0,x=>x
 | n+1,x=>wk f (a+1) n (f a x)
def Azi (f:Int->Bs->Bs): ∀(n:Nat) (a:Int) (m:Nat) (x:Bs),wk f a (n+m) x=wk f (a+n) m (wk f a n x):=by
 intro n
 induction n with
 | zero=>intro a m x;simp [wk]
 | succ n ih =>intro a m x;rw[show n+1+m=(n+m)+1 by omega];show wk f (a+1) (n+m) (f a x)=wk f (a+((n+1:Nat):Int)) m (wk f (a+1) n (f a x));rw[ih];congr 1;omega
def AuJ {f:Int->Bs->Bs} (hf: ∀ t x,x.length=16->(f t x).length=16): ∀(n:Nat) (a:Int) (x:Bs),x.length=16->(wk f a n x).length=16:=by
 intro n
 induction n with
 | zero=>intro a x h;exact h
 | succ n ih=>intro a x h;exact ih _ _ (hf _ _ h)
def st (N:Nat) (p0:Bs) (p1 p2 t:Int) (x:Bs):Bs:=hS N [[67],p0,b4P p1,b1P p2,b1P t,x]
structure Big (N:Nat):Prop where
 n:2000<=N
 m:N<=1000000000
def hok {N:Nat} (h:Big N) {l:List Bs} (hl:l.length<=100) (hs:l.all (fun s=>decide (s.length<=1000))=true):Hok N l:=by have h1:=h.n;refine⟨by omega,h.m,by omega,fun s hm=> ?_⟩;have:=DC (DF.1 hs s hm);omega
def Axa {N:Nat} (h:Big N) {p0:Bs} (h0:p0.length<=1000) (p1 p2 t:Int) {x:Bs} (hx:x.length=16):Nh N [[67],p0,b4P p1,b1P p2,b1P t,x]=some (st N p0 p1 p2 t x)/\(st N p0 p1 p2 t x).length=16 :=
 AfK (hok h (by simp) (by simp [h0,hx,b4P,b1P]))
def walk_eq {N:Nat} (h:Big N) {p0:Bs} (h0:p0.length<=1000) (p1 p2:Int) {a b:Int} (ha:0<=a) (hab:a<=b) (hb:b<=15) {x:Bs} (hx:x.length=16):ZJ N p0 p1 p2 a b x=some (wk (st N p0 p1 p2) a (b - a).toNat x):=by
 unfold ZJ;have hn:=h.n;refine Nu (X:=Bs×Int) (fun x=>x.1.length=16/\0<=x.2/\x.2<=b) (fun x=>(b - x.2).toNat) (fun x=>some (wk (st N p0 p1 p2) x.2 (b - x.2).toNat x.1)) ?_ N _ ⟨hx,ha,hab⟩ (by show(b - a).toNat<N;omega);rintro ⟨x,t⟩ ⟨h1,h2,h3⟩ k hk;have h1:x.length=16:=h1;have h2:0<=t:=h2;have h3:t<=b:=h3;dsimp only[U2];by_cases hlt:t<b
 .rw[Dk hlt,cond_true,AkX,Jt,Aq1,Jt,Aq1,Jt];obtain⟨e1,e2⟩:=Axa h h0 p1 p2 t h1;rw[e1,Jt,w64];refine(hk _ ⟨e2,by show 0<=t+1;omega,by show t+1<=b;omega⟩ (by show(b - (t+1)).toNat<(b - t).toNat;omega)).trans ?_;show some (wk _ (t+1) (b - (t+1)).toNat _)=some (wk _ t (b - t).toNat x);rw[show(b - t).toNat=(b - (t+1)).toNat+1 by omega];rfl
 .rw[Dq hlt,cond_false];rw[show(b - t).toNat=0 by omega];rfl
def AdO {ρ :Type} {B:Int×List Bs->(Int×List Bs->Option ρ)->(List Bs->Option ρ)->Option ρ} {kx:List Bs->Option ρ} (n:Nat) (g:Nat->Bs)
 (h: ∀(i:Nat) (acc:List Bs) (k:Int×List Bs->Option ρ),i<n->acc.length=i->B ((i:Int),acc) k kx=k ((i:Int)+1,acc++[g i]))
 (hend: ∀(acc:List Bs) (k:Int×List Bs->Option ρ),acc.length=n->B ((n:Int),acc) k kx=kx acc) {N:Nat} (hN:n<N:=by omega):J3 B N (0,[]) kx=kx ((List.range n).map g):=by
 refine Nu (fun x=>x.1=(x.2.length:Int)/\x.2.length<=n/\x.2=(List.range x.2.length).map g) (fun x=>n - x.2.length) (fun _=>kx ((List.range n).map g)) ?_ N _ ⟨rfl,Em _,rfl⟩ (by show n - 0<N;omega);rintro ⟨t,acc⟩ ⟨h1,h2,h3⟩ k hk;have h1:t=(acc.length:Int):=h1;have h2:acc.length<=n:=h2;have h3:acc=(List.range acc.length).map g:=h3;subst h1;by_cases hl:acc.length<n
 .rw[h acc.length acc k hl rfl];refine hk _ ⟨by show(acc.length:Int)+1=((acc++[g acc.length]).length:Int);simp,by show(acc++[g acc.length]).length<=n;simp;omega,?_⟩ (by show n - (acc++[g acc.length]).length<n - acc.length;simp;omega);show acc++[g acc.length]=(List.range (acc++[g acc.length]).length).map g;rw[Dv,List.length_singleton,Iu,Fq,<- h3];rfl
 .have e:acc.length=n:=by omega
  have h4:=hend acc k e;rw[<- e]at h4;rw[h4,<- e];exact congrArg kx h3
def Aso (N:Nat) (p1:Bs) (p2:Int) (i:Nat):Bs:=hS N [[83],p1,b4P p2,b1P (i:Int)]
def Yi {N:Nat} (h:Big N) {p1:Bs} (h1:p1.length<=1000) (p2:Int) (i:Nat):YP N p1 p2 (i:Int)=some (Aso N p1 p2 i)/\(Aso N p1 p2 i).length=16:=by obtain⟨e1,e2⟩:=AfK (N:=N) (l:=[[83],p1,b4P p2,b1P (i:Int)]) (hok h (by simp) (by simp [h1,b4P,b1P]));refine⟨?_,e2⟩;unfold YP;rw[AkX,Jt,Aq1,Jt,e1];rfl
def AnY (N:Nat) (p0 p1:Bs) (p2:Int) (i:Nat):Bs:=wk (st N p0 p2 (i:Int)) 0 15 (Aso N p1 p2 i)
def st_len {N:Nat} (h:Big N) {p0:Bs} (h0:p0.length<=1000) (p1 p2:Int): ∀ t x,x.length=16->(st N p0 p1 p2 t x).length=16:=fun t _ hx=>(Axa h h0 p1 p2 t hx).2
def AfG: ∀(l:List Bs),(∀ s∈l,s.length=16)->l.flatten.length=16*l.length:=by
 intro l
 induction l with
 | nil=>intro _;rfl
 | cons a r ih =>intro h;rw[List.flatten_cons,Dv,h a Dy,ih fun s hs=>h s (D5 _ hs),List.length_cons];omega
def iN (b:UInt8):Int:=(b.toNat:Int)
def Atd (l:Bs):(l.map iN).map Vm.byteOf=l:=by
 rw[EU]
 conv=>rhs;rw[<- Gj l]
 refine Ez fun b _=> ?_;show UInt8.ofNat ((b.toNat:Int)).toNat=b;simp
def AtO (l:Bs):(l.map iN).all Vm.isByte=true:=by rw[DF];intro x hx;obtain⟨b,_,rfl⟩:=DN.1 hx;have:=UF b;unfold Vm.isByte iN;rw[Dk,Dk];rfl
def join_eq {N:Nat} (h:Big N) {l:List Bs} (hl:l.length<=1000) (h16: ∀ s∈l,s.length=16):kN N l=some l.flatten:=by
 have hn:=h.n;have hf:=AfG l h16;unfold kN;try simp -zeta only[Ap]
 rw[w64 (x:=(l.length:Int)*16),KQ _ (Dk),KQ _ (Dk),KQ _ (Dk)];refine(Nu (X:=Int×List Int) (fun x=>0<=x.1/\x.1<=(l.length:Int)/\x.2.length=16*l.length/\x.2.take (16*x.1.toNat)=((l.take x.1.toNat).flatten).map iN) (fun x=>((l.length:Int) - x.1).toNat) (fun _=>some l.flatten) ?_ N _ ⟨by show(0:Int)<=0;omega,by show(0:Int)<=l.length;omega,by show(List.replicate _ _).length=_;rw[EF];omega,by simp⟩ (by show((l.length:Int) - 0).toNat<N;omega));rintro ⟨t,y⟩ ⟨h1,h2,h3,h4⟩ k hk;have h1:0<=t:=h1;have h2:t<=(l.length:Int):=h2;have h3:y.length=16*l.length:=h3;have h4:y.take (16*t.toNat)=((l.take t.toNat).flatten).map iN:=h4;dsimp only[U2];by_cases hlt:t<(l.length:Int)
 .have hi:t.toNat<l.length:=by omega
  have hg:l.getD t.toNat []=l[t.toNat]:=getD_lt _ _ _ hi;have h5:(l.getD t.toNat []).length=16:=by rw[hg];exact h16 _ (Ec hi)
  have h6:l.take (t.toNat+1)=l.take t.toNat++[l.getD t.toNat []]:=by rw[hg,Hr hi]
  have h7:((l.take t.toNat).flatten).length=16*t.toNat:=by rw[AfG _ fun s hs=>h16 s (FO hs),DD];omega
  generalize l.getD t.toNat []=s at h5 h6 ⊢;rw[Dk hlt,cond_true,KQ _ (Dk h1),KQ _ rfl,w64 (x:=t*16),w64 (x:=t+1),KQ _ (Dk),KQ _ (Dk),KQ _ (Dk),KQ _ (Dk)];have e16:(t*16).toNat=16*t.toNat:=by omega
  rw[e16];have h8:(y.take (16*t.toNat)).length=16*t.toNat:=by rw[DD];omega
  refine hk _ ⟨by show 0<=t+1;omega,by show t+1<=_;omega,?_,?_⟩ (by show((l.length:Int) - (t+1)).toNat<((l.length:Int) - t).toNat;omega)
  .show(oP y (16*t.toNat) s).length=_;unfold oP;simp only[Dv,D7,Es,h8];omega
  .show(oP y (16*t.toNat) s).take (16*(t+1).toNat)=((l.take (t+1).toNat).flatten).map iN;rw[show(t+1).toNat=t.toNat+1 by omega,h6,G9,Fq,<- h4];unfold oP;rw[Gv (by simp only[Dv,D7,h8];omega)];rw[Fg (by simp only[Dv,D7,h8];omega)];simp [iN]
 .have et:t.toNat=l.length:=by omega
  rw[Dq hlt,cond_false];rw[et,<- h3,EP,EP]at h4;rw[h4];show chk _ _=_;rw[KQ _ (AtO _),Atd]
def ZF {n:Nat} {g:Nat->Bs} (h: ∀ i,(g i).length=16): ∀ s∈(List.range n).map g,s.length=16:=by intro s hs;obtain⟨i,_,rfl⟩:=DN.1 hs;exact h i
def Awg (N:Nat) (p0:Bs) (p1:Int) (l:List Bs):Bs:=hS N [[76],p0,b4P p1,l.flatten]
def Abw {N:Nat} (h:Big N) {p0:Bs} (h0:p0.length<=1000) (p1:Int) {l:List Bs} (hl:l.length<=60) (h16: ∀ s∈l,s.length=16):YO N p0 p1 l=some (Awg N p0 p1 l)/\(Awg N p0 p1 l).length=16:=by have hf:=AfG l h16;obtain⟨e1,e2⟩:=AfK (N:=N) (l:=[[76],p0,b4P p1,l.flatten]) (hok h (by simp) (by simp only[List.all_cons,List.all_nil,hf,Gu,Dk h0];rw[Dk (by omega:16*l.length<=1000)];simp [b4P]));refine⟨?_,e2⟩;unfold YO;rw[AkX,Jt,join_eq h (by omega) h16,Jt,e1];rfl
def Aat (N:Nat) {p0:Bs} (h0:p0.length=16) {p:Int} (h1:0<=p) (h2:p<256):RI N p0 p=some 0:=by
 unfold RI;try simp -zeta only[Ap]
 rw[show((p0.length:Int) != 16)=false by rw[h0];rfl,Dq (by omega: ¬ p<0),Dq (by omega: ¬ p>=256)];rfl
def Aav (N:Nat) {p0 p1:Bs} (h0:p0.length=16) (hs:p1.length=32) {p:Int} (h1:0<=p) (h2:p<256):UR N p0 p1 p=some 0:=by
 unfold UR;try simp -zeta only[Ap]
 rw[show((p0.length:Int) != 16)=false by rw[h0];rfl,show((p1.length:Int) != 32)=false by rw[hs];rfl];show Jr (RI N p0 p) _=_;rw[Aat N h0 h1 h2];rfl
def AeZ {N:Nat} (h:Big N) {p0 p1:Bs} (h0:p0.length<=1000) (hs:p1.length<=1000) (p2:Int) (i:Nat):(AnY N p0 p1 p2 i).length=16:=AuJ (st_len h h0 p2 i) _ _ _ (Yi h hs p2 i).2
def pkP (N:Nat) (p0 p1:Bs) (p2:Int):Bs:=Awg N p0 p2 ((List.range 35).map (AnY N p0 p1 p2))
def AsI {N:Nat} (h:Big N) {p0 p1:Bs} (h0:p0.length=16) (hs:p1.length=32) {p2:Int} (h1:0<=p2) (h2:p2<256):iJ N p0 p1 p2=some (pkP N p0 p1 p2,0):=by
 have hn:=h.n;unfold iJ;try simp -zeta only[Ap]
 rw[Aav N h0 hs h1 h2];show J3 (X:=Int×List Bs) (Y:=List Bs) _ N (0,[]) _=_;refine(AdO 35 (AnY N p0 p1 p2) (fun i acc k hi ha=> ?_) (fun acc k ha=> ?_)).trans ?_
 .dsimp only[U2];rw[Dk (by omega:(i:Int)<35),cond_true,(Yi h (by omega) p2 i).1,Jt,walk_eq h (by omega) p2 i (FN 0) (by omega) (FN 15) (Yi h (by omega) p2 i).2,Jt,KQ _ (Dk),w64];rfl
 .rfl
 .rw[(Abw h (by omega) p2 (by simp) (ZF (AeZ h (by omega) (by omega) p2))).1];rfl
def pk_len {N:Nat} (h:Big N) {p0 p1:Bs} (h0:p0.length=16) (hs:p1.length=32) (p2:Int):(pkP N p0 p1 p2).length=16:=(Abw h (by omega) p2 (by simp) (ZF (AeZ h (by omega) (by omega) p2))).2
def Dig (l:List Int):Prop:=l.length=35/\ ∀ i,0<=l.getD i 0/\l.getD i 0<=15
def Azl (a:Nat) (h:a<256):0<=JE .and .u8 (a:Int) 15/\JE .and .u8 (a:Int) 15<=15:=by
 have: ∀ a:Fin 256,0<=JE .and .u8 ((a.val:Nat):Int) 15/\JE .and .u8 ((a.val:Nat):Int) 15<=15:=by decide +kernel
 exact this ⟨a,h⟩
def AsO (a:Nat) (h:a<1024):0<=JE .and .i64 (a:Int) 15/\JE .and .i64 (a:Int) 15<=15:=by
 have: ∀ a:Fin 1024,0<=JE .and .i64 ((a.val:Nat):Int) 15/\JE .and .i64 ((a.val:Nat):Int) 15<=15:=by decide +kernel
 exact this ⟨a,h⟩
def AvC {l:List Int} (h: ∀ x∈l,0<=x/\x<=15) (i:Nat):0<=l.getD i 0/\l.getD i 0<=15:=by
 by_cases hi:i<l.length
 .rw[getD_lt _ _ _ hi];exact h _ (Ec hi)
 .rw[Dn,Ef (by omega)];simp
def Ard (a b:Nat):(a:Int).fdiv (b:Int)=((a / b:Nat):Int):=by rw[FZ _ (Int.natCast_nonneg b)];rfl
def Aql {N:Nat} (h:Big N) {p:Bs} (hp:p.length=16):Tot (fun r=>r.2=0/\Dig r.1) (Uw N p):=by
 have hn:=h.n;unfold Uw;try simp -zeta only[Ap]
 rw[show((p.length:Int) != 16)=false by rw[hp];rfl];refine Tot.chk (Dk) ?_;show Tot _ (J3 (X:=Int×Int×List Int×List Int) _ N (0,0,p.map iN,[]) _);refine Sv (fun x=>0<=x.2.1/\x.2.1<=16/\x.2.2.1=p.map iN/\(x.2.2.2.length:Int)=2*x.2.1/\(∀ d∈x.2.2.2,0<=d/\d<=15)/\0<=x.1/\x.1<=30*x.2.1) (fun x=>(16 - x.2.1).toNat) (Tot _) ?_ N _ ⟨by show(0:Int)<=0;omega,by show(0:Int)<=16;omega,rfl,rfl,(fun _ h=>by cases h),by show(0:Int)<=0;omega,by show(0:Int)<=30*0;omega⟩ (by show((16:Int) - 0).toNat<N;omega);rintro ⟨c,t,l,acc⟩ ⟨h1,h2,h3,h4,h5,h6,h7⟩ k hk;have h1:0<=t:=h1;have h2:t<=16:=h2;have h3:l=p.map iN:=h3;have h4:(acc.length:Int)=2*t:=h4;have h5: ∀ d∈acc,0<=d/\d<=15:=h5;have h6:0<=c:=h6;have h7:c<=30*t:=h7;dsimp only[U4];refine Tot.bif (fun hb=> ?_) fun hb=> ?_
 .have hb:=DC hb;rw[D7,hp]at hb;have hl:t.toNat<l.length:=by rw[h3,D7];omega
  obtain⟨a,ha,hlt⟩: ∃ a:Nat,l.getD t.toNat 0=(a:Int)/\a<256:=by rw[getD_lt _ _ _ hl];have hm:l[t.toNat]∈p.map iN:=h3▸Ec hl;obtain⟨b,_,hb⟩:=DN.1 hm;exact⟨b.toNat,hb.symm,UF b⟩
  obtain⟨q1,q2⟩:=Azl a hlt;have hd:(a:Int).fdiv 16=((a / 16:Nat):Int):=Ard a 16;rw[ha,hd];generalize JE .and .u8 (a:Int) 15=y at q1 q2 ⊢;rw[w64 (x:=((a / 16:Nat):Int)),w64 (x:=y),w64 (x:=15 - ((a / 16:Nat):Int)),w64 (x:=15 - ((a / 16:Nat):Int)+15),w64 (x:=15 - ((a / 16:Nat):Int)+15 - y),w64 (x:=t+1),w64];refine Tot.chk (Dk h1) (Tot.chk (Dk) (Tot.chk (Dk) (Tot.chk (Dk) (hk _ ⟨by show 0<=t+1;omega,by show t+1<=16;omega,h3,?_,?_,?_,?_⟩ ?_))))
  .show((acc++[_,_]).length:Int)=2*(t+1);simp;omega
  .intro d hd;have hd:d∈acc++[((a / 16:Nat):Int),y]:=hd;rcases DR.1 hd with hd | hd
   .exact h5 d hd
   .simp only[D8,F6,Ho]at hd;rcases hd with rfl | rfl<;>omega
  .show 0<=c+(15 - ((a / 16:Nat):Int)+15 - y);omega
  .show c+(15 - ((a / 16:Nat):Int)+15 - y)<=30*(t+1);omega
  .show(16 - (t+1)).toNat<(16 - t).toNat
   omega
 .have hb:=Ep hb;rw[D7,hp]at hb;dsimp only[U2];refine Tot.chk (Dk) (Tot.some ⟨rfl,?_,?_⟩)
  .show(acc++[_,_,_]).length=35;simp;omega
  .obtain⟨n,hn,hn2⟩: ∃ n:Nat,c=(n:Int)/\n<=480:=⟨c.toNat,by omega,by omega⟩
   refine AvC fun x hx=> ?_;have hx:x∈acc++[c.fdiv 256,JE .and .i64 (c.fdiv 16) 15,JE .and .i64 c 15]:=hx;rcases DR.1 hx with hx | hx
   .exact h5 x hx
   .simp only[D8,F6,Ho]at hx;subst hn;have e1:(n:Int).fdiv 256=((n / 256:Nat):Int):=Ard n 256;have e2:(n:Int).fdiv 16=((n / 16:Nat):Int):=Ard n 16;rcases hx with rfl | rfl | rfl
    .rw[e1];omega
    .rw[e2];exact AsO _ (by omega)
    .exact AsO _ (by omega)
def Avs: ∀(l:List Bs) (i:Nat),(∀ s∈l,s.length=16)->i<l.length->J6 l.flatten (16*i) (16*(i+1))=l.getD i []:=by
 intro l
 induction l with
 | nil=>intro i _ h;simp at h
 | cons a r ih =>
  intro i h hi;have ha:a.length=16:=h a Dy;cases i with
  | zero =>show((a++r.flatten).take (16*(0+1))).drop (16*0)=a;rw[Gv (by omega),Fg (by omega)];rfl
  | succ i =>have:=ih i (fun s hs=>h s (D5 _ hs)) (by simpa using hi);show((a++r.flatten).take (16*(i+1+1))).drop (16*(i+1))=r.getD i [];rw[<- this];rw[show 16*(i+1+1)=a.length+16*(i+1) by omega,List.take_length_add_append,show 16*(i+1)=a.length+16*i by omega,List.drop_length_add_append];rw[ha,show 16+16*i=16*(i+1) by omega];rfl
def Ahu (N:Nat) (d:Bs):List Int:=((Uw N d).getD ([],0)).1
def AiF {N:Nat} (h:Big N) {d:Bs} (hd:d.length=16):Uw N d=some (Ahu N d,0)/\Dig (Ahu N d):=by obtain⟨⟨l,e⟩,h1,h2,h3⟩:=Aql h hd;have h2:e=0:=h2;subst h2;unfold Ahu;rw[h1];exact⟨rfl,h3⟩
def sgP (N:Nat) (p0 p1:Bs) (p2:Int) (d:Bs) (i:Nat):Bs:=wk (st N p0 p2 (i:Int)) 0 ((Ahu N d).getD i 0).toNat (Aso N p1 p2 i)
def pF (N:Nat) (p0 p1:Bs) (p2:Int) (d:Bs):Bs:=((List.range 35).map (sgP N p0 p1 p2 d)).flatten
section
variable {N:Nat} (h:Big N) {p0 p1:Bs} (h0:p0.length=16) (hs:p1.length=32) {p2:Int} (h1:0<=p2) (h2:p2<256) {d:Bs} (hd:d.length=16)
include h h0 hs
theorem Ac9 (p2:Int) (d:Bs) (i:Nat):(sgP N p0 p1 p2 d i).length=16:=AuJ (st_len h (by omega) p2 i) _ _ _ (Yi h (by omega) p2 i).2
theorem xG (p2:Int) (d:Bs):(pF N p0 p1 p2 d).length=560:=by unfold pF;rw[AfG _ (ZF (Ac9 h h0 hs p2 d)),D7,DI]
include h1 h2 hd
theorem Axg:wI N p0 p1 p2 d=some (pF N p0 p1 p2 d,0):=by
 have hn:=h.n;obtain⟨e1,e2,e3⟩:=AiF h hd;unfold wI;try simp -zeta only[Ap]
 rw[Aav N h0 hs h1 h2,Jt];rw[show((0:Int) != 0)=false from rfl,cond_false];rw[e1,Jt];show J3 (X:=Int×List Bs) (Y:=List Bs) _ N (0,[]) _=_;refine(AdO 35 (sgP N p0 p1 p2 d) (fun i acc k hi ha=> ?_) (fun acc k ha=> ?_)).trans ?_
 .have e4:=e3 i;dsimp only[U2];rw[Dk (by omega:(i:Int)<35),cond_true,KQ _ (Dk),KQ _ (Dk),(Yi h (by omega) p2 i).1,Jt,Int.toNat_natCast,walk_eq h (by omega) p2 i (FN 0) e4.1 e4.2 (Yi h (by omega) p2 i).2,Jt,KQ _ (Dk),w64,Int.sub_zero];rfl
 .rfl
 .rw[join_eq h (by simp) (ZF (Ac9 h h0 hs p2 d))];rfl
theorem Aqq:aJ N p0 p2 d (pF N p0 p1 p2 d)=some (pkP N p0 p1 p2,0):=by
 have hn:=h.n;obtain⟨e1,e2,e3⟩:=AiF h hd;have hsl:=xG h h0 hs p2 d;unfold aJ;try simp -zeta only[Ap]
 rw[Aat N h0 h1 h2,Jt];rw[show((0:Int) != 0)=false from rfl,cond_false];rw[e1,Jt];show(bif (((pF N p0 p1 p2 d).length:Int) != 560)then _ else _)=_;rw[show(((pF N p0 p1 p2 d).length:Int) != 560)=false by rw[hsl];rfl,cond_false];refine(AdO 35 (AnY N p0 p1 p2) (fun i acc k hi ha=> ?_) (fun acc k ha=> ?_)).trans ?_
 .have e4:=e3 i;have hc:J6 (pF N p0 p1 p2 d) (16*i) (16*(i+1))=sgP N p0 p1 p2 d i:=by unfold pF;rw[Avs _ _ (ZF (Ac9 h h0 hs p2 d)) (by simpa using hi),getD_lt _ _ _ (by simpa using hi)];simp
  dsimp only[U2];rw[Dk (by omega:(i:Int)<35),cond_true,w64 (x:=(i:Int)*16),w64 (x:=(i:Int)+1),w64];rw[KQ _ (Dk),KQ _ (Dk),KQ _ (Dk),KQ _ (Dk),KQ _ (Dk),show((i:Int)*16).toNat=16*i by omega,show(((i:Int)+1)*16).toNat=16*(i+1) by omega,hc,Int.toNat_natCast,walk_eq h (by omega) p2 i e4.1 e4.2 (FN 15) (Ac9 h h0 hs p2 d i),Jt,KQ _ (Dk)];congr 3;congr 1;unfold sgP AnY;rw[show(15:Nat)=((Ahu N d).getD i 0).toNat+(15 - (Ahu N d).getD i 0).toNat by omega,Azi];congr 1;omega
 .rfl
 .rw[(Abw h (by omega) p2 (by simp) (ZF (AeZ h (by omega) (by omega) p2))).1];rfl
end
def low (b:Int):Int:=if 65<=b/\b<=90 then b+32 else b
def fP (s:Bool×List Int) (b:Int):Bool×List Int:=if b=32 then(decide (0<s.2.length),s.2)else(false,(if s.1 then s.2++[32]else s.2)++[low b])
def W9 (l:List Int):Int:=l.getD (l.length - 1) 0
def fR (acc:List Int) (c:Int):List Int:=if c≠32\/(0<acc.length/\W9 acc≠32)then acc++[c]else acc
def tC (l:List Int):List Int:=if 0<l.length/\W9 l=32 then l.take (l.length - 1)else l
def AaN (l:List Int) (x:Int):W9 (l++[x])=x:=by simp [W9,Dn]
def Ay7 {b:Int} (h:b≠32) (h0:0<=b):low b≠32:=by unfold low;split<;>omega
def Azy:low 32=32:=by decide
def runs: ∀(l:List Int) (p:Bool) (acc:List Int),(∀ b∈l,0<=b)->(p=true->0<acc.length)->(0<acc.length->W9 acc≠32) ->
 tC ((l.map low).foldl fR (acc++if p then [32]else []))=(l.foldl fP (p,acc)).2:=by
 intro l
 induction l with
 | nil =>
  intro p acc _ hp ha;show tC (acc++if p then [32]else [])=acc;cases p with
  | true =>have:=hp rfl;unfold tC;rw[Du rfl,AaN,Du ⟨by simp,rfl⟩];simp
  | false =>rw[Dp (by simp),DV];unfold tC;rw[Dp fun h=>ha h.1 h.2]
 | cons b r ih =>
  intro p acc h hp ha;have hb:=h b Dy;have hr: ∀ x∈r,0<=x:=fun x hx=>h x (D5 _ hx);rw[Ei,List.foldl_cons,List.foldl_cons];by_cases h32:b=32
  .subst h32;have e1:fP (p,acc) 32=(decide (0<acc.length),acc):=by unfold fP;rw[Du rfl]
   rw[e1,Azy]
   have e2:fR (acc++if p then [32]else []) 32=acc++if decide (0<acc.length)then [32]else []:=by
    by_cases h0:0<acc.length
    .rw[Dk h0,Du rfl];cases p with
     | true=>unfold fR;rw[Du rfl,AaN,Dp (by simp)]
     | false=>unfold fR;rw[Dp (by decide: ¬(false=true)),DV,Du (Or.inr ⟨h0,ha h0⟩)]
    .have:acc=[]:=by cases acc with | nil=>rfl | cons a t=>simp at h0
     subst this;have hf:p=false:=by cases p with | true=>exact absurd (hp rfl) (by simp) | false=>rfl
     subst hf;rfl
   rw[e2];exact ih _ _ hr (fun h=>DC h) ha
  .have hl:=Ay7 h32 hb;have e1:fP (p,acc) b=(false,(if p then acc++[32]else acc)++[low b]):=by unfold fP;rw[Dp h32]
   have e2:fR (acc++if p then [32]else []) (low b)=((if p then acc++[32]else acc)++[low b])++if false then [32]else []:=by unfold fR;rw[Du (Or.inl hl)];cases p<;>simp
   rw[e1,e2];exact ih _ _ hr (fun h=>by cases h) (fun _=>by rw[AaN];exact hl)
structure FI (n:Nat) (s:Bool×List Int):Prop where
 len:s.2.length<=2*n
 byt:s.2.all Vm.isByte=true
def ZA (b:UInt8):0<=iN b/\iN b<256:=by have:=UF b;unfold iN;omega
def AlG {x:Int} (h:0<=x/\x<256):Vm.isByte x=true:=by unfold Vm.isByte;rw[Dk h.1,Dk h.2];rfl
def Aey {x:Int} (h:0<=x/\x<256):0<=low x/\low x<256:=by unfold low;split<;>omega
def Azs {n:Nat} {s:Bool×List Int} (h:FI n s) (b:UInt8):FI (n+1) (fP s (iN b)):=by
 obtain⟨h1,h2⟩:=h;unfold fP;split
 .exact⟨by show s.2.length<=_;omega,h2⟩
 .have hb:=AlG (Aey (ZA b));refine⟨?_,?_⟩
  .show((if s.1 then s.2++[32]else s.2)++[low (iN b)]).length<=_;split<;>simp<;>omega
  .show((if s.1 then s.2++[32]else s.2)++[low (iN b)]).all Vm.isByte=true;split<;>simp only[GH,h2,hb,List.all_cons,List.all_nil,Gu]<;>rfl
def AnH {E S ρ :Type} (g:S->E->S) (fin:S->Option ρ): ∀(l:List E) (s:S),Qz (fun e s=>(.inr (g s e):Option ρ ⊕ S)) fin l s=fin (l.foldl g s):=by
 intro l
 induction l with
 | nil=>intro s;rfl
 | cons e r ih=>intro s;exact ih _
def Vu (p:Bs):Bs:=((p.foldl (fun s b=>fP s (iN b)) (false,[])).2).map Vm.byteOf
def Acd {N:Nat} {p:Bs} (hN:p.length<N) (hl:p.length<=1000000):dO N p=some (Vu p):=by
 unfold dO;try simp -zeta only[Ap]
 rw[KQ _ (Dk)];refine(Om (X:=Bool×Int×List Int×List Int) (fun i (s:Bool×List Int)=>(s.1,i,p.map iN,s.2)) p 0 (fun i s=>FI i s) (fun e s=>.inr (fP s (iN e))) (fun s=>some (s.2.map Vm.byteOf)) (fun i s hi hI=> ?_) (fun s k hI=> ?_) N (false,[]) ⟨by simp,rfl⟩ hN).trans ?_
 .obtain⟨q,acc⟩:=s;obtain⟨h1,h2⟩:=hI;have h1:acc.length<=2*i:=h1;have hg:(p.map iN).getD i 0=iN (p.getD i 0):=by simp [Dn,hi]
  refine⟨fun k=> ?_,Azs ⟨h1,h2⟩ _⟩;obtain⟨b1,b2⟩:=ZA (p.getD i 0);generalize iN (p.getD i 0)=b at hg b1 b2 ⊢;dsimp only[U4,U3];have hm:(p.map fun(b:UInt8)=>((b.toNat:Int)))=p.map iN:=rfl;rw[hm];simp only[Int.toNat_natCast,D7,hg,Dk (by omega:(i:Int)<(p.length:Int)),Dk (by omega:(0:Int)<=(i:Int)),Dk hi,cond_true,Jz,P6,w64 (x:=(i:Int)+1)];unfold fP;by_cases h32:b=32
  .subst h32;rw[Du rfl];by_cases h0:0<acc.length
   .rw[Dk h0,Dk (by omega:(acc.length:Int)>0)];rfl
   .rw[Dq h0,Dq (by omega: ¬(acc.length:Int)>0)];rfl
  .rw[Dp h32,Fp.2 h32,cond_false]
   have hlow: ∀(K:Int->Option Bs),(bif bif decide (b>=65)then decide (b<=90)else false then K (u8.wrap (b+32))else K b)=K (low b):=by
    intro K;unfold low;by_cases g1:65<=b
    .by_cases g2:b<=90
     .rw[Dk (show b>=65 from g1),Dk g2,Du ⟨g1,g2⟩,w8,show(b+32) % 256=b+32 by omega];rfl
     .rw[Dk (show b>=65 from g1),Dq g2,Dp fun h=>g2 h.2];rfl
    .rw[Dq (show ¬ b>=65 from g1),Dp fun h=>g1 h.1];rfl
   cases q with
   | true =>rw[cond_true,KQ _ (Dk)];dsimp only[U3];rw[TJ,VD,QR];refine(hlow fun v=>chk (decide (((acc++[32]).length+1)*2<=140737488355328)) (k (false,(i:Int)+1,p.map iN,acc++[32]++[v]))).trans ?_;rw[KQ _ (Dk (by simp;omega))];rfl
   | false =>rw[cond_false];dsimp only[U3];rw[TJ,VD,QR];refine(hlow fun v=>chk (decide ((acc.length+1)*2<=140737488355328)) (k (false,(i:Int)+1,p.map iN,acc++[v]))).trans ?_;rw[KQ _ (Dk)];rfl
 .obtain⟨h1,h2⟩:=hI;dsimp only[U4];rw[D7,A0x,cond_false,KQ _ h2]
 .rw[AnH];rfl
def AaU (p:Bs):Bs:=((p.map iN).map low).map Vm.byteOf
def AuP {N:Nat} {p:Bs} (hN:p.length<N) (hl:p.length<=1000000):aO N p=some (AaU p):=by
 unfold aO;try simp -zeta only[Ap]
 rw[KQ _ (Dk)];refine Nu (X:=Int×List Int) (fun x=>0<=x.1/\x.1<=(p.length:Int)/\x.2=((p.map iN).take x.1.toNat).map low++(p.map iN).drop x.1.toNat) (fun x=>((p.length:Int) - x.1).toNat) (fun _=>some (AaU p)) ?_ N _ ⟨by show(0:Int)<=0;omega,by show(0:Int)<=p.length;omega,rfl⟩ (by show((p.length:Int) - 0).toNat<N;omega);rintro ⟨t,l⟩ ⟨h1,h2,h3⟩ k hk;have h1:0<=t:=h1;have h2:t<=(p.length:Int):=h2;have h3:l=((p.map iN).take t.toNat).map low++(p.map iN).drop t.toNat:=h3;have hlen:l.length=p.length:=by rw[h3];simp;omega
 dsimp only[U2];rw[D7];by_cases hlt:t<(p.length:Int)
 .have hi:t.toNat<(p.map iN).length:=by rw[D7];omega
  have hd:(p.map iN).drop t.toNat=(p.map iN)[t.toNat]::(p.map iN).drop (t.toNat+1):=EN hi;have ht:(p.map iN).take (t.toNat+1)=(p.map iN).take t.toNat++[(p.map iN)[t.toNat]]:=Hr hi;obtain⟨b1,b2⟩:0<=(p.map iN)[t.toNat]/\(p.map iN)[t.toNat]<256:=by rw[G8];exact ZA _
  have hA:(((p.map iN).take t.toNat).map low).length=t.toNat:=by rw[D7,DD];omega
  rw[hd]at h3;generalize (p.map iN)[t.toNat]=b at h3 ht b1 b2;have hg:l.getD t.toNat 0=b:=by rw[h3,Dn,ED (by omega),hA,GL];rfl
  have hs: ∀ c,l.set t.toNat c=((p.map iN).take t.toNat).map low++c::(p.map iN).drop (t.toNat+1):=fun c=>by rw[h3,G5 _ _ (by omega),hA,GL];rfl
  have fin: ∀ c,c=low b->k (t+1,l.set t.toNat c)=some (AaU p):=fun c hc=>by
   refine hk _ ⟨by show 0<=t+1;omega,by show t+1<=_;omega,?_⟩ (by show((p.length:Int) - (t+1)).toNat<((p.length:Int) - t).toNat;omega);show l.set t.toNat c=((p.map iN).take (t+1).toNat).map low++(p.map iN).drop (t+1).toNat
   rw[hs,show(t+1).toNat=t.toNat+1 by omega,ht,Fq,hc,Ee];rfl
  have hself:l.set t.toNat b=l:=by rw[hs,<- h3]
  simp only[hg,Dk hlt,Dk h1,Dk (by omega:t<(l.length:Int)),Dk (by omega:t.toNat<l.length),cond_true,Jz,Ea,TJ,VD,QR,w64 (x:=t+1)];by_cases g1:65<=b
  .rw[Dk (show b>=65 from g1)];by_cases g2:b<=90
   .rw[Dk g2];refine Ew (show _=k (t+1,l.set t.toNat (u8.wrap (b+32)))from rfl) (fin _ ?_);unfold low;rw[w8,Du ⟨g1,g2⟩];omega
   .rw[Dq g2];refine Ew (show _=k (t+1,l)from rfl) ?_;have:=fin b (by unfold low;rw[Dp fun h=>g2 h.2]);rwa [hself]at this
  .rw[Dq (show ¬ b>=65 from g1)];refine Ew (show _=k (t+1,l)from rfl) ?_;have:=fin b (by unfold low;rw[Dp fun h=>g1 h.1]);rwa [hself]at this
 .rw[Dq hlt,cond_false];have et:t.toNat=(p.map iN).length:=by rw[D7];omega
  rw[et,EP,Gq,DV]at h3;rw[h3,KQ _ ?_]
  .rfl
  .rw[DF];intro x hx;obtain⟨y,hy,rfl⟩:=DN.1 hx;obtain⟨b,_,rfl⟩:=DN.1 hy;exact AlG (Aey (ZA b))
def Azx {x:Int} (h:0<=x/\x<256):iN (Vm.byteOf x)=x:=by unfold iN Vm.byteOf;rw[FH];have:x.toNat % 2 ^ 8=x.toNat:=FC (by omega);rw[this];omega
def Ax8 (p:Bs):(AaU p).map iN=(p.map iN).map low:=by unfold AaU;simp only[EU];refine Ez fun b _=> ?_;exact Azx (Aey (ZA b))
structure FJ (n:Nat) (s:List Int):Prop where
 len:s.length<=n
 byt:s.all Vm.isByte=true
def Azt {n:Nat} {s:List Int} (h:FJ n s) (b:UInt8):FJ (n+1) (fR s (iN b)):=by
 obtain⟨h1,h2⟩:=h;unfold fR;split
 .refine⟨by simp;omega,?_⟩;simp only[GH,h2,AlG (ZA b),List.all_cons,List.all_nil,Gu]
 .exact⟨by omega,h2⟩
def AvA (g:List Int->Int->List Int): ∀(p:Bs) (s:List Int),p.foldl (fun s b=>g s (iN b)) s=(p.map iN).foldl g s:=by
 intro p
 induction p with
 | nil=>intro s;rfl
 | cons b r ih=>intro s;exact ih _
def AvB (g:Bool×List Int->Int->Bool×List Int): ∀(p:Bs) (s:Bool×List Int),p.foldl (fun s b=>g s (iN b)) s=(p.map iN).foldl g s:=by
 intro p
 induction p with
 | nil=>intro s;rfl
 | cons b r ih=>intro s;exact ih _
def Ann {N:Nat} {p:Bs} (hN:p.length<N) (hl:p.length<=1000000):YS N p=some (Vu p):=by
 unfold YS;try simp -zeta only[Ap]
 rw[AuP hN hl,Jt];have hq:(AaU p).length=p.length:=by simp [AaU]
 generalize hqd:AaU p=q at hq;refine(Om (X:=Int×List Int) (fun i (s:List Int)=>(i,s)) q 0 (fun i s=>FJ i s) (fun e s=>.inr (fR s (iN e))) (fun s=>some ((tC s).map Vm.byteOf)) (fun i s hi hI=> ?_) (fun s k hI=> ?_) N [] ⟨by simp,rfl⟩).trans ?_
 .obtain⟨h1,h2⟩:=hI;refine⟨fun k=> ?_,Azt ⟨h1,h2⟩ _⟩;have hg:(((q.getD i 0).toNat:Nat):Int)=iN (q.getD i 0):=rfl;dsimp only[U2];simp only[Int.toNat_natCast,hg];generalize iN (q.getD i 0)=c;rw[Dk (by omega:(i:Int)<(q.length:Int)),Dk (by omega:(0:Int)<=(i:Int)),w64 (x:=(i:Int)+1)];unfold fR;by_cases h0:0<s.length
  .have hx:s.getD (i64.wrap ((s.length:Int) - 1)).toNat 0=W9 s:=by rw[w64];unfold W9;congr 1;omega
   rw[hx,w64 (x:=(s.length:Int) - 1),Dk (by omega:(s.length:Int)>0),Dk (by omega:(0:Int)<=(s.length:Int) - 1),Dk (by omega:(s.length:Int) - 1<(s.length:Int)),Dk (by omega:((s.length:Int) - 1).toNat<s.length),Dk (by omega:(s.length+1)*2<=140737488355328)];by_cases hc:c=32
   .subst hc;by_cases hL:W9 s=32
    .rw[hL,Dp (by simp)];rfl
    .rw[Du (Or.inr ⟨h0,hL⟩),show((W9 s) != 32)=true from EE.2 hL];rfl
   .rw[Du (Or.inl hc),show(c != 32)=true from EE.2 hc];rfl
  .rw[Dq (by omega: ¬(s.length:Int)>0),Dk (by omega:(s.length+1)*2<=140737488355328)];by_cases hc:c=32
   .subst hc;rw[Dp (by simp;omega)];simp only[GU,Eu,EM,Jz];rfl
   .rw[Du (Or.inl hc),show(c != 32)=true from EE.2 hc];simp only[GU,Eu,EM,Jz];rfl
 .obtain⟨h1,h2⟩:=hI;dsimp only[U2];rw[A0x,cond_false];unfold tC;by_cases h0:0<s.length
  .have hx:s.getD (i64.wrap ((s.length:Int) - 1)).toNat 0=W9 s:=by rw[w64];unfold W9;congr 1;omega
   rw[hx,w64 (x:=(s.length:Int) - 1),Dk (by omega:(s.length:Int)>0),Dk (by omega:(0:Int)<=(s.length:Int) - 1),Dk (by omega:(s.length:Int) - 1<(s.length:Int)),Dk (by omega:((s.length:Int) - 1).toNat<s.length),Dk (by omega:(s.length:Int) - 1<=(s.length:Int))];have hcut:J6 s 0 ((s.length:Int) - 1).toNat=s.take (s.length - 1):=by unfold J6;rw[show((s.length:Int) - 1).toNat=s.length - 1 by omega];rfl
   rw[hcut];by_cases hL:W9 s=32
   .rw[hL,Du ⟨h0,rfl⟩];have h3:(s.take (s.length - 1)).all Vm.isByte=true:=DF.2 fun x hx=>DF.1 h2 x (FO hx);rw[h3];rfl
   .rw[Dp (fun h=>hL h.2),show((W9 s)==32)=false from Fp.2 hL,h2];rfl
  .rw[Dq (by omega: ¬(s.length:Int)>0),Dp (fun h=>h0 h.1),h2];simp only[Eu,EM,Jz];rfl
 .rw[AnH,AvA fR,<- hqd,Ax8];have:=runs (p.map iN) false [] (fun b hb=>by obtain⟨x,_,rfl⟩:=DN.1 hb;exact(ZA x).1) (fun h=>by cases h) (fun h=>absurd h (by simp));unfold Vu;rw[AvB fP];rw[Dp (by decide: ¬(false=true)),DV]at this;rw[this]
abbrev dA:Bs×Int×Bs:=(([]:Bs),0,([]:Bs))
def SmA (N:Nat) (a:Bs×Int×Bs):Prop:=a.2.2.length<N/\a.2.2.length<=1000000
def SmR (N:Nat) (l:Yq0):Prop:=l.length<N/\l.length<=1000000/\ ∀ a∈l,SmA N a
def SmN (N:Nat) (l:List Yq0):Prop:=l.length<N/\l.length<=1000000/\ ∀ r∈l,SmR N r
def Al7 {E:Type} (f:E->Bool): ∀(l:List E),Qz (fun e (_:Unit)=>if f e then(.inl (some true):Option Bool ⊕ Unit)else .inr ()) (fun _=>some false) l ()=some (l.any f):=by
 intro l
 induction l with
 | nil=>rfl
 | cons e r ih =>
  rw[List.any_cons];unfold Qz;cases h:f e with
  | true=>rfl
  | false=>exact ih
def Ack {E:Type} (f:E->Bool): ∀(l:List E),Qz (fun e (_:Unit)=>if f e then(.inr ():Option Bool ⊕ Unit)else .inl (some false)) (fun _=>some true) l ()=some (l.all f):=by
 intro l
 induction l with
 | nil=>rfl
 | cons e r ih =>
  rw[List.all_cons];unfold Qz;cases h:f e with
  | true=>exact ih
  | false=>rfl
def AkP {N:Nat} {p q:Bs} (h1:p.length<N/\p.length<=1000000) (h2:q.length<N/\q.length<=1000000):Zg N p q=some (Vu p==Vu q):=by unfold Zg;rw[Acd h1.1 h1.2,Jt,Acd h2.1 h2.2];rfl
def Auy {N:Nat} {p q:Bs} (h1:p.length<N/\p.length<=1000000) (h2:q.length<N/\q.length<=1000000):SC N p q=some (Vu p==Vu q):=by unfold SC;rw[Ann h1.1 h1.2,Jt,Ann h2.1 h2.2];rfl
def atP (a e:Bs×Int×Bs):Bool:=(a.1==e.1)&&(Vu a.2.2==Vu e.2.2)
def eH (l:Yq0) (a:Bs×Int×Bs):Bool:=l.any (atP a)
def AgI {X:Type} {b:(X->Option Bool)->Option Bool} {nx:Unit->X} {I:Unit->Prop} {c:Bool} (hI:I ()) (h: ∀ k,b k=if c then some true else k (nx ())):l7 b nx I (if c then(.inl (some true):Option Bool ⊕ Unit)else .inr ()):=by
 cases c with
 | true=>exact h
 | false=>exact⟨h,hI⟩
def bC {X:Type} {b:(X->Option Bool)->Option Bool} {nx:Unit->X} {I:Unit->Prop} {c:Bool} (hI:I ()) (h: ∀ k,b k=if c then k (nx ())else some false):l7 b nx I (if c then(.inr ():Option Bool ⊕ Unit)else .inl (some false)):=by
 cases c with
 | true=>exact⟨h,hI⟩
 | false=>exact h
def has_eq {N:Nat} {l:Yq0} {a:Bs×Int×Bs} (hl:SmR N l) (ha:SmA N a):XU N l a=some (eH l a):=by
 unfold XU;try simp -zeta only[Ap]
 refine(Om (X:=Int×Bs×Int×Bs) (fun i (_:Unit)=>(i,a.1,a.2.1,a.2.2)) l dA (fun _ _=>True) (fun e (_:Unit)=>if atP a e then(.inl (some true):Option Bool ⊕ Unit)else .inr ()) (fun _=>some false) (fun i s hi _=>AgI trivial fun k=> ?_) (fun s k _=> ?_) N () trivial hl.1).trans (Al7 _ l)
 .have he:SmA N (l.getD i dA):=by rw[getD_lt _ _ _ hi];exact hl.2.2 _ (Ec hi)
  have hn:=hl.2.1;dsimp only[U4];simp only[Int.toNat_natCast,AkP ha he,Dk (by omega:(i:Int)<(l.length:Int)),Dk (by omega:(0:Int)<=(i:Int)),cond_true,Jz,TJ,VD,QR,Option.isSome_some,Ea,Option.getD_some,w64 (x:=(i:Int)+1)];unfold atP;cases (a.1==(l.getD i dA).1)<;>cases (Vu a.2.2==Vu (l.getD i dA).2.2)<;>rfl
 .dsimp only[U4];rw[A0x];rfl
def Aqd {N:Nat} {l:Yq0} {a:Bs×Int×Bs} (hl:SmR N l) (ha:SmA N a):Yf N l a=some (eH l a):=by
 unfold Yf;try simp -zeta only[Ap]
 refine(Om (X:=Int×Bs×Int×Bs) (fun i (_:Unit)=>(i,a.1,a.2.1,a.2.2)) l dA (fun _ _=>True) (fun e (_:Unit)=>if atP a e then(.inl (some true):Option Bool ⊕ Unit)else .inr ()) (fun _=>some false) (fun i s hi _=>AgI trivial fun k=> ?_) (fun s k _=> ?_) N () trivial hl.1).trans (Al7 _ l)
 .have he:SmA N (l.getD i dA):=by rw[getD_lt _ _ _ hi];exact hl.2.2 _ (Ec hi)
  have hn:=hl.2.1;dsimp only[U4];simp only[Int.toNat_natCast,Auy he ha,Dk (by omega:(i:Int)<(l.length:Int)),Dk (by omega:(0:Int)<=(i:Int)),cond_true,Jz,TJ,VD,QR,Option.isSome_some,Ea,Option.getD_some,w64 (x:=(i:Int)+1)];unfold atP;rw[BEq.comm (a:=(l.getD i dA).1),BEq.comm (a:=Vu (l.getD i dA).2.2)];cases (a.1==(l.getD i dA).1)<;>cases (Vu a.2.2==Vu (l.getD i dA).2.2)<;>rfl
 .dsimp only[U4];rw[A0x];rfl
def iM (a b:Yq0):Bool:=(a.length==b.length)&&(List.range a.length).all fun i=>eH b (a.getD i dA)&&eH a (b.getD i dA)
def Ay5 (a b:Nat):((a:Int) != (b:Int))= !(a==b):=by
 by_cases h:a=b
 .subst h;simp
 .rw[EE.2 (by omega),Fp.2 h];rfl
def AgG {N:Nat} {l:Yq0} (hl:SmR N l) {i:Nat} (hi:i<l.length):SmA N (l.getD i dA):=by rw[getD_lt _ _ _ hi];exact hl.2.2 _ (Ec hi)
def same_eq {N:Nat} {a b:Yq0} (ha:SmR N a) (hb:SmR N b):iC N a b=some (iM a b):=by
 unfold iC iM;try simp -zeta only[Ap]
 rw[Ay5];by_cases hl:a.length=b.length
 .rw[show(a.length==b.length)=true from Fb.2 hl,EI,cond_false,EH];have hn:=ha.2.1;refine(Om (X:=Int) (fun i (_:Unit)=>i) (List.range a.length) 0 (fun _ _=>True) (fun i (_:Unit)=>if eH b (a.getD i dA)&&eH a (b.getD i dA)then(.inr ():Option Bool ⊕ Unit)else .inl (some false)) (fun _=>some true) (fun i s hi _=>bC trivial fun k=> ?_) (fun s k _=> ?_) N () trivial (by rw[DI];exact ha.1)).trans (Ack _ _)
  .rw[DI]at hi;have hr:(List.range a.length).getD i 0=i:=by simp [Dn,hi]
   rw[hr];simp only[Int.toNat_natCast,has_eq hb (AgG ha hi),has_eq ha (AgG hb (by omega:i<b.length)),Jt,Dk (by omega:(i:Int)<(a.length:Int)),Dk (by omega:(i:Int)<(b.length:Int)),Dk (by omega:(0:Int)<=(i:Int)),cond_true,Jz,qQ,Acl,QR,Option.isSome_some,Ea,Option.getD_some,w64 (x:=(i:Int)+1)];cases eH b (a.getD i dA)<;>cases eH a (b.getD i dA)<;>rfl
  .rw[DI,A0x];rfl
 .rw[show(a.length==b.length)=false from Fp.2 hl];rfl
def Awm {N:Nat} {a b:Yq0} (ha:SmR N a) (hb:SmR N b):WH N a b=some (iM a b):=by
 unfold WH iM;try simp -zeta only[Ap]
 rw[Ay5];by_cases hl:a.length=b.length
 .rw[show(a.length==b.length)=true from Fb.2 hl,EI,cond_false,EH];have hn:=ha.2.1;refine(Om (X:=Int) (fun i (_:Unit)=>i) (List.range a.length) 0 (fun _ _=>True) (fun i (_:Unit)=>if eH b (a.getD i dA)&&eH a (b.getD i dA)then(.inr ():Option Bool ⊕ Unit)else .inl (some false)) (fun _=>some true) (fun i s hi _=>bC trivial fun k=> ?_) (fun s k _=> ?_) N () trivial (by rw[DI];exact ha.1)).trans (Ack _ _)
  .rw[DI]at hi;have hr:(List.range a.length).getD i 0=i:=by simp [Dn,hi]
   rw[hr];simp only[Int.toNat_natCast,Aqd hb (AgG ha hi),Aqd ha (AgG hb (by omega:i<b.length)),Jt,Dk (by omega:(i:Int)<(a.length:Int)),Dk (by omega:(i:Int)<(b.length:Int)),Dk (by omega:(0:Int)<=(i:Int)),cond_true,Jz,qQ,Acl,QR,Option.isSome_some,Ea,Option.getD_some,w64 (x:=(i:Int)+1)];cases eH b (a.getD i dA)<;>cases eH a (b.getD i dA)<;>rfl
  .rw[DI,A0x];rfl
 .rw[show(a.length==b.length)=false from Fp.2 hl];rfl
def tV (a b:List Yq0):Bool:=(decide (b.length<=a.length))&&(List.range b.length).all fun i=>iM (a.getD i []) (b.getD i [])
def kE (a b:List Yq0):Bool:=(a.length==b.length)&&tV a b
def AgH {N:Nat} {l:List Yq0} (hl:SmN N l) {i:Nat} (hi:i<l.length):SmR N (l.getD i []):=by rw[getD_lt _ _ _ hi];exact hl.2.2 _ (Ec hi)
def AsB {N:Nat} {a b:List Yq0} (ha:SmN N a) (hb:SmN N b):VF N a b=some (tV a b):=by
 unfold VF tV;try simp -zeta only[Ap]
 by_cases hl:b.length<=a.length
 .rw[A0x,Dk hl,cond_false,EH];have hn:=hb.2.1;refine(Om (X:=Int×List Yq0×List Yq0) (fun i (_:Unit)=>(i,a,b)) (List.range b.length) 0 (fun _ _=>True) (fun i (_:Unit)=>if iM (a.getD i []) (b.getD i [])then(.inr ():Option Bool ⊕ Unit)else .inl (some false)) (fun _=>some true) (fun i s hi _=>bC trivial fun k=> ?_) (fun s k _=> ?_) N () trivial (by rw[DI];exact hb.1)).trans (Ack _ _)
  .rw[DI]at hi;have hr:(List.range b.length).getD i 0=i:=by simp [Dn,hi]
   rw[hr];dsimp only[U3];simp only[Int.toNat_natCast,same_eq (AgH ha (by omega:i<a.length)) (AgH hb hi),Jt,Dk (by omega:(i:Int)<(a.length:Int)),Dk (by omega:(i:Int)<(b.length:Int)),Dk (by omega:(0:Int)<=(i:Int)),cond_true,Jz,w64 (x:=(i:Int)+1)];cases iM (a.getD i []) (b.getD i [])<;>rfl
  .dsimp only[U3];rw[DI,A0x];rfl
 .rw[Dk,Dq hl];rfl
def Asm {N:Nat} {a b:List Yq0} (ha:SmN N a) (hb:SmN N b):Rn N a b=some (tV a b):=by
 unfold Rn tV;try simp -zeta only[Ap]
 by_cases hl:b.length<=a.length
 .rw[A0x,Dk hl,cond_false,EH];have hn:=hb.2.1;refine(Om (X:=Int×List Yq0×List Yq0) (fun i (_:Unit)=>(i,a,b)) (List.range b.length) 0 (fun _ _=>True) (fun i (_:Unit)=>if iM (a.getD i []) (b.getD i [])then(.inr ():Option Bool ⊕ Unit)else .inl (some false)) (fun _=>some true) (fun i s hi _=>bC trivial fun k=> ?_) (fun s k _=> ?_) N () trivial (by rw[DI];exact hb.1)).trans (Ack _ _)
  .rw[DI]at hi;have hr:(List.range b.length).getD i 0=i:=by simp [Dn,hi]
   rw[hr];dsimp only[U3];simp only[Int.toNat_natCast,Awm (AgH ha (by omega:i<a.length)) (AgH hb hi),Jt,Dk (by omega:(i:Int)<(a.length:Int)),Dk (by omega:(i:Int)<(b.length:Int)),Dk (by omega:(0:Int)<=(i:Int)),cond_true,Jz,w64 (x:=(i:Int)+1)];cases iM (a.getD i []) (b.getD i [])<;>rfl
  .dsimp only[U3];rw[DI,A0x];rfl
 .rw[Dk,Dq hl];rfl
def Ay4 (a b:Nat):((a:Int)==(b:Int))=(a==b):=by
 by_cases h:a=b
 .subst h;simp
 .rw[Fp.2 (by omega: ¬(a:Int)=(b:Int)),Fp.2 h]
def AvQ {N:Nat} {a b:List Yq0} (ha:SmN N a) (hb:SmN N b):aA N a b=some (kE a b):=by
 unfold aA kE;try simp -zeta only[Ap]
 rw[AsB ha hb,Ay4];simp only[TJ,VD,QR,Option.isSome_some,Ea,Jz,Option.getD_some,ApB]
def Au1 {N:Nat} {a b:List Yq0} (ha:SmN N a) (hb:SmN N b):V4 N a b=some (kE a b):=by
 unfold V4 kE;try simp -zeta only[Ap]
 rw[Asm ha hb,Ay4];simp only[TJ,VD,QR,Option.isSome_some,Ea,Jz,Option.getD_some,ApB]
section
variable (N:Nat) (hN:1048578<N) {L:List Int} (hL:L.length<=9223372036854775807)
include hL
def AgY (a:Att):Prop:=a.1.length<=40/\a.2.2.length<=40
instance (a:Att):Decidable (AgY a):=by unfold AgY;infer_instance
theorem pY {d:List Int×Int} (hd:KD L d):Ends (fun r=>AgY r.1/\KD L r.2) (WA N d):=by
 unfold WA;try simp -zeta only[Ap]
 refine JC (nx N hL hd 12 (by omega)) ?_;rintro ⟨r,d'⟩ ⟨h0,h1,h2⟩;dsimp only at h0 h1 h2 ⊢;refine JH (by simp;omega) (JH (by simp;omega) (JH (by simp;omega) (Ku ⟨?_,h2⟩)));exact P8 (by decide) h0 h1
def nmS (n:List (List Att)):Prop:=n.length<=3/\LM n
include hN in
theorem Ajb {d:List Int×Int} (hd:KD L d):Ends (fun r=>nmS r.1/\KD L r.2) (Ue N d):=by
 unfold Ue;try simp only[clR]
 refine JC (nx N hL hd 4 (by omega)) ?_;rintro ⟨r,d1,d2⟩ ⟨h0,h1,h2⟩;dsimp only at h0 h1 h2 ⊢;refine Ns (fun x=>0<=x.1/\x.1<4/\KD L (x.2.1,x.2.2.1)/\((x.2.2.2.length:Int)+x.1<=3)/\LM x.2.2.2) (fun x=>x.1.toNat) ?_ N _ ⟨h0,h1,h2,by simp;omega,fun r hr=>by cases hr⟩ (by dsimp only;omega);rintro ⟨t,a,b,acc⟩ ⟨g0,g1,g2,g3,g4⟩ k hk;dsimp only[U4]at g0 g1 g2 g3 g4 ⊢;refine JW (fun ht=> ?_) (fun _=> ?_)
 .have ht:=DC ht;refine JC (nx N hL g2 5 (by omega)) ?_;rintro ⟨r,e1,e2⟩ ⟨f0,f1,f2⟩;dsimp only at f0 f1 f2 ⊢
  have hw:i64.wrap (1+i64.wrap (r.tdiv 4))<=2/\0<=i64.wrap (1+i64.wrap (r.tdiv 4)):=by
   have:r=0\/r=1\/r=2\/r=3\/r=4:=by omega
   rcases this with rfl | rfl | rfl | rfl | rfl<;>decide
  refine Ns (fun x=>0<=x.1/\x.1<=2/\KD L (x.2.1,x.2.2.1)/\((x.2.2.2.1.length:Int)+x.1<=2)/\(∀ e∈x.2.2.2.1,dM e)/\x.2.2.2.2=acc) (fun x=>x.1.toNat) ?_ N _ ⟨hw.2,hw.1,f2,by simp;omega,(fun r hr=>by cases hr),rfl⟩ (by dsimp only;omega);rintro ⟨t',a',b',acc',out⟩ ⟨p0,p1,p2,p3,p4,p5⟩ k' hk';dsimp only[U5]at p0 p1 p2 p3 p4 p5 ⊢;subst p5;refine JW (fun ht'=> ?_) (fun _=> ?_)
  .have ht':=DC ht';refine JC (pY N hL p2) ?_;rintro ⟨r,q1,q2⟩ ⟨z0,z1⟩;dsimp only at z0 z1 ⊢
   have taut:(decide ((0:Int)<(acc'.length:Int))||((acc'.length:Nat):Int)==0)=true:=by
    cases acc' with
    | nil=>rfl
    | cons x y=>rw[Dk (by rw[List.length_cons];omega)];rfl
   have nK:(decide (0<acc'.length)||((acc'.length:Nat):Int)==0)=true:=by
    cases acc' with
    | nil=>rfl
    | cons x y=>rw[Dk (by rw[List.length_cons];omega)];rfl
   have hsm:dM r:=⟨by have:=z0.1;omega,by have:=z0.2;omega⟩
   refine JH (by first | exact taut | exact nK) (JH (by first | exact taut | exact nK) (JH (by first | exact taut | exact nK) ?_));refine JW (fun _=> ?_) (fun _=> ?_)
   .refine JH (Dk) (hk' _ ⟨?_,?_,z1,?_,?_,rfl⟩ ?_)
    .dsimp only;rw[w64];omega
    .dsimp only;rw[w64];omega
    .dsimp only;rw[w64,Dv];simp;omega
    .intro e he;rcases DR.1 he with he | he
     .exact p4 e he
     .rw[Ed.1 he];exact hsm
    .dsimp only;rw[w64];omega
   .refine hk' _ ⟨?_,?_,z1,?_,p4,rfl⟩ ?_
    .dsimp only;rw[w64];omega
    .dsimp only;rw[w64];omega
    .dsimp only;rw[w64];omega
    .dsimp only;rw[w64];omega
  .dsimp only[U4];refine JH (Dk) (hk _ ⟨?_,?_,p2,?_,?_⟩ ?_)
   .dsimp only;rw[w64];omega
   .dsimp only;rw[w64];omega
   .dsimp only;rw[w64,Dv];simp;omega
   .intro e he;rcases DR.1 he with he | he
    .exact g4 e he
    .rw[Ed.1 he];exact p4
   .dsimp only;rw[w64];omega
 .dsimp only[U3];exact Ku ⟨⟨by dsimp only;omega,g4⟩,g2⟩
end
section
variable (N:Nat) (hN:1048578<N) {L:List Int} (hL:L.length<=9223372036854775807)
def nmC (n:List (List Att)):Bool:=decide (n.length<=3)&&n.all fun r=>r.all fun e=>decide (e.1.length<=40)&&decide (e.2.2.length<=40)
def nmO (o:Option (List (List Att))):Bool:=match o with
 | some n=>nmC n
 | none=>false
theorem AyC {n:List (List Att)} (h:nmC n=true):nmS n:=by unfold nmC at h;rw[Dx,D6]at h;refine⟨h.1,fun r hr e he=> ?_⟩;have:=DF.1 (DF.1 h.2 r hr) e he;rw[Dx,D6,D6]at this;exact⟨by omega,by omega⟩
theorem Aj1 (M:Nat): ∀ k:Fin 16,nmO (MQ (M+70) (k.val:Int))=true:=DC (by kernel_rfl)
include hN in
theorem AgZ {k:Int} (h0:0<=k) (h1:k<16):Ends nmS (MQ N k):=by
 obtain⟨M,rfl⟩: ∃ M,N=M+70:=⟨N - 70,by omega⟩
 have h:=Aj1 M ⟨k.toNat,by omega⟩;rw[show(((⟨k.toNat,by omega⟩:Fin 16).val:Nat):Int)=k from H8 h0]at h;cases ho:MQ (M+70) k with
 | none=>rw[ho]at h;cases h
 | some n=>rw[ho]at h;exact⟨n,rfl,AyC h⟩
def shortS (s:Bs):Prop:=s.length<=40
instance (s:Bs):Decidable (shortS s):=by unfold shortS;infer_instance
def gnS (g:Gn):Prop:=g.2.1.length<=40/\LM g.2.2/\g.2.2.length<=3
theorem AwO {g:Gn} (h:gnS g):kZ g:=⟨by have:=h.1;omega,h.2.1⟩
theorem Z5 {k:Int} {s:Bs} (h:shortS s):gnS (k,s,[]):=⟨h,(fun r hr=>by cases hr),by simp⟩
include hN hL in
theorem jV {d:List Int×Int} (hd:KD L d):Ends (fun r=>gnS r.1/\KD L r.2) (TP N d):=by
 unfold TP;try simp only[clR]
 refine JC (nx N hL hd 4 (by omega)) ?_;rintro ⟨r,d'⟩ ⟨h0,h1,h2⟩;dsimp only at h0 h1 h2 ⊢;refine JW (fun _=> ?_) (fun _=>JW (fun _=> ?_) (fun _=>JW (fun _=> ?_) (fun _=> ?_)))
 .refine JC (nx N hL h2 6 (by omega)) ?_;rintro ⟨r,d'⟩ ⟨h0,h1,h2⟩;dsimp only at h0 h1 h2 ⊢;refine JH (Dk) (JH (Dk) (JH (Dk) (Ku ⟨Z5 (P8 (P:=shortS) (by decide) h0 h1),h2⟩)))
 .refine JC (nx N hL h2 7 (by omega)) ?_;rintro ⟨r,d'⟩ ⟨h0,h1,h2⟩;dsimp only at h0 h1 h2 ⊢;refine JH (Dk) (JH (Dk) (JH (Dk) (Ku ⟨Z5 (P8 (P:=shortS) (by decide) h0 h1),h2⟩)))
 .refine JC (nx N hL h2 4 (by omega)) ?_;rintro ⟨r,d'⟩ ⟨h0,h1,h2⟩;dsimp only at h0 h1 h2 ⊢;refine JH (Dk) (JH (Dk) (JH (Dk) (Ku ⟨Z5 (P8 (P:=shortS) (by decide) h0 h1),h2⟩)))
 .refine JC (Ajb N hN hL h2) ?_;rintro ⟨n,d'⟩ ⟨g0,g1⟩;exact Ku ⟨⟨by simp,g0.2,g0.1⟩,g1⟩
include hN hL in
theorem Aab {d:List Int×Int} (hd:KD L d):Ends (fun r=>gnS r.1/\KD L r.2) (XY N d):=by
 unfold XY;try simp only[clR]
 refine JC (nx N hL hd 4 (by omega)) ?_;rintro ⟨r,d'⟩ ⟨h0,h1,h2⟩;dsimp only at h0 h1 h2 ⊢;refine JW (fun _=> ?_) (fun _=>JW (fun _=> ?_) (fun _=>JW (fun _=> ?_) (fun _=> ?_)))
 .refine JC (nx N hL h2 7 (by omega)) ?_;rintro ⟨r,d'⟩ ⟨h0,h1,h2⟩;dsimp only at h0 h1 h2 ⊢;refine JH (Dk) (JH (Dk) (JH (Dk) (Ku ⟨Z5 (P8 (P:=shortS) (by decide) h0 h1),h2⟩)))
 .refine JC (nx N hL h2 7 (by omega)) ?_;rintro ⟨r,d'⟩ ⟨h0,h1,h2⟩;dsimp only at h0 h1 h2 ⊢;refine JH (Dk) (JH (Dk) (JH (Dk) (Ku ⟨Z5 (P8 (P:=shortS) (by decide) h0 h1),h2⟩)))
 .refine JC (nx N hL h2 5 (by omega)) ?_;rintro ⟨r,d'⟩ ⟨h0,h1,h2⟩;dsimp only at h0 h1 h2 ⊢;refine JH (Dk) (JH (Dk) (JH (Dk) (Ku ⟨Z5 (P8 (P:=shortS) (by decide) h0 h1),h2⟩)))
 .refine JC (Ajb N hN hL h2) ?_;rintro ⟨n,d'⟩ ⟨g0,g1⟩;exact Ku ⟨⟨by simp,g0.2,g0.1⟩,g1⟩
def AhD (m:Nat) (l:List Gn):Prop:=l.length<=m/\ ∀ g∈l,gnS g
theorem Amy {m:Nat} {l:List Gn} (h:AhD m l):Lh l:=fun g hg=>AwO (h.2 g hg)
include hN hL in
theorem AkO {d:List Int×Int} (hd:KD L d):Ends (fun r=>(AhD 3 r.1.1/\AhD 3 r.1.2)/\KD L r.2) (Xt N d):=by
 unfold Xt;try simp only[clR]
 refine JC (nx N hL hd 4 (by omega)) ?_;rintro ⟨r,d1,d2⟩ ⟨h0,h1,h2⟩;dsimp only at h0 h1 h2 ⊢;refine Ns (fun x=>0<=x.1/\x.1<4/\KD L (x.2.1,x.2.2.1)/\((x.2.2.2.length:Int)+x.1<=3)/\ ∀ g∈x.2.2.2,gnS g) (fun x=>x.1.toNat) ?_ N _ ⟨h0,h1,h2,by simp;omega,(fun r hr=>by cases hr)⟩ (by dsimp only;omega);rintro ⟨t,a,b,acc⟩ ⟨g0,g1,g2,g3,g4⟩ k hk;dsimp only[U4]at g0 g1 g2 g3 g4 ⊢;refine JW (fun ht=> ?_) (fun _=> ?_)
 .have ht:=DC ht;refine JC (Aab N hN hL g2) ?_;rintro ⟨g,e1,e2⟩ ⟨f0,f1⟩;dsimp only at f0 f1 ⊢;refine JH (Dk) (hk _ ⟨?_,?_,f1,?_,ZG g4 f0⟩ ?_)
  .dsimp only;rw[w64];omega
  .dsimp only;rw[w64];omega
  .dsimp only;rw[w64,Dv];simp;omega
  .dsimp only;rw[w64];omega
 .dsimp only[U3];refine JC (nx N hL g2 3 (by omega)) ?_;rintro ⟨r,e1,e2⟩ ⟨f0,f1,f2⟩;dsimp only at f0 f1 f2 ⊢;refine Ns (fun x=>0<=x.1/\x.1<3/\KD L (x.2.1,x.2.2.1)/\x.2.2.2.1=acc/\((x.2.2.2.2.length:Int)+x.1<=2)/\ ∀ g∈x.2.2.2.2,gnS g) (fun x=>x.1.toNat) ?_ N _ ⟨f0,f1,f2,rfl,by simp;omega,(fun r hr=>by cases hr)⟩ (by dsimp only;omega);rintro ⟨t',a',b',acc',out⟩ ⟨p0,p1,p2,p3,p4,p5⟩ k' hk';dsimp only[U5]at p0 p1 p2 p3 p4 p5 ⊢;subst p3;refine JW (fun ht'=> ?_) (fun _=> ?_)
  .have ht':=DC ht';refine JC (Aab N hN hL p2) ?_;rintro ⟨g,q1,q2⟩ ⟨z0,z1⟩;dsimp only at z0 z1 ⊢;refine JH (Dk) (hk' _ ⟨?_,?_,z1,rfl,?_,ZG p5 z0⟩ ?_)
   .dsimp only;rw[w64];omega
   .dsimp only;rw[w64];omega
   .dsimp only;rw[w64,Dv];simp;omega
   .dsimp only;rw[w64];omega
  .dsimp only[U4];refine JW (fun _=> ?_) (fun _=>Ku ⟨⟨⟨by dsimp only;omega,g4⟩,by dsimp only;omega,p5⟩,p2⟩);refine JC (Aab N hN hL p2) ?_;rintro ⟨g,q1,q2⟩ ⟨z0,z1⟩;dsimp only at z0 z1 ⊢;refine JH (Dk) (Ku ⟨⟨⟨by dsimp only;omega,g4⟩,?_,ZG p5 z0⟩,z1⟩);dsimp only;rw[Dv];simp;omega
def Awf (l:List Pt):Prop:=l.length<=3/\ ∀ p∈l,Qp p
include hN hL in
theorem AdD {d:List Int×Int} (hd:KD L d):Ends (fun r=>Awf r.1/\KD L r.2) (Xg N d):=by
 unfold Xg;try simp only[clR]
 refine JC (nx N hL hd 3 (by omega)) ?_;rintro ⟨r,d1,d2⟩ ⟨h0,h1,h2⟩;dsimp only at h0 h1 h2 ⊢;rw[w64];refine Ns (fun x=>0<=x.1/\x.1<4/\KD L (x.2.1,x.2.2.1)/\((x.2.2.2.length:Int)+x.1<=3)/\ ∀ p∈x.2.2.2,Qp p) (fun x=>x.1.toNat) ?_ N _ ⟨by dsimp only;omega,by dsimp only;omega,h2,by simp;omega,(fun r hr=>by cases hr)⟩ (by dsimp only;omega);rintro ⟨t,a,b,acc⟩ ⟨g0,g1,g2,g3,g4⟩ k hk;dsimp only[U4]at g0 g1 g2 g3 g4 ⊢;refine JW (fun ht=> ?_) (fun _=>by dsimp only[U3];exact Ku ⟨⟨by dsimp only;omega,g4⟩,g2⟩);have ht:=DC ht;refine JC (jV N hN hL g2) ?_;rintro ⟨g,e⟩ ⟨f0,f1⟩;refine JC (nx N hL f1 6 (by omega)) ?_;rintro ⟨r6,e1,e2⟩ ⟨c0,c1,c2⟩;dsimp only at c0 c1 c2 f0 ⊢;refine JH (Dk) (JH (Dk) (JH (Dk) ?_));have hr:0<= [(0:Int),0,510,2,64,384].getD r6.toNat 0/\ [(0:Int),0,510,2,64,384].getD r6.toNat 0<=510:=P8 (P:=fun x:Int=>0<=x/\x<=510) (by decide) c0 c1;have hg:Lh [g]:=fun x hx=>by rw[Ed.1 hx];exact AwO f0
 refine mP (P:=fun x=>KD L (x.1,x.2.1)/\x.2.2.1=[(0:Int),0,510,2,64,384].getD r6.toNat 0/\LM x.2.2.2.2.1/\x.2.2.2.2.2.1=[g]/\x.2.2.2.2.2.2=acc) (fun j hj=> ?_) ?_
 .refine JC (nx N hL c2 3 (by omega)) ?_;rintro ⟨r3,q1,q2⟩ ⟨z0,z1,z2⟩;dsimp only at z0 z1 z2 ⊢;refine JW (fun _=> ?_) (fun _=>hj _ ⟨z2,rfl,(fun r hr=>by cases hr),rfl,rfl⟩);refine JC (nx N hL z2 16 (by omega)) ?_;rintro ⟨r3,q1,q2⟩ ⟨z0,z1,z2⟩;dsimp only at z0 z1 z2 ⊢;refine JC (AgZ N hN z0 z1) ?_;intro n hn;exact hj _ ⟨z2,rfl,hn.2,rfl,rfl⟩
 .rintro ⟨q1,q2,x1,x2,x3,x4,x5⟩ ⟨y1,y2,y3,y4,y5⟩;dsimp only[U7]at y1 y2 y3 y4 y5 ⊢;subst y2 y4 y5;refine JH (Dk) (hk _ ⟨?_,?_,y1,?_,ZG g4 ⟨hg,y3,by dsimp only;omega,by dsimp only;omega⟩⟩ ?_)
  .dsimp only;rw[w64];omega
  .dsimp only;rw[w64];omega
  .dsimp only;rw[w64,Dv];simp;omega
  .dsimp only;rw[w64];omega
end
end Go.Proofs.YtdihmdelaolelaaGreatDoor.Pl
