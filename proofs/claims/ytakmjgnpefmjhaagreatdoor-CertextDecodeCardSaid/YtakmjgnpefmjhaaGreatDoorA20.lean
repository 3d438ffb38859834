import Derived.Test.YtakmjgnpefmjhaaGreatDoorA19
import Derived.ChangeArms
import Derived.SliceStrings
import Derived.Test.YtakmjgnpefmjhaaGreatDoorRows
import Derived.Test.YtakmjgnpefmjhaaGreatDoorChecked
import Derived.Lib.LaidU8
import Derived.Shelf.Vars
import Derived.HandedShaped
import Derived.LaidLaws
set_option linter.all false
namespace Go.Proofs.YtakmjgnpefmjhaaGreatDoor.Pl
open IntKind (i64 u8 u32 u64)
open Go Vm
def RI {α ρ :Type} {A:(α ->Option ρ)->Option ρ} {f: α ->Option ρ} {x: α} (h: ∀ j: α ->Option ρ,A j=j x):Ld A f=f x:=h f
def number_eq (N t:Nat) (n:Int) (ht:t<256) (h31:t % 32≠31) (hN:1048578<N) (h:spI n=true):NK N (t:Int) n=some (Sp.elem t (inB n)):=by obtain⟨_,h2,h3⟩:=AcY N n hN h;have w:=WE N t [inB n] ht h31 hN (by simp) (by rw[KZ];omega);rw[KZ]at w;unfold NK;rw[h2,Js,w,Js]
def AsA (N:Nat) (v:Bool) (hN:1048578<N):Zc N 1 v=some (bif v then Sp.elem 1 [255]else []):=by
 unfold Zc;cases v with
 | false=>rfl
 | true =>have w:JL N 1 [[255]]=_:=WE N 1 [[255]] (by omega) (by omega) hN (by simp) (by simp);show Jq (JL N 1 [[255]]) _=_;rw[w,Js];rfl
def jP (N:Nat) (hN:1048578<N) (l:List Bs) (hl:l.length<=1000) (hs:l.flatten.length<=131072):JL N 48 l=some (Sp.elem 48 l.flatten):=WE N 48 l (by omega) (by omega) hN hl hs
def ArT {t:Nat} {c:Bs} (h:(Alj t c).2≠0):(Alj t c).2=2:=by
 unfold Alj at h ⊢;dsimp only at h ⊢;by_cases hn:(TS t c).isNone=true
 .rw[Dq hn]
 .rw[Dt hn]at h;exact absurd rfl h
def Asf {l:List Pt} (h0:l≠ []) (h1:SA l=0) (h:(Lj l).2≠0):(Lj l).2=2:=by unfold Lj at h ⊢;rw[show l.isEmpty=false by cases l with | nil=>exact absurd rfl h0 | cons _ _=>rfl,h1]at h ⊢;exact ArT h
set_option maxHeartbeats 1000000 in
def AmT (N:Nat) (x:Info) (hN:1048578<N) (hx:Aac x):VG N x=some (encI x):=by
 have hck:=Aek N x hN hx;have hun:=hx.un.1;unfold VG encI;try simp only[clR]
 rw[hck,Js,<- JD];refine Ku fun h0=> ?_;have h0:Um x=0:=by simpa using h0
 clear hck;obtain⟨B,C,D,F,G,H,I,J,K,L,O,P,Q,T,U,V,W,X,Y⟩:=x;have hun:Y.length<=1048576:=hun;obtain⟨ok,_⟩:=Ap5 h0;obtain⟨s1,s2,s3,s4⟩:=ok.sp;have i1:=AaJ N hN s1;have i2:=AaJ N hN s2;have i3:=AaJ N hN s3;have i4:=AaJ N hN s4;have n1:NK N 2 D=_:=number_eq N 2 D (by omega) (by omega) hN s1;have n2:NK N 128 J=_:=number_eq N 128 J (by omega) (by omega) hN s2;have n3:NK N 129 K=_:=number_eq N 129 K (by omega) (by omega) hN s3;have n4:NK N 2 L=_:=number_eq N 2 L (by omega) (by omega) hN s4;have q1:=Sp.Kw 2 (inB D);have q2:=Sp.Kw 128 (inB J);have q3:=Sp.Kw 129 (inB K);have fl:Ry N 3 F=_:=Apm N 3 F (by omega) (by omega) hN ok.us;have gg:=fun n h=>oV (n:=n) h;refine(RI (x:=(B,C,D,F,G,H,I,J,K,L,O,P,Q,T,U,V,W,X,Y,(LD (B,false,[50,46,53,46,50,57,46,49,57],true,Aeu C D)))) (fun j=> ?_)).trans ?_
 .cases B with
  | false=>rfl
  | true =>
   have hbl:((bif C then Sp.elem 1 [255]else []):Bs).length<=10:=by cases C<;>decide
   rw[cond_true,AsA N C hN,Js,oV s1];simp only[Ld];unfold LD Aeu;cases hp:D != -1 with
   | true =>have w:=jP N hN [(bif C then Sp.elem 1 [255]else [])++Sp.elem 2 (inB D)] (by simp) (by rw[KZ,Dx];omega);rw[KZ]at w;rw[cond_true,n1,Js];dsimp only[U20];rw[Qd (by omega),J8,w,Js];rfl
   | false =>have w:=jP N hN [(bif C then Sp.elem 1 [255]else [])] (by simp) (by rw[KZ];omega);rw[KZ]at w;rw[cond_false];dsimp only[U20];rw[w,Js,cond_true,cond_false,DW]
 generalize hl0:LD (B,false,[50,46,53,46,50,57,46,49,57],true,Aeu C D)=A0;have kA0:A0.length<=1:=by rw[<- hl0];exact PV _
 dsimp only[U20];refine(RI (x:=(B,C,D,F,G,H,I,J,K,L,O,P,Q,T,U,V,W,X,Y,A0++LD (F != 0,false,[50,46,53,46,50,57,46,49,53],true,Sp.elem 3 (flB F)))) (fun j=> ?_)).trans ?_
 .unfold LD;by_cases h:F=0
  .rw[aP h,cond_false,cond_false,DW]
  .rw[aQ h,cond_true,fl,Js,Qd (by omega),J8];unfold pfB;rw[VN h];rfl
 obtain⟨A1,hA1⟩: ∃ A,A=A0++LD (F != 0,false,[50,46,53,46,50,57,46,49,53],true,Sp.elem 3 (flB F)):=⟨_,rfl⟩
 rw[<- hA1];have kA1:A1.length<=2:=by rw[hA1,Dx];have:=PV (F != 0,false,[50,46,53,46,50,57,46,49,53],true,Sp.elem 3 (flB F));omega
 dsimp only[U20];refine(RI (x:=(B,C,D,F,G,H,I,J,K,L,O,P,Q,T,U,V,W,X,Y,A1++LD (decide (((G.length:Nat):Int)>0),false,[50,46,53,46,50,57,46,51,55],false,Ap4 G))) (fun j=> ?_)).trans ?_
 .unfold LD;cases hh:decide (((G.length:Nat):Int)>0)with
  | false=>rw[cond_false,cond_false,DW]
  | true =>
   have hl:=NM (g:=NH) (M:=65) (l:=G) (fun m hm=>by exact Su (ok.pu.2 m hm));have hk:=ok.pu.1;rw[cond_true,cond_true];refine(fP (mk:=fun i t=>(t,(i:Int),B,C,D,F,G,H,I,J,K,L,O,P,Q,T,U,V,W,X,Y,A1)) G [] (NH) (fun t=>Jq (JL N 48 [t]) fun r=>Vm.chk (decide ((A1.length+1)*41<=140737488355328)) (j (B,C,D,F,G,H,I,J,K,L,O,P,Q,T,U,V,W,X,Y,A1++[([50,46,53,46,50,57,46,51,55],false,r)]))) ?_ ?_ N (by omega)).trans ?_
   .intro i t hi ht k;dsimp only[U22];rw[Int.toNat_natCast];have hp:=dU N _ hN (hx.pu.2 _ (getD_mem [] hi)) (ok.pu.2 _ (getD_mem [] hi));have hp2:Sp.elem 6 (WC (G.getD i []))=NH (G.getD i []):=rfl;simp (disch:=omega) only[J4,hp,hp2,Ko]
   .intro t k;dsimp only[U22];rw[oQ (by omega),cond_false];rfl
   .have w:=jP N hN [(G.map NH).flatten] (by simp) (by rw[KZ];omega);rw[KZ]at w;rw[w,Js,Qd (by omega),J8];rfl
 obtain⟨A2,hA2⟩: ∃ A,A=A1++LD (decide (((G.length:Nat):Int)>0),false,[50,46,53,46,50,57,46,51,55],false,Ap4 G):=⟨_,rfl⟩
 rw[<- hA2];have kA2:A2.length<=3:=by rw[hA2,Dx];have:=PV (decide (((G.length:Nat):Int)>0),false,[50,46,53,46,50,57,46,51,55],false,Ap4 G);omega
 dsimp only[U20];refine(RI (x:=(B,C,D,F,G,H,I,J,K,L,O,P,Q,T,U,V,W,X,Y,A2++LD (decide (((H.length:Nat):Int)>0),false,[50,46,53,46,50,57,46,51,50],false,ApZ H))) (fun j=> ?_)).trans ?_
 .unfold LD;cases hh:decide (((H.length:Nat):Int)>0)with
  | false=>rw[cond_false,cond_false,DW]
  | true =>
   have hl:=NM (g:=(fun s=>Sp.elem 48 (NH s))) (M:=70) (l:=H) (fun m hm=>by have:=Su (ok.po.2 m hm);have:=Sp.Kw 48 (NH m);omega);have hk:=ok.po.1;rw[cond_true,cond_true];refine(fP (mk:=fun i t=>(t,(i:Int),B,C,D,F,G,H,I,J,K,L,O,P,Q,T,U,V,W,X,Y,A2)) H [] ((fun s=>Sp.elem 48 (NH s))) (fun t=>Jq (JL N 48 [t]) fun r=>Vm.chk (decide ((A2.length+1)*41<=140737488355328)) (j (B,C,D,F,G,H,I,J,K,L,O,P,Q,T,U,V,W,X,Y,A2++[([50,46,53,46,50,57,46,51,50],false,r)]))) ?_ ?_ N (by omega)).trans ?_
   .intro i t hi ht k;dsimp only[U22];rw[Int.toNat_natCast];have hv:=ok.po.2 _ (getD_mem [] hi);have hp:=dU N _ hN (hx.po.2 _ (getD_mem [] hi)) hv;have hp2:Sp.elem 6 (WC (H.getD i []))=NH (H.getD i []):=rfl;have w:=jP N hN [NH (H.getD i [])] (by simp) (by rw[KZ];have:=Su hv;omega);rw[KZ]at w;simp (disch:=omega) only[J4,hp,hp2,w,Ko]
   .intro t k;dsimp only[U22];rw[oQ (by omega),cond_false];rfl
   .have w:=jP N hN [(H.map (fun s=>Sp.elem 48 (NH s))).flatten] (by simp) (by rw[KZ];omega);rw[KZ]at w;rw[w,Js,Qd (by omega),J8];rfl
 obtain⟨A3,hA3⟩: ∃ A,A=A2++LD (decide (((H.length:Nat):Int)>0),false,[50,46,53,46,50,57,46,51,50],false,ApZ H):=⟨_,rfl⟩
 rw[<- hA3];have kA3:A3.length<=4:=by rw[hA3,Dx];have:=PV (decide (((H.length:Nat):Int)>0),false,[50,46,53,46,50,57,46,51,50],false,ApZ H);omega
 dsimp only[U20];refine(RI (x:=(B,C,D,F,G,H,I,J,K,L,O,P,Q,T,U,V,W,X,Y,A3++LD (decide (((I.length:Nat):Int)>0),false,[50,46,53,46,50,57,46,51,51],true,ApH I))) (fun j=> ?_)).trans ?_
 .unfold LD;cases hh:decide (((I.length:Nat):Int)>0)with
  | false=>rw[cond_false,cond_false,DW]
  | true =>
   have hl:=NM (g:=(fun m:Bs×Bs=>Sp.elem 48 (NH m.1++NH m.2))) (M:=135) (l:=I) (fun m hm=>by have:=Su (ok.ma.2 m hm).1;have:=Su (ok.ma.2 m hm).2;have:=Sp.Kw 48 (NH m.1++NH m.2);rw[Dx]at this;omega);have hk:=ok.ma.1;rw[cond_true,cond_true];refine(fP (mk:=fun i t=>(t,(i:Int),B,C,D,F,G,H,I,J,K,L,O,P,Q,T,U,V,W,X,Y,A3)) I ([],[]) ((fun m:Bs×Bs=>Sp.elem 48 (NH m.1++NH m.2))) (fun t=>Jq (JL N 48 [t]) fun r=>Vm.chk (decide ((A3.length+1)*41<=140737488355328)) (j (B,C,D,F,G,H,I,J,K,L,O,P,Q,T,U,V,W,X,Y,A3++[([50,46,53,46,50,57,46,51,51],true,r)]))) ?_ ?_ N (by omega)).trans ?_
   .intro i t hi ht k;dsimp only[U22];rw[Int.toNat_natCast];have hv:=ok.ma.2 _ (getD_mem ([],[]) hi);have hsm:YK (I.getD i ([],[])):=hx.ma _ (getD_mem ([],[]) hi);have hp:=dU N _ hN hsm.1 hv.1;have hq:=dU N _ hN hsm.2 hv.2;have hp2:Sp.elem 6 (WC (I.getD i ([],[])).1)=NH (I.getD i ([],[])).1:=rfl;have hq2:Sp.elem 6 (WC (I.getD i ([],[])).2)=NH (I.getD i ([],[])).2:=rfl;have w:=jP N hN [NH (I.getD i ([],[])).1,NH (I.getD i ([],[])).2] (by simp) (by rw[Agy,Dx];have:=Su hv.1;have:=Su hv.2;omega);rw[Agy]at w;simp (disch:=omega) only[J4,hp,hq,hp2,hq2,w,Ko]
   .intro t k;dsimp only[U22];rw[oQ (by omega),cond_false];rfl
   .have w:=jP N hN [(I.map (fun m:Bs×Bs=>Sp.elem 48 (NH m.1++NH m.2))).flatten] (by simp) (by rw[KZ];omega);rw[KZ]at w;rw[w,Js,Qd (by omega),J8];rfl
 obtain⟨A4,hA4⟩: ∃ A,A=A3++LD (decide (((I.length:Nat):Int)>0),false,[50,46,53,46,50,57,46,51,51],true,ApH I):=⟨_,rfl⟩
 rw[<- hA4];have kA4:A4.length<=5:=by rw[hA4,Dx];have:=PV (decide (((I.length:Nat):Int)>0),false,[50,46,53,46,50,57,46,51,51],true,ApH I);omega
 dsimp only[U20];refine(RI (x:=(B,C,D,F,G,H,I,J,K,L,O,P,Q,T,U,V,W,X,Y,A4++LD (J != -1||K != -1,false,[50,46,53,46,50,57,46,51,54],true,Aii J K))) (fun j=> ?_)).trans ?_
 .rw[oV s2,oV s3];unfold LD;cases hh:(J != -1||K != -1)with
  | false=>rw[cond_false,cond_false,DW]
  | true =>
   rw[cond_true,cond_true]
   have fin: ∀ a c:Bs,a=(bif J != -1 then Sp.elem 128 (inB J)else [])->c=(bif K != -1 then Sp.elem 129 (inB K)else [])->(Jq (JL N 48 [a++c]) fun r=>Vm.chk (decide ((A4.length+1)*41<=140737488355328)) (j (B,C,D,F,G,H,I,J,K,L,O,P,Q,T,U,V,W,X,Y,A4++[([50,46,53,46,50,57,46,51,54],true,r)])))=j (B,C,D,F,G,H,I,J,K,L,O,P,Q,T,U,V,W,X,Y,A4++[([50,46,53,46,50,57,46,51,54],true,Aii J K)]):=by
    intro a c ha P
    have h1:a.length<=10:=by
     rw[ha];cases J != -1
     .exact DF _
     .show(Sp.elem 128 (inB J)).length<=10;omega
    have h2:c.length<=10:=by
     rw[P];cases K != -1
     .exact DF _
     .show(Sp.elem 129 (inB K)).length<=10;omega
    have w:=jP N hN [a++c] (by simp) (by rw[KZ,Dx];omega);rw[KZ]at w;rw[w,Js,Qd (by omega),J8];unfold Aii;rw[<- ha,<- P]
   refine(RI (x:=(bif J != -1 then Sp.elem 128 (inB J)else [],B,C,D,F,G,H,I,J,K,L,O,P,Q,T,U,V,W,X,Y,A4)) (fun j=> ?_)).trans ?_
   .cases J != -1 with
    | true=>rw[cond_true,n2,Js];rfl
    | false=>rfl
   dsimp only[U21];obtain⟨a,ha⟩: ∃ a:Bs,a=(bif J != -1 then Sp.elem 128 (inB J)else []):=⟨_,rfl⟩
   rw[<- ha]
   have h1:a.length<=10:=by
    rw[ha];cases J != -1
    .exact DF _
    .show(Sp.elem 128 (inB J)).length<=10;omega
   refine(RI (x:=(a++(bif K != -1 then Sp.elem 129 (inB K)else []),B,C,D,F,G,H,I,J,K,L,O,P,Q,T,U,V,W,X,Y,A4)) (fun j=> ?_)).trans ?_
   .rw[oV s3];cases K != -1 with
    | true=>rw[cond_true,n3,Js,Qd (by omega),J8];rfl
    | false=>rw[cond_false,cond_false,DW]
   dsimp only[U21];exact fin a _ ha rfl
 obtain⟨A5,hA5⟩: ∃ A,A=A4++LD (J != -1||K != -1,false,[50,46,53,46,50,57,46,51,54],true,Aii J K):=⟨_,rfl⟩
 rw[<- hA5];have kA5:A5.length<=6:=by rw[hA5,Dx];have:=PV (J != -1||K != -1,false,[50,46,53,46,50,57,46,51,54],true,Aii J K);omega
 dsimp only[U20];refine(RI (x:=(B,C,D,F,G,H,I,J,K,L,O,P,Q,T,U,V,W,X,Y,A5++LD (L != -1,false,[50,46,53,46,50,57,46,53,52],true,Sp.elem 2 (inB L)))) (fun j=> ?_)).trans ?_
 .rw[oV s4];unfold LD;cases hh:L != -1 with
  | false=>rw[cond_false,cond_false,DW]
  | true=>rw[cond_true,cond_true,n4,Js,Qd (by omega),J8]
 obtain⟨A6,hA6⟩: ∃ A,A=A5++LD (L != -1,false,[50,46,53,46,50,57,46,53,52],true,Sp.elem 2 (inB L)):=⟨_,rfl⟩
 rw[<- hA6];have kA6:A6.length<=7:=by rw[hA6,Dx];have:=PV (L != -1,false,[50,46,53,46,50,57,46,53,52],true,Sp.elem 2 (inB L));omega
 dsimp only[U20];refine(RI (x:=(B,C,D,F,G,H,I,J,K,L,O,P,Q,T,U,V,W,X,Y,A6++LD (decide (((O.length:Nat):Int)>0),false,[50,46,53,46,50,57,46,49,55],false,Sp.elem 48 (Q9 O)))) (fun j=> ?_)).trans ?_
 .unfold LD;cases hh:decide (((O.length:Nat):Int)>0)with
  | false=>rw[cond_false,cond_false,DW]
  | true =>
   have hna0:O≠ []:=by intro h;subst h;cases hh
   have hl:=wX ok.na.2 ok.na.1;have w:=jP N hN [Q9 O] (by simp) (by rw[KZ];omega);rw[KZ]at w;rw[cond_true,cond_true,lJ N O hN hx.na,Aij hna0 ok.na.1 ok.na.2,Js];dsimp only;rw[w,Js,Qd (by omega),J8]
 obtain⟨A7,hA7⟩: ∃ A,A=A6++LD (decide (((O.length:Nat):Int)>0),false,[50,46,53,46,50,57,46,49,55],false,Sp.elem 48 (Q9 O)):=⟨_,rfl⟩
 rw[<- hA7];have kA7:A7.length<=8:=by rw[hA7,Dx];have:=PV (decide (((O.length:Nat):Int)>0),false,[50,46,53,46,50,57,46,49,55],false,Sp.elem 48 (Q9 O));omega
 dsimp only[U20];have hsub:Pj N (Q,T)=some (Rk (Q,T)):=AgG N (Q,T) hN hx.pe hx.ex;cases hE:Vj (P,(Rk (Q,T)).2 != 0,[50,46,53,46,50,57,46,51,48],true,(Rk (Q,T)).1)with
 | true =>
  have hany:(Ze (B,C,D,F,G,H,I,J,K,L,O,P,Q,T,U,V,W,X,Y)).any Vj=true:=FU.2 ⟨(P,(Rk (Q,T)).2 != 0,[50,46,53,46,50,57,46,51,48],true,(Rk (Q,T)).1),List.mem_iff_getElem?.2 ⟨8,rfl⟩,hE⟩;rw[hany];unfold Vj at hE;rw[Dv]at hE;obtain⟨hE1,hE2⟩:=hE;have hE1:P=true:=hE1;have hE2:((Rk (Q,T)).2 != 0)=true:=hE2;have hcon:=ok.con;unfold AbO at hcon;rw[hE1,cond_true]at hcon;have h2:(Rk (Q,T)).2=2:=by unfold Rk at hE2 ⊢;rw[hcon]at hE2 ⊢;exact ArT (by simpa using hE2)
  show(bif P then _ else _)=_;rw[hE1,cond_true,hsub,Js,hE2,cond_true,h2];rfl
 | false =>
 refine(RI (x:=(B,C,D,F,G,H,I,J,K,L,O,P,Q,T,U,V,W,X,Y,A7++LD (P,(Rk (Q,T)).2 != 0,[50,46,53,46,50,57,46,51,48],true,(Rk (Q,T)).1))) (fun j=> ?_)).trans ?_
 .unfold LD;cases hh:P with
  | false=>rw[cond_false,cond_false,DW]
  | true =>rw[hh,Vj,ET]at hE;have hE:((Rk (Q,T)).2 != 0)=false:=hE;rw[cond_true,cond_true,hsub,Js,hE,cond_false,Qd (by omega),J8]
 obtain⟨A8,hA8⟩: ∃ A,A=A7++LD (P,(Rk (Q,T)).2 != 0,[50,46,53,46,50,57,46,51,48],true,(Rk (Q,T)).1):=⟨_,rfl⟩
 rw[<- hA8];have kA8:A8.length<=9:=by rw[hA8,Dx];have:=PV (P,(Rk (Q,T)).2 != 0,[50,46,53,46,50,57,46,51,48],true,(Rk (Q,T)).1);omega
 dsimp only[U20];refine(RI (x:=(B,C,D,F,G,H,I,J,K,L,O,P,Q,T,U,V,W,X,Y,A8++LD (!(U==[]),false,[50,46,53,46,50,57,46,49,52],false,Sp.elem 4 U))) (fun j=> ?_)).trans ?_
 .unfold LD;cases hh:(!(U==[]))with
  | false=>rw[cond_false,cond_false,DW]
  | true =>have hk:=ok.sk;have w:JL N 4 [U]=_:=WE N 4 [U] (by omega) (by omega) hN (by simp) (by rw[KZ];omega);rw[KZ]at w;rw[cond_true,cond_true,w,Js,Qd (by omega),J8]
 obtain⟨A9,hA9⟩: ∃ A,A=A8++LD (!(U==[]),false,[50,46,53,46,50,57,46,49,52],false,Sp.elem 4 U):=⟨_,rfl⟩
 rw[<- hA9];have kA9:A9.length<=10:=by rw[hA9,Dx];have:=PV (!(U==[]),false,[50,46,53,46,50,57,46,49,52],false,Sp.elem 4 U);omega
 dsimp only[U20];refine(RI (x:=(B,C,D,F,G,H,I,J,K,L,O,P,Q,T,U,V,W,X,Y,A9++LD (!(V==[]),false,[50,46,53,46,50,57,46,51,53],false,Sp.elem 48 (Sp.elem 128 V)))) (fun j=> ?_)).trans ?_
 .unfold LD;cases hh:(!(V==[]))with
  | false=>rw[cond_false,cond_false,DW]
  | true =>have hk:=ok.ak;have he:=Sp.Kw 128 V;have w:JL N 128 [V]=_:=WE N 128 [V] (by omega) (by omega) hN (by simp) (by rw[KZ];omega);have w2:=jP N hN [Sp.elem 128 V] (by simp) (by rw[KZ];omega);rw[KZ]at w w2;rw[cond_true,cond_true,w,Js,w2,Js,Qd (by omega),J8]
 obtain⟨A10,hA10⟩: ∃ A,A=A9++LD (!(V==[]),false,[50,46,53,46,50,57,46,51,53],false,Sp.elem 48 (Sp.elem 128 V)):=⟨_,rfl⟩
 rw[<- hA10];have kA10:A10.length<=11:=by rw[hA10,Dx];have:=PV (!(V==[]),false,[50,46,53,46,50,57,46,51,53],false,Sp.elem 48 (Sp.elem 128 V));omega
 dsimp only[U20];have hp1:Na N W=some (Lj W):=ZY N W hN hx.pt;have hp2:Na N X=some (Lj X):=ZY N X hN hx.fr;have hq1:W≠ []->(Lj W).2≠0->(Lj W).2=2:=fun h h2=>Asf h ok.pt h2;have hq2:X≠ []->(Lj X).2≠0->(Lj X).2=2:=fun h h2=>Asf h ok.fr h2;refine(ZW (S:=List Ex) (R:=Int) (mk:=fun i s=>((i:Int),B,C,D,F,G,H,I,J,K,L,O,P,Q,T,U,V,W,X,Y,[W,X],s)) [(decide (((W.length:Nat):Int)>0),(Lj W).2 != 0,[50,46,53,46,50,57,46,51,49],false,(Lj W).1),(decide (((X.length:Nat):Int)>0),(Lj X).2 != 0,[50,46,53,46,50,57,46,52,54],false,(Lj X).1)] noX (fun i s=>s.length<=11+i) (fun r s=>bif Vj r then .inl 2 else .inr (s++LD r)) (fun e=>some ([],e)) (fun s=>some (s++Y,0)) ?_ ?_ ?_ N A10 kA10 (by show 2<N;omega)).trans ?_
 .intro i s hi hI k;have hi:i<2:=hi;have hI:s.length<=11+i:=hI;dsimp only[U22];rw[AbV (by omega),cond_true,iZ (by omega),J8];rcases(by omega:i=0\/i=1)with rfl | rfl
  .show Vm.chk true (Vm.chk true (bif (((W.length:Nat):Int)==0)then k (i64.wrap (((0:Nat):Int)+1),B,C,D,F,G,H,I,J,K,L,O,P,Q,T,U,V,W,X,Y,[W,X],s)else Jq (Na N W) fun r249=>bif r249.2 != 0 then some ([],r249.2)else Vm.chk true (Vm.chk true (Vm.chk true (Vm.chk (decide ((s.length+1)*41<=140737488355328)) (k (i64.wrap (((0:Nat):Int)+1),B,C,D,F,G,H,I,J,K,L,O,P,Q,T,U,V,W,X,Y,[W,X],s++[([50,46,53,46,50,57,46,51,49],false,r249.1)])))))))=SK (bif Vj (decide (((W.length:Nat):Int)>0),(Lj W).2 != 0,[50,46,53,46,50,57,46,51,49],false,(Lj W).1)then .inl 2 else .inr (s++LD (decide (((W.length:Nat):Int)>0),(Lj W).2 != 0,[50,46,53,46,50,57,46,51,49],false,(Lj W).1))) _ _;unfold Vj LD;rw[len0,iH,hp1,Js,Qd (by omega)];cases he:W.isEmpty with
   | true=>rw[Ec];simp only[J8,cond_true,cond_false,FN,DW];rfl
   | false =>
    have hne:W≠ []:=by intro h;subst h;cases he
    rw[Ee];simp only[J8,cond_true,cond_false,ET];cases hz:(Lj W).2 != 0 with
    | true=>rw[hq1 hne (by simpa using hz)];rfl
    | false=>rfl
  .show Vm.chk true (Vm.chk true (bif (((X.length:Nat):Int)==0)then k (i64.wrap (((1:Nat):Int)+1),B,C,D,F,G,H,I,J,K,L,O,P,Q,T,U,V,W,X,Y,[W,X],s)else Jq (Na N X) fun r249=>bif r249.2 != 0 then some ([],r249.2)else Vm.chk true (Vm.chk true (Vm.chk true (Vm.chk (decide ((s.length+1)*41<=140737488355328)) (k (i64.wrap (((1:Nat):Int)+1),B,C,D,F,G,H,I,J,K,L,O,P,Q,T,U,V,W,X,Y,[W,X],s++[([50,46,53,46,50,57,46,52,54],false,r249.1)])))))))=SK (bif Vj (decide (((X.length:Nat):Int)>0),(Lj X).2 != 0,[50,46,53,46,50,57,46,52,54],false,(Lj X).1)then .inl 2 else .inr (s++LD (decide (((X.length:Nat):Int)>0),(Lj X).2 != 0,[50,46,53,46,50,57,46,52,54],false,(Lj X).1))) _ _;unfold Vj LD;rw[len0,iH,hp2,Js,Qd (by omega)];cases he:X.isEmpty with
   | true=>rw[Ec];simp only[J8,cond_true,cond_false,FN,DW];rfl
   | false =>
    have hne:X≠ []:=by intro h;subst h;cases he
    rw[Ee];simp only[J8,cond_true,cond_false,ET];cases hz:(Lj X).2 != 0 with
    | true=>rw[hq2 hne (by simpa using hz)];rfl
    | false=>rfl
 .intro i s s' hi hI he;have hI:s.length<=11+i:=hI;generalize ([(decide (((W.length:Nat):Int)>0),(Lj W).2 != 0,[50,46,53,46,50,57,46,51,49],false,(Lj W).1),(decide (((X.length:Nat):Int)>0),(Lj X).2 != 0,[50,46,53,46,50,57,46,52,54],false,(Lj X).1)]:List (Bool×Bool×Ex)).getD i noX=r at he;cases B:Vj r with
  | true=>rw[B]at he;cases he
  | false =>rw[B]at he;injection he with he;subst he;have:=PV r;show(s++LD r).length<=11+(i+1);rw[Dx];omega
 .intro s k hI;have hI:s.length<=11+2:=hI;dsimp only[U22];rw[oQ (by show(2:Int)<=((2:Nat):Int);omega),cond_false];dsimp only[U20];rw[Qd (by omega),J8]
 .rw[Nv];have hany:(Ze (B,C,D,F,G,H,I,J,K,L,O,P,Q,T,U,V,W,X,Y)).any Vj=(Vj (P,(Rk (Q,T)).2 != 0,[50,46,53,46,50,57,46,51,48],true,(Rk (Q,T)).1)||(Vj (decide (((W.length:Nat):Int)>0),(Lj W).2 != 0,[50,46,53,46,50,57,46,51,49],false,(Lj W).1)||Vj (decide (((X.length:Nat):Int)>0),(Lj X).2 != 0,[50,46,53,46,50,57,46,52,54],false,(Lj X).1))):=by unfold Ze Vj;simp
  have hflat:(Ze (B,C,D,F,G,H,I,J,K,L,O,P,Q,T,U,V,W,X,Y)).flatMap LD=A10++(LD (decide (((W.length:Nat):Int)>0),(Lj W).2 != 0,[50,46,53,46,50,57,46,51,49],false,(Lj W).1)++LD (decide (((X.length:Nat):Int)>0),(Lj X).2 != 0,[50,46,53,46,50,57,46,52,54],false,(Lj X).1)):=by rw[hA10,hA9,hA8,hA7,hA6,hA5,hA4,hA3,hA2,hA1,<- hl0];unfold Ze;simp only[Gi,List.flatMap_nil,DW,Ei]
  rw[hany,hflat,hE,EI];cases Vj (decide (((W.length:Nat):Int)>0),(Lj W).2 != 0,[50,46,53,46,50,57,46,51,49],false,(Lj W).1)with
  | true=>rfl
  | false =>
   rw[cond_false,Sum.elim_inr,Nv];cases Vj (decide (((X.length:Nat):Int)>0),(Lj X).2 != 0,[50,46,53,46,50,57,46,52,54],false,(Lj X).1)with
   | true=>rfl
   | false =>rw[cond_false,Sum.elim_inr];show some ((A10++LD (decide (((W.length:Nat):Int)>0),(Lj W).2 != 0,[50,46,53,46,50,57,46,51,49],false,(Lj W).1)++LD (decide (((X.length:Nat):Int)>0),(Lj X).2 != 0,[50,46,53,46,50,57,46,52,54],false,(Lj X).1))++Y,(0:Int))=some ((A10++(LD (decide (((W.length:Nat):Int)>0),(Lj W).2 != 0,[50,46,53,46,50,57,46,51,49],false,(Lj W).1)++LD (decide (((X.length:Nat):Int)>0),(Lj X).2 != 0,[50,46,53,46,50,57,46,52,54],false,(Lj X).1)))++Y,0);rw[Ei A10]
def Agd {s:Bs} (h:shortS s):Lt s:=by unfold shortS at h;unfold Lt;omega
def Ao1.small {x:Info} (h:Ao1 x):Aac x:=by
 obtain⟨B,C,D,F,G,H,I,J,K,L,M,O,P,Q,R,S,T,U,un⟩:=x;have h:Ao0 D F J K L P Q R S U G H I M T un:=h;have hi: ∀ {m:Nat} {l:List Bs},Atn m l->m<=1000->l.length<=1048576/\ ∀ s∈l,Lt s:=fun g hm=>⟨by have:=g.1;omega,fun s hs=>Agd (g.2 s hs)⟩
 refine⟨hi h.pu (by omega),hi h.po (by omega),fun s hs=>⟨Agd (h.ma.2 s hs).1,Agd (h.ma.2 s hs).2⟩,Apw h.na,Apw h.pe,Apw h.ex,h.pt.2,h.fr.2,?_,fun s hs=>⟨Agd (h.un.2 s hs).1,Agd (h.un.2 s hs).2⟩⟩;have:=h.un.1;dsimp only;omega
def zRw:Rw:=([],0,0,0,0)
def AgF:Info:=(false,false,0,0,[],[],[],0,0,0,[],false,[],[],[],[],[],[],[])
def Ag5:Info:=(false,false,-1,0,[],[],[],-1,-1,-1,[],false,[],[],[],[],[],[],[])
def Afy (e:Int) (u:Info):Info×Int:=bif e != 0 then(AgF,e)else bif Um u != 0 then(AgF,Um u)else(u,0)
def of1 {α :Type} {o:Option α} {v: α} (h:Ends (fun r=>r=v) o):o=some v:=by obtain⟨w,rfl,rfl⟩:=h;rfl
def Gives.got {e:Int} {u:Info} {o:Option (Int×Info)} (h:Gives e u o):Gives e u (Jq o fun r=>some (r.1,r.2)):=by obtain⟨j,rfl,h⟩:=h;exact⟨j,rfl,h⟩
def Axj (M:Nat):((List.range 13).map fun k=>Ql (M+300) (Nl.getD k zRw).1)=(List.range 13).map fun k=>some (Nl.getD k zRw,true):=by kernel_rfl
def At9 (row:Rw) (c:Bool):Bool:=bif row.2.1==1 then !c else bif row.2.1==0 then c else false
def Azi (M:Nat) (c:Bool) (s:Bs):((List.range 13).map fun k=>Oi (M+300) ((Nl.getD k zRw).1,c,s))=(List.range 13).map fun k=>some (At9 (Nl.getD k zRw) c):=by kernel_rfl
def AvA {s:Bs} (h:TD s=true): ∃ k,k<13/\s=(Nl.getD k zRw).1:=by unfold TD at h;rw[<- Aqy]at h;obtain⟨x,hx,he⟩:=FU.1 h;obtain⟨r,hr,rfl⟩:=DD.1 hx;obtain⟨k,hk,rfl⟩:=FO.1 hr;exact⟨k,by rw[AiL]at hk;exact hk,by rw[getD_lt Nl k zRw hk];exact(EU.1 he).symm⟩
def unk {s:Bs} (h:TD s=false) (k:Nat) (hk:k<13):(s==Zv.getD k [])=false:=by have h2:=F9.1 h (Zv.getD k []) (getD_mem [] (by rw[Alu];exact hk));rw[Hg];intro he;exact h2 (EU.2 he.symm)
def A1z (N:Nat) (id:Bs) (c:Bool) (s:Bs) (h:TD id=false):Oi N (id,c,s)=some false:=by have u0:(id==([50,46,53,46,50,57,46,49,57]:Bs))=false:=unk h 0 (by decide);have u1:(id==([50,46,53,46,50,57,46,49,53]:Bs))=false:=unk h 1 (by decide);have u2:(id==([50,46,53,46,50,57,46,51,55]:Bs))=false:=unk h 2 (by decide);have u3:(id==([50,46,53,46,50,57,46,51,50]:Bs))=false:=unk h 3 (by decide);have u4:(id==([50,46,53,46,50,57,46,51,51]:Bs))=false:=unk h 4 (by decide);have u5:(id==([50,46,53,46,50,57,46,51,54]:Bs))=false:=unk h 5 (by decide);have u6:(id==([50,46,53,46,50,57,46,53,52]:Bs))=false:=unk h 6 (by decide);have u7:(id==([50,46,53,46,50,57,46,49,55]:Bs))=false:=unk h 7 (by decide);have u8:(id==([50,46,53,46,50,57,46,51,48]:Bs))=false:=unk h 8 (by decide);have u9:(id==([50,46,53,46,50,57,46,49,52]:Bs))=false:=unk h 9 (by decide);have u10:(id==([50,46,53,46,50,57,46,51,53]:Bs))=false:=unk h 10 (by decide);have u11:(id==([50,46,53,46,50,57,46,51,49]:Bs))=false:=unk h 11 (by decide);have u12:(id==([50,46,53,46,50,57,46,52,54]:Bs))=false:=unk h 12 (by decide);unfold Oi;simp only[u0,u1,u2,u3,u4,u5,u6,u7,u8,u9,u10,u11,u12,cond_false,Pz,U4]
def Aya (N:Nat) (j:Info) (l:List Ex) (x:Ex) (hv:Og N x.1=some false):Np N j l x=some (11,j):=by
 unfold Np;try simp -zeta only[Ap]
 rw[hv,Js];rfl
section
variable {N:Nat} (hN:1048578<N)
include hN
section
variable (B C:Bool) (D F:Int) (G H:List Bs) (I:List (Bs×Bs)) (J im L:Int) (O:List Gn) (P:Bool) (Q R:List Gn) (S U:Bs) (V fr:List Pt) (W:List Ex)
theorem A18 (id:Bs) (c:Bool) (s:Bs) (h:TD id=false) (hs:s.length<=1048576) (hu:W.length<=1000):Kr N (B,C,D,F,G,H,I,J,im,L,O,P,Q,R,S,U,V,fr,W) (id,c,s)=some (Sp.chk s,(B,C,D,F,G,H,I,J,im,L,O,P,Q,R,S,U,V,fr,W++[(id,c,s)])):=by
 have u0:(id==([50,46,53,46,50,57,46,49,57]:Bs))=false:=unk h 0 (by decide);have u1:(id==([50,46,53,46,50,57,46,49,53]:Bs))=false:=unk h 1 (by decide);have u2:(id==([50,46,53,46,50,57,46,51,55]:Bs))=false:=unk h 2 (by decide);have u3:(id==([50,46,53,46,50,57,46,51,50]:Bs))=false:=unk h 3 (by decide);have u4:(id==([50,46,53,46,50,57,46,51,51]:Bs))=false:=unk h 4 (by decide);have u5:(id==([50,46,53,46,50,57,46,51,54]:Bs))=false:=unk h 5 (by decide);have u6:(id==([50,46,53,46,50,57,46,53,52]:Bs))=false:=unk h 6 (by decide);have u7:(id==([50,46,53,46,50,57,46,49,55]:Bs))=false:=unk h 7 (by decide);have u8:(id==([50,46,53,46,50,57,46,51,48]:Bs))=false:=unk h 8 (by decide);have u9:(id==([50,46,53,46,50,57,46,49,52]:Bs))=false:=unk h 9 (by decide);have u10:(id==([50,46,53,46,50,57,46,51,53]:Bs))=false:=unk h 10 (by decide);have u11:(id==([50,46,53,46,50,57,46,51,49]:Bs))=false:=unk h 11 (by decide);have u12:(id==([50,46,53,46,50,57,46,52,54]:Bs))=false:=unk h 12 (by decide);unfold Kr;try simp -zeta only[Ap]
 simp only[u0,u1,u2,u3,u4,u5,u6,u7,u8,u9,u10,u11,u12,cond_false];rw[Dn (by omega),J8,AaW N s (by omega) (by omega) (by omega),Js]
theorem A1e (l:List Ex) (id:Bs) (c:Bool) (s:Bs) (row:Rw) (hv:Og N id=some true) (hl:l.length<=1048576) (hf:Ql N id=some (row,true)) :
 Np N (B,C,D,F,G,H,I,J,im,L,O,P,Q,R,S,U,V,fr,W) l (id,c,s)=bif l.any (fun y=>y.1==id)then some (10,(B,C,D,F,G,H,I,J,im,L,O,P,Q,R,S,U,V,fr,W))else bif At9 row c then some (20,(B,C,D,F,G,H,I,J,im,L,O,P,Q,R,S,U,V,fr,W))else Jq (Agu N row.2.2.2.2 (s,(B,C,D,F,G,H,I,J,im,L,O,P,Q,R,S,U,V,fr,W))) fun r=>some (r.1,r.2):=by
 unfold Np;try simp -zeta only[Ap]
 rw[hv,Js];simp only[Ec,cond_false];refine Rz (mk:=fun i=>((i:Int),B,C,D,F,J,im,L,O,P,Q,R,S,U,V,fr,G,H,I,W,id,c,s)) l ([],false,[]) (fun y=>y.1==id) _ _ ?_ ?_ N (by omega)
 .intro i hi k;dsimp only[U23];simp (disch:=omega) only[J4,Ko]
 .intro k;dsimp only[U23];rw[oQ (by omega),cond_false];dsimp only[U22];rw[hf,Js];simp only[Ec,cond_false,Al2];unfold At9;by_cases h:row.2.1=1
  .rw[h];cases c<;>rfl
  .rw[show(row.2.1==1)=false from VN h];cases row.2.1==0<;>cases c<;>rfl
theorem A1f (l:List Ex) (id:Bs) (c:Bool) (s:Bs) (row:Rw) (hv:Og N id=some true) (hl:l.length<=1048576) (hf:Ql N id=some (row,false)) (hs:s.length<=1048576) (hu:W.length<=1000) :
 Np N (B,C,D,F,G,H,I,J,im,L,O,P,Q,R,S,U,V,fr,W) l (id,c,s)=bif l.any (fun y=>y.1==id)then some (10,(B,C,D,F,G,H,I,J,im,L,O,P,Q,R,S,U,V,fr,W))else some (Sp.chk s,(B,C,D,F,G,H,I,J,im,L,O,P,Q,R,S,U,V,fr,W++[(id,c,s)])):=by
 unfold Np;try simp -zeta only[Ap]
 rw[hv,Js];simp only[Ec,cond_false];refine Rz (mk:=fun i=>((i:Int),B,C,D,F,J,im,L,O,P,Q,R,S,U,V,fr,G,H,I,W,id,c,s)) l ([],false,[]) (fun y=>y.1==id) _ _ ?_ ?_ N (by omega)
 .intro i hi k;dsimp only[U23];simp (disch:=omega) only[J4,Ko]
 .intro k;dsimp only[U23];rw[oQ (by omega),cond_false];dsimp only[U22];rw[hf,Js];simp only[Ee,cond_true];rw[Dn (by omega),J8,Agm N s (by omega) (by omega) (by omega),Js]
end
theorem Azc: ∀ k,k<13->Kin N (Nl.getD k zRw).2.2.2.2 (Nl.getD k zRw).1:=by
 intro k hk;have:k=0\/k=1\/k=2\/k=3\/k=4\/k=5\/k=6\/k=7\/k=8\/k=9\/k=10\/k=11\/k=12:=by omega
 rcases this with rfl | rfl | rfl | rfl | rfl | rfl | rfl | rfl | rfl | rfl | rfl | rfl | rfl
 .exact A1o hN
 .exact A1p hN
 .exact A1q hN
 .exact A1r hN
 .exact A1s hN
 .exact A1t hN
 .exact A1u hN
 .exact A1v hN
 .exact A1w hN
 .exact A1x hN
 .exact A0U hN
 .exact A0V hN
 .exact A0W hN
end
def AiJ (N:Nat) (j:Info) (l:List Ex) (x:Ex):Option (Int×Info) :=
 Jq (KL N x.1) fun r=>bif !r then some (11,j)else Jq (TK N l x.1) fun r=>bif r.2 then some (10,j)else Jq (Oi N x) fun r=>bif r then some (20,j)else Kr N j x
def Awe {ρ :Type} (N:Nat) (j:Info) (p:List Ex) (x:Ex) (E:Int->Option ρ) (K:Int×Info->Option ρ):(Jq (KL N x.1) fun r=>bif !r then E 11 else Jq (TK N p x.1) fun r=>bif r.2 then E 10 else Jq (Oi N x) fun r=>bif r then E 20 else Jq (Kr N j x) fun r=>bif r.1 != 0 then E r.1 else K r)=Jq (AiJ N j p x) fun r=>bif r.1 != 0 then E r.1 else K r:=by
 unfold AiJ;cases KL N x.1 with
 | none=>rfl
 | some b=>cases b with
  | false=>rfl
  | true=>cases TK N p x.1 with
   | none=>rfl
   | some r =>
    obtain⟨r,b⟩:=r;cases b with
    | true=>rfl
    | false=>cases Oi N x with
     | none=>rfl
     | some b=>cases b with
      | true=>rfl
      | false=>rfl
abbrev unO (j:Info):List Ex:=j.2.2.2.2.2.2.2.2.2.2.2.2.2.2.2.2.2.2
def take2 {N:Nat} (hN:1048578<N) (j:Info) (p:List Ex) (x:Ex) (hx:SG x) (hp:p.length<=1000) (hz:Sz j) (hd: ∀ i,p.any (fun y=>y.1==i)=false->Df i j) (hu:(unO j).length<=p.length) (hy: ∀ y∈unO j,SG y) :
 ∃ e u,Gives e u (Np N j p x)/\Gives e u (AiJ N j p x)/\(e=0->Sz u/\(∀ i,(p++[x]).any (fun y=>y.1==i)=false->Df i u)/\(unO u).length<=(p++[x]).length/\ ∀ y∈unO u,SG y):=by
 obtain⟨M,rfl⟩: ∃ M,N=M+300:=⟨N - 300,by omega⟩
 obtain⟨id,c,s⟩:=x;have hv:=Xr _ id hN hx.1;have hw:=Yz _ id hN hx.1;obtain⟨w,hf⟩:=ArE (M+300) p id (by omega) (by omega);unfold AiJ;rw[hw,Js];have nx: ∀ i,(p++[(id,c,s)]).any (fun y=>y.1==i)=false->p.any (fun y=>y.1==i)=false/\i≠id:=by intro i h;rw[List.any_append,EN]at h;refine⟨h.1,fun he=> ?_⟩;have:=h.2;subst he;simp at this
 cases h1:Oz id with
 | false =>rw[h1]at hv;exact⟨11,j,⟨j,Aya _ j p _ hv,fun _=>rfl⟩,⟨j,rfl,fun _=>rfl⟩,fun h=>by cases h⟩
 | true =>
  rw[h1]at hv;simp only[Ec,cond_false];rw[hf,Js];dsimp only;obtain⟨row,hfi⟩:=find_eq (M+300) id hN;cases h3:TD id with
  | true =>
   obtain⟨k,hk,rfl⟩:=AvA h3;have a1:=Jf.1 (Axj M) k (EP.2 hk);have a2:=Jf.1 (Azi M c s) k (EP.2 hk);obtain⟨B,C,D,F,G,H,I,J,im,L,O,P,Q,R,S,U,V,fr,W⟩:=j;rw[A1e hN B C D F G H I J im L O P Q R S U V fr W p _ c s _ hv (by omega) a1];cases h2:p.any (fun y=>y.1==(Nl.getD k zRw).1)with
   | true=>exact⟨10,_,Gives.ok,Gives.ok,fun h=>by cases h⟩
   | false =>
    simp only[cond_false];rw[a2,Js];cases h4:At9 (Nl.getD k zRw) c with
    | true=>exact⟨20,_,Gives.ok,Gives.ok,fun h=>by cases h⟩
    | false =>
     obtain⟨e,u,g1,g2,s1,d1,n1⟩:=(Azc hN k hk) s (B,C,D,F,G,H,I,J,im,L,O,P,Q,R,S,U,V,fr,W) hx.2 hz (hd _ h2);refine⟨e,u,Gives.got g1,g2 c,fun _=>⟨s1,fun i h=>d1 i (nx i h).2 (hd i (nx i h).1),?_,?_⟩⟩
     .unfold unO at hu ⊢;rw[n1,Dx];omega
     .unfold unO at hy ⊢;rw[n1];exact hy
  | false =>
   rw[h3]at hfi;obtain⟨B,C,D,F,G,H,I,J,im,L,O,P,Q,R,S,U,V,fr,W⟩:=j;have hz:SzP G H I O Q R V fr:=hz;have hd: ∀ i,p.any (fun y=>y.1==i)=false->DfP i D G H I J im:=hd;have hu:W.length<=p.length:=hu;have hy: ∀ y∈W,SG y:=hy;have hx2:s.length<=1048576:=hx.2;rw[A1f hN B C D F G H I J im L O P Q R S U V fr W p id c s row hv (by omega) hfi hx2 (by omega)];cases h2:p.any (fun y=>y.1==id)with
   | true=>exact⟨10,_,Gives.ok,Gives.ok,fun h=>by cases h⟩
   | false =>
    simp only[cond_false];rw[A1z _ id c s h3,Js,cond_false,A18 hN B C D F G H I J im L O P Q R S U V fr W id c s h3 hx2 (by omega)];refine⟨_,_,Gives.ok,Gives.ok,fun _=>⟨(show SzP G H I O Q R V fr from hz),fun i h=>(show DfP i D G H I J im from hd i (nx i h).1),?_,?_⟩⟩
    .show(W++[(id,c,s)]).length<=_;rw[Dx,Dx];show W.length+1<=p.length+1;omega
    .show ∀ y∈W++[(id,c,s)],SG y;exact Xq hy hx
def runT (T:Info->List Ex->Ex->Option (Int×Info)):List Ex->Info->List Ex->Option (Int×Info)
 | _,j,[]=>some (0,j)
 | p,j,x::r=>match T j p x with
  | some (e,j')=>if e=0 then runT T (p++[x]) j' r else some (e,j')
  | none=>none
section
variable {T:Info->List Ex->Ex->Option (Int×Info)} {p:List Ex} {j u:Info} {x:Ex} {r:List Ex} {e:Int}
theorem Asm (h:T j p x=some (0,u)):runT T p j (x::r)=runT T (p++[x]) u r:=by rw[runT,h];rfl
theorem AmH (h:T j p x=some (e,u)) (he:e≠0):runT T p j (x::r)=some (e,u):=by rw[runT,h];show(if e=0 then _ else _)=_;rw[Dt he]
theorem AmG (h:runT T p j (x::r)=some (e,u)): ∃ e' j',T j p x=some (e',j')/\((e'=0/\runT T (p++[x]) j' r=some (e,u))\/(e'≠0/\e=e')):=by
 rw[runT]at h;cases P:T j p x with
 | none=>rw[P]at h;cases h
 | some v =>
  obtain⟨e',j'⟩:=v;rw[P]at h;dsimp only at h;by_cases he:e'=0
  .rw[Dq he]at h;exact⟨e',j',rfl,.inl ⟨he,h⟩⟩
  .rw[Dt he]at h;injection h with h;injection h with h1 h2;exact⟨e',j',rfl,.inr ⟨he,h1.symm⟩⟩
end
def A16 {N:Nat} (hN:1048578<N): ∀(r p:List Ex) (j:Info),(p++r).length<=1000->(∀ x∈r,SG x)->Sz j->(∀ i,p.any (fun y=>y.1==i)=false->Df i j)->(unO j).length<=p.length->(∀ y∈unO j,SG y) ->
 ∃ e u,Gives e u (runT (Np N) p j r)/\Gives e u (runT (AiJ N) p j r)/\(e=0->Sz u/\(unO u).length<=(p++r).length/\ ∀ y∈unO u,SG y):=by
 intro r
 induction r with
 | nil=>intro p j hl hr hz hd hu hy;exact⟨0,j,Gives.ok,Gives.ok,fun _=>⟨hz,by rw[DW];exact hu,hy⟩⟩
 | cons x r ih =>
  intro p j hl hr hz hd hu hy;have hlp:p.length<=1000:=by rw[Dx]at hl;omega
  obtain⟨e,u,⟨j1,a1,b1⟩,⟨j2,a2,b2⟩,f⟩:=take2 hN j p x (hr x Dw) hlp hz hd hu hy;by_cases h0:e=0
  .subst h0;obtain⟨s1,s2,s3,s4⟩:=f rfl;rw[b1 rfl]at a1;rw[b2 rfl]at a2;have ha:p++x::r=(p++[x])++r:=by rw[Ei];rfl
   rw[Asm a1,Asm a2,ha];exact ih (p++[x]) u (by rw[<- ha];exact hl) (fun y hy=>hr y (Dz _ hy)) s1 s2 s3 s4
  .rw[AmH a1 h0,AmH a2 h0];exact⟨e,u,⟨j1,rfl,b1⟩,⟨j2,rfl,b2⟩,fun h=>absurd h h0⟩
abbrev StT:Type:=Bool×Bool×Int×Int×Int×Int×Int×List Gn×Bool×List Gn×List Gn×Bs×Bs×List Pt×List Pt×List Ex×List (Bs×Bs)×List Bs×List Bs
def stI:StT->Info
 | (B,C,D,F,J,im,L,O,P,Q,R,S,U,V,fr,W,I,H,G)=>(B,C,D,F,G,H,I,J,im,L,O,P,Q,R,S,U,V,fr,W)
abbrev StR:Type:=Bool×Bool×Int×Int×List Bs×Int×Int×Int×List Gn×Bool×List Gn×List Gn×Bs×Bs×List Pt×List Pt×List Ex×List (Bs×Bs)×List Bs
def stR:StR->Info
 | (B,C,D,F,G,J,im,L,O,P,Q,R,S,U,V,fr,W,I,H)=>(B,C,D,F,G,H,I,J,im,L,O,P,Q,R,S,U,V,fr,W)
def step_take {l:List Ex} {i:Nat} (hi:i<l.length):l.take i++[l.getD i ([],false,[])]=l.take (i+1):=by rw[Fv,D9 hi,getD_lt l i _ hi];rfl
def step_drop {l:List Ex} {i:Nat} (hi:i<l.length):l.drop i=l.getD i ([],false,[])::l.drop (i+1):=by rw[Es hi,<- getD_lt l i ([],false,[]) hi]
def tK {e:Int} (h:e≠0) (j:Info):Afy e j=(AgF,e):=by unfold Afy;rw[aQ h,cond_true]
section
variable {N:Nat} (hN:1048578<N)
include hN
theorem Asr {l:List Ex} {e:Int} {j:Info} (hl:l.length<=24) (h:runT (Np N) [] Ag5 l=some (e,j)) (P:e=0->Tc N j=some (Um j)):RF N l=some (Afy e j):=by
 refine of1 ?_;unfold RF;try simp -zeta only[Ap]
 rw[AbT (by omega),cond_false,show Xa N=some Ag5 from rfl,Js];refine O9 (fun(x:Int×StT)=>0<=x.1/\x.1<=(l.length:Int)/\runT (Np N) (l.take x.1.toNat) (stI x.2) (l.drop x.1.toNat)=some (e,j)) (fun x=>((l.length:Int) - x.1).toNat) ?_ N _ ⟨by dsimp only;omega,by dsimp only;omega,h⟩ (by dsimp only;omega);rintro ⟨i,B,C,D,F,J,im,L,O,hc',Q,R,S,U,V,fr,W,I,H,G⟩ ⟨i0,i1,ht⟩ k hk;dsimp only at i0 i1 ht hk;dsimp only[U20];unfold stI at ht;refine Kv (fun hi=> ?_) (fun hi=> ?_)
 .have hi:=DN hi;have e1:(i+1).toNat=i.toNat+1:=by omega
  refine JF (Dn i0) (JF (Dn hi) (JF (Dn i0) (JF (Dn i1) ?_)));rw[Vd];rw[step_drop (by omega)]at ht;obtain⟨e',j',h1,h2⟩:=AmG ht;rw[h1,Js];dsimp only;rw[step_take (by omega)]at h2;rcases h2 with ⟨h0,h2⟩ | ⟨h0,h2⟩
  .subst h0;rw[show((0:Int) != 0)=false from rfl,cond_false];refine hk _ ⟨?_,?_,?_⟩ ?_
   .dsimp only;rw[w64 (by omega) (by omega)];omega
   .dsimp only;rw[w64 (by omega) (by omega)];omega
   .dsimp only;rw[w64 (by omega) (by omega),e1];exact h2
   .dsimp only;rw[w64 (by omega) (by omega)];omega
  .rw[aQ h0,cond_true];subst h2;exact Lr (tK h0 j).symm
 .have hi:=Fg hi;dsimp only[U19];rw[show i.toNat=l.length by omega,EY,runT]at ht;injection ht with ht;injection ht with h0 ht;subst h0 ht;rw[P rfl,Js];unfold Afy;rw[show((0:Int) != 0)=false from rfl,cond_false];exact Kv (fun h=>by rw[h];exact Lr rfl) (fun h=>by rw[h];exact Lr rfl)
theorem AkG {l:List Ex} {e:Int} {j:Info} (hl:l.length<=24) (h:runT (AiJ N) [] Ag5 l=some (e,j)) (P:e=0->QF N j=some (Um j)):Qa N l=some (Afy e j):=by
 refine of1 ?_;unfold Qa;try simp -zeta only[Ap]
 rw[AbT (by omega),cond_false,show dN N=some Ag5 from rfl,Js];refine O9 (fun(x:Int×StR)=>0<=x.1/\x.1<=(l.length:Int)/\runT (AiJ N) (l.take x.1.toNat) (stR x.2) (l.drop x.1.toNat)=some (e,j)) (fun x=>((l.length:Int) - x.1).toNat) ?_ N _ ⟨by dsimp only;omega,by dsimp only;omega,h⟩ (by dsimp only;omega);rintro ⟨i,B,C,D,F,G,J,im,L,O,hc',Q,R,S,U,V,fr,W,I,H⟩ ⟨i0,i1,ht⟩ k hk;dsimp only at i0 i1 ht hk;dsimp only[U20];unfold stR at ht;refine Kv (fun hi=> ?_) (fun hi=> ?_)
 .have hi:=DN hi;have e1:(i+1).toNat=i.toNat+1:=by omega
  refine JF (Dn i0) (JF (Dn hi) ?_);rw[Dn i0,Dn i1];simp only[J8];rw[Vd];refine(congrArg (Ends _) (Awe N (B,C,D,F,G,H,I,J,im,L,O,hc',Q,R,S,U,V,fr,W) (l.take i.toNat) (l.getD i.toNat ([],false,[])) (fun e=>some (AgF,e)) _)).mpr ?_;rw[step_drop (by omega)]at ht;obtain⟨e',j',h1,h2⟩:=AmG ht;rw[h1,Js];dsimp only;rw[step_take (by omega)]at h2;rcases h2 with ⟨h0,h2⟩ | ⟨h0,h2⟩
  .subst h0;rw[show((0:Int) != 0)=false from rfl,cond_false];refine hk _ ⟨?_,?_,?_⟩ ?_
   .dsimp only;rw[w64 (by omega) (by omega)];omega
   .dsimp only;rw[w64 (by omega) (by omega)];omega
   .dsimp only;rw[w64 (by omega) (by omega),e1];exact h2
   .dsimp only;rw[w64 (by omega) (by omega)];omega
  .rw[aQ h0,cond_true];subst h2;exact Lr (tK h0 j).symm
 .have hi:=Fg hi;dsimp only[U19];rw[show i.toNat=l.length by omega,EY,runT]at ht;injection ht with ht;injection ht with h0 ht;subst h0 ht;rw[P rfl,Js];unfold Afy;rw[show((0:Int) != 0)=false from rfl,cond_false];exact Kv (fun h=>by rw[h];exact Lr rfl) (fun h=>by rw[h];exact Lr rfl)
def OkR (x:Info):Prop:=Sz x/\(unO x).length<=24
theorem A1m (l:List Ex) (hs: ∀ x∈l,SG x): ∃ r:Info×Int,RF N l=some r/\Qa N l=some r/\OkR r.1:=by
 have hz:Sz AgF/\Sz Ag5:=by
  have g:okT ([],0):=⟨fun g hg=>(by cases hg),TE⟩
  have q:(∀ p∈([]:List Pt),NS p)/\zD ([],0):=⟨fun p hp=>(by cases hp),DF _,fun p hp=>(by cases hp)⟩
  have:SzP [] [] [] [] [] [] [] []:=⟨⟨DF _,fun s h=>(by cases h)⟩,⟨DF _,fun s h=>(by cases h)⟩,⟨DF _,fun s h=>(by cases h)⟩,g,g,g,q,q⟩
  exact⟨this,this⟩
 by_cases hl:l.length<=24
 .obtain⟨e,u,⟨j1,a1,b1⟩,⟨j2,a2,b2⟩,f⟩:=A16 hN l [] Ag5 (by simp only[List.nil_append];omega) hs hz.2 (fun i _=>⟨fun _=>rfl,fun _=>rfl,fun _=>rfl,fun _=>rfl,fun _=>⟨rfl,rfl⟩⟩) (DK _) (fun y hy=>by cases hy);have ck:e=0->Aac u:=fun h=>by obtain⟨s1,s2,s3⟩:=f h;have s2:(unO u).length<=l.length:=s2;exact⟨s1.hpu,s1.hpo,s1.hma.2,s1.hna.1,s1.hpe.1,s1.hex.1,s1.hpt.1,s1.hfr.1,⟨by unfold unO at s2;omega,s3⟩⟩
  refine⟨Afy e u,?_,?_,?_⟩
  .have:=Asr hN hl a1 (fun h=>by rw[b1 h];exact AhH N u hN (ck h));rw[this];by_cases h:e=0
   .rw[b1 h]
   .rw[tK h,tK h]
  .have:=AkG hN hl a2 (fun h=>by rw[b2 h];exact Aek N u hN (ck h));rw[this];by_cases h:e=0
   .rw[b2 h]
   .rw[tK h,tK h]
  .by_cases h:e=0
   .obtain⟨s1,s2,s3⟩:=f h;have s2:(unO u).length<=l.length:=s2;unfold Afy;rw[h,show((0:Int) != 0)=false from rfl,cond_false];cases Um u != 0 with
    | true=>exact⟨hz.1,DF _⟩
    | false=>exact⟨s1,by show(unO u).length<=24;omega⟩
   .rw[tK h];exact⟨hz.1,DF _⟩
 .refine⟨(AgF,2),?_,?_,hz.1,DF _⟩
  .unfold RF;try simp -zeta only[Ap]
   rw[show decide ((l.length:Int)>24)=true from Dn (by omega)];rfl
  .unfold Qa;try simp -zeta only[Ap]
   rw[show decide ((l.length:Int)>24)=true from Dn (by omega)];rfl
end
def Apl (t:Nat) (c:Bs):(Alj t c).1.length<=131077:=Aw1
def AxX (s:St2):(Rk s).1.length<=131077:=by
 unfold Rk;cases eH s != 0 with
 | true=>exact DF _
 | false=>exact Apl _ _
def Aqd (l:List Pt):(Lj l).1.length<=131077:=by
 unfold Lj;cases l.isEmpty with
 | true=>exact DF _
 | false=>cases SA l != 0 with
  | true=>exact DF _
  | false=>exact Apl _ _
def XN {t:Nat} {c:Bs} (h:c.length<=131095):(Sp.elem t c).length<=131100:=by have:=Sp.Kw t c;omega
def Akc {b:Bool} {c:Bs} {k:Nat} (h:c.length<=k):((bif b then c else []):Bs).length<=k:=by cases b with
 | true=>exact h
 | false=>exact DF _
def Azw {N:Nat} (hN:1048578<N) {x:Info} (h0:Um x=0):(Ze x).all (fun r=>decide (r.2.2.1.length<=40)&&decide (r.2.2.2.2.length<=131100))=true:=by
 obtain⟨C,D,F,G,H,I,J,K,O,Q,R,S,T,U,V,W,X,fr,un⟩:=x;obtain⟨ok,_⟩:=Ap5 h0;obtain⟨s1,s2,s3,s4⟩:=ok.sp;have k: ∀ {n:Int} {t:Nat},spI n=true->(Sp.elem t (inB n)).length<=7:=fun h=>by have:=AaJ N hN h;have:=Sp.Kw ‹Nat› (inB ‹Int›);omega
 have v1:(Aeu D F).length<=131100:=XN (by rw[Dx];have a:((bif D then Sp.elem 1 [255]else []):Bs).length<=6:=Akc (by decide);have b:((bif F != -1 then Sp.elem 2 (inB F)else []):Bs).length<=7:=Akc (k s1);omega);have v2:(Sp.elem 3 (flB G)).length<=131100:=XN (by have:=Agx ok.us;omega);have v3:(Ap4 H).length<=131100:=XN (by have:=NM (g:=NH) (M:=65) (l:=H) (fun m hm=>by exact Su (ok.pu.2 m hm));have:=ok.pu.1;omega);have v4:(ApZ I).length<=131100:=XN (by have:=NM (g:=(fun s=>Sp.elem 48 (NH s))) (M:=70) (l:=I) (fun m hm=>by have:=Su (ok.po.2 m hm);have:=Sp.Kw 48 (NH m);omega);have:=ok.po.1;omega);have v5:(ApH J).length<=131100:=XN (by have:=NM (g:=(fun m:Bs×Bs=>Sp.elem 48 (NH m.1++NH m.2))) (M:=135) (l:=J) (fun m hm=>by have:=Su (ok.ma.2 m hm).1;have:=Su (ok.ma.2 m hm).2;have:=Sp.Kw 48 (NH m.1++NH m.2);rw[Dx]at this;omega);have:=ok.ma.1;omega);have v6:(Aii K O).length<=131100:=XN (by rw[Dx];have a:((bif K != -1 then Sp.elem 128 (inB K)else []):Bs).length<=7:=Akc (k s2);have b:((bif O != -1 then Sp.elem 129 (inB O)else []):Bs).length<=7:=Akc (k s3);omega);have v7:(Sp.elem 2 (inB Q)).length<=131100:=by have:=k (t:=2) s4;omega
 have v8:(Sp.elem 48 (Q9 R)).length<=131100:=XN (by have:=wX ok.na.2 ok.na.1;omega);have v9:(Rk (T,U)).1.length<=131100:=by have:=AxX (T,U);omega
 have va:(Sp.elem 4 V).length<=131100:=XN (by have:=ok.sk;omega);have vb:(Sp.elem 48 (Sp.elem 128 W)).length<=131100:=XN (by have:=ok.ak;have:=Sp.Kw 128 W;omega);have vc:(Lj X).1.length<=131100:=by have:=Aqd X;omega
 have vd:(Lj fr).1.length<=131100:=by have:=Aqd fr;omega
 unfold Ze;simp only[List.all_cons,List.all_nil,Dn v1,Dn v2,Dn v3,Dn v4,Dn v5,Dn v6,Dn v7,Dn v8,Dn v9,Dn va,Dn vb,Dn vc,Dn vd];rfl
def AyY: ∀(l:List (Bool×Bool×Ex)),(l.flatMap LD).length<=l.length:=by
 intro l
 induction l with
 | nil=>exact DK _
 | cons r l ih=>rw[Gi,Dx,List.length_cons];have:=PV r;omega
def AzY {N:Nat} (hN:1048578<N) {x:Info} (hx:Ao1 x):(∀ e∈(encI x).1,e.1.length<=40/\e.2.2.length<=131100)/\(encI x).1.length<=1000:=by
 obtain⟨hu1,hu2⟩:(unO x).length<=900/\ ∀ e∈unO x,e.1.length<=40/\e.2.2.length<=131100:=by obtain⟨C,D,F,G,H,I,J,K,O,Q,R,S,T,U,V,W,X,fr,un⟩:=x;have h:Ao0 F G K O Q T U V W fr H I J R X un:=hx;have h1:=h.un.1;refine⟨by show un.length<=900;omega,fun e he=> ?_⟩;have h2:=h.un.2 e he;have h3:e.2.2.length<=40:=h2.2;exact⟨h2.1,by omega⟩
 unfold encI;by_cases h0:Um x=0
 .rw[aP h0,cond_false];cases (Ze x).any Vj with
  | true=>exact⟨(fun e he=>nomatch he),DF _⟩
  | false =>
   rw[cond_false];refine⟨fun e he=> ?_,?_⟩
   .rcases DR.1 he with he | he
    .obtain⟨r,hr,hg⟩:=Eu.1 he;have:=DJ.1 (Azw hN h0) r hr;rw[Dv,D6,D6]at this;unfold LD at hg;cases h1:r.1 with
     | true=>rw[h1,cond_true,DY]at hg;subst hg;exact this
     | false=>rw[h1]at hg;exact nomatch hg
    .exact hu2 e he
   .rw[Dx];have a:=AyY (Ze x);rw[Awh]at a;unfold unO at hu1;omega
 .rw[aQ h0,cond_true];exact⟨(fun e he=>nomatch he),DF _⟩
def Ajr (x:Ex):Bool:=decide (200<x.1.length)||decide (300<x.2.2.length)
def Ak3 (l:List Ex):Bool:=bif decide (30<l.length)then false else bif l.any Ajr then false else true
def Aep (N:Nat) (l:List Ex) (hN:1048578<N):QY N l=some (Ak3 l):=by
 unfold QY;try simp only[clR]
 unfold Ak3;rw[show decide (((l.length:Nat):Int)>30)=decide (30<l.length)from SX _ 30];by_cases h12:30<l.length
 .rw[Dn h12];rfl
 rw[Du h12,cond_false,cond_false,<- JD];refine Rz (mk:=fun i=>(i:Int)) l ([],false,[]) Ajr (some false) (some true) ?_ ?_ N (by omega)
 .intro i hi k;dsimp only;rw[Int.toNat_natCast];generalize l.getD i ([],false,[])=a;rw[show decide (((a.1.length:Nat):Int)>200)=decide (200<a.1.length)from SX _ 200,show decide (((a.2.2.length:Nat):Int)>300)=decide (300<a.2.2.length)from SX _ 300];have ha:(decide (200<a.1.length)||decide (300<a.2.2.length))=Ajr a:=rfl;rw[ha,AbV (by omega),cond_true,iZ (by omega),J8,J8,w64 (by omega) (by omega)];rfl
 .intro k;rw[oQ (by omega),cond_false]
def AxR {l:List Ex} (h:Ak3 l=true):l.length<=30/\ ∀ x∈l,x.1.length<=200/\x.2.2.length<=300:=by
 unfold Ak3 at h;cases h1:decide (30<l.length)with
 | true=>rw[h1]at h;cases h
 | false =>
  cases h2:l.any Ajr with
  | true=>rw[h1,h2]at h;cases h
  | false =>have h1:=Fg h1;have h2:=F9.1 h2;refine⟨by omega,fun p hp=> ?_⟩;have:=h2 p hp;unfold Ajr at this;rw[E5,D6,D6]at this;omega
def qN (N:Nat) (l:List Bs) (hN:1048578<N) (hl:l.length<=1048576):NW N l l=some true:=by
 unfold NW;try simp only[clR]
 rw[aP rfl,cond_false];refine(Rz (mk:=fun i=>(i:Int)) l [] (fun _=>false) (some false) (some true) ?_ ?_ N (by omega)).trans ?_
 .intro i hi k;simp (disch:=omega) only[J4,Ko];rw[Ep];rfl
 .intro k;simp (disch:=omega) only[J4]
 .rw[F9.2 (fun _ _=>by decide)];rfl
def Ahl (N:Nat) (l:List (Bs×Bs)) (hN:1048578<N) (hl:l.length<=1048576):Qw N l l=some true:=by
 unfold Qw;try simp only[clR]
 rw[aP rfl,cond_false];refine(Rz (mk:=fun i=>(i:Int)) l ([],[]) (fun _=>false) (some false) (some true) ?_ ?_ N (by omega)).trans ?_
 .intro i hi k;simp (disch:=omega) only[J4,Ko];rw[Ep,Ep];rfl
 .intro k;simp (disch:=omega) only[J4]
 .rw[F9.2 (fun _ _=>by decide)];rfl
def Ad0 (N:Nat) (l:List Ex) (hN:1048578<N) (hl:l.length<=1048576):Pq N l l=some true:=by
 unfold Pq;try simp only[clR]
 rw[aP rfl,cond_false];refine(Rz (mk:=fun i=>(i:Int)) l ([],false,[]) (fun _=>false) (some false) (some true) ?_ ?_ N (by omega)).trans ?_
 .intro i hi k;simp (disch:=omega) only[J4,Ko];generalize l.getD i ([],false,[])=x;rw[Ep,Ep,Ep];rfl
 .intro k;simp (disch:=omega) only[J4]
 .rw[F9.2 (fun _ _=>by decide)];rfl
def AwD (M:Nat):Y4 (M+400)=some true:=by kernel_rfl
def Ata {N:Nat} (hN:1048578<N) {x:Info} (hx:OkR x):Y5 N x x=some true:=by
 obtain⟨C,D,F,G,H,I,J,K,O,Q,R,S,T,U,V,W,X,fr,un⟩:=x;obtain⟨h,hu⟩:=hx;have h:SzP H I J R T U X fr:=h;have hu:un.length<=24:=hu;have q1:=qN N H hN h.hpu.1;have q2:=qN N I hN h.hpo.1;have q3:=Ahl N J hN h.hma.1;have q4:=Ui N R hN h.hna.2
 have q5:Qu N (T,U) (T,U)=some true:=by
  unfold Qu;try simp -zeta only[Ap]
  simp only[Ui N T hN h.hpe.2,Ui N U hN h.hex.2,Js,cond_true,J8,DV,Option.isSome_some,Option.getD_some]
 have q6:=aJ N X hN h.hpt.2.1 h.hpt.2.2;have q7:=aJ N fr hN h.hfr.2.1 h.hfr.2.2;have q8:=Ad0 N un hN (by omega);have e1:=Tt N R hN h.hna.2;have e2:=Tt N T hN h.hpe.2;have e3:=Tt N U hN h.hex.2;have e4:=rV N X hN h.hpt.2.1 h.hpt.2.2;have e5:=rV N fr hN h.hfr.2.1 h.hfr.2.2
 have hs:Yb N (C,D,F,G,H,I,J,K,O,Q,R,S,T,U,V,W,X,fr,un) (C,D,F,G,H,I,J,K,O,Q,R,S,T,U,V,W,X,fr,un)=some true:=by
  unfold Yb;try simp -zeta only[Ap]
  simp only[Jy,Ep,cond_true,J8,DV,Option.isSome_some,Option.getD_some,q1,q2,q3,q4,q5,q6,q7,q8]
 unfold Y5;try simp -zeta only[Ap]
 simp only[hs,Js,Jy,cond_true,cond_false,J8,Ec,Ee,DV,Option.isSome_some,Option.getD_some,e1,e2,e3,e4,e5]
def AoT {L:List Int} {n:Nat} {o:Option (Bs×List Int×Int)} (h:Dam L n o):Ends (fun r=>r.1.length<=n/\KP L r.2) o:=by obtain⟨r,d,h1,h2,h3⟩:=h;exact⟨(r,d),h1,h3,h2⟩
def smX (l:List Ex):Prop:= ∀ e∈l,SG e
def Abu {l:List Ex} {i:Nat} {v:Ex} (h:smX l) (hv:SG v):smX (l.set i v):=fun e he=>by
 rcases GG he with he | rfl
 .exact h e he
 .exact hv
def AoV (N:Nat) (p0:List Ex) (p1:List Int) (p2:Int) (p3:Bs) (hN:1048578<N) (hL:p1.length<=9223372036854775807) (h2:0<=p2):PM N p0 p1 p2 p3=some true:=by
 have haw:Y4 N=some true:=by
  obtain⟨M,rfl⟩: ∃ M,N=M+400:=⟨N - 400,by omega⟩
  exact AwD M
 unfold PM;try simp only[clR]
 rw[Aep N p0 hN,Js];cases hs:Ak3 p0 with
 | false=>rw[haw];rfl
 | true =>
  obtain⟨_,hp0⟩:=AxR hs;simp only[Ec,Ee,DV,EI,cond_false,J8];by_cases h3:p3.length<=200
  rotate_left
  .rw[show decide ((p3.length:Int)>200)=true from Dn (by omega),cond_true,haw];rfl
  rw[AbT (by omega),cond_false];refine of1 ?_;rw[show Aim N p1=some (p1,0)from rfl,Js];refine JO (Av5 N hN hL (d:=(p1,0)) ⟨0,rfl,DF _⟩) ?_;rintro ⟨x,d1,d2⟩ ⟨hx,hd⟩;dsimp only at hx hd ⊢;rw[AmT N x hN hx.small,Js];obtain⟨hm,hl⟩:=AzY hN hx;generalize (encI x).1=l at hm hl ⊢;have hsm:smX l:=fun e he=>⟨by have:=(hm e he).1;unfold Lt;omega,by have:=(hm e he).2;unfold Lt;omega⟩
  refine JF (Dn (by omega)) ?_;refine wR (P:=fun y=> ∃ a b m,y=(a,b,Zv,m)/\KP p1 (a,b)/\smX m) (fun j hj=> ?_) ?_
  .refine Kv (fun h0=> ?_) (fun _=>hj _ ⟨_,_,_,rfl,hd,hsm⟩);have h0:=DN h0;refine JO (nx N hL hd (l.length:Int) (by omega) (by omega)) ?_;rintro ⟨i,a,b⟩ ⟨i0,i1,hd1⟩;dsimp only at i0 i1 hd1 ⊢;refine JO (nx N hL hd1 6 (by omega) (by omega)) ?_;rintro ⟨q,c,d⟩ ⟨_,_,hd2⟩;dsimp only at hd2 ⊢;have hi:i.toNat<l.length:=by omega
   have hg:SG (l.getD i.toNat ([],false,[])):=hsm _ (getD_mem _ hi);have hv:=(hm _ (getD_mem ([],false,[]) hi)).2;refine Kv (fun _=> ?_) (fun _=>Kv (fun _=> ?_) (fun _=>Kv (fun _=> ?_) (fun _=>Kv (fun _=> ?_) (fun _=> ?_))))
   .repeat refine JF (Dn (by omega)) ?_
    exact hj _ ⟨_,_,_,rfl,hd2,Abu hsm ⟨hg.1,hg.2⟩⟩
   .repeat refine JF (Dn (by omega)) ?_
    refine JO (AoT (Amd N hL hd2 _ (by omega))) ?_;rintro ⟨v,e,f⟩ ⟨hv1,hd3⟩;dsimp only at hv1 hd3 ⊢;repeat refine JF (Dn (by omega)) ?_
    exact hj _ ⟨_,_,_,rfl,hd3,Abu hsm ⟨hg.1,by show v.length<=_;omega⟩⟩
   .repeat refine JF (Dn (by omega)) ?_
    exact hj _ ⟨_,_,_,rfl,hd2,Xq hsm hg⟩
   .simp only[Gt];repeat refine JF (Dn (by omega)) ?_
    exact hj _ ⟨_,_,_,rfl,hd2,Abu (Abu hsm hg) (hsm _ (getD_mem _ (by omega)))⟩
   .repeat refine JF (Dn (by omega)) ?_
    refine JO (AoT (AuD N hL (by omega) N _ (by omega) (by omega) (by omega) _ hd2)) ?_;rintro ⟨v,e,f⟩ ⟨hv1,hd3⟩;dsimp only at hv1 hd3 ⊢;repeat refine JF (Dn (by omega)) ?_
    exact hj _ ⟨_,_,_,rfl,hd3,Abu hsm ⟨hg.1,by show v.length<=_;omega⟩⟩
  .rintro _ ⟨a,b,m,rfl,hd1,hm1⟩;dsimp only[U4];have t0:0<=p2.tmod 13:=Int.tmod_nonneg 13 h2;have t1:p2.tmod 13<13:=Ht p2 (by omega);have hk:=Alu;repeat refine JF (Dn (by omega)) ?_
   refine JO (nx N hL hd1 2 (by omega) (by omega)) ?_;rintro ⟨q,c,d⟩ _;dsimp only
   have hid:Lt (Zv.getD (p2.tmod 13).toNat []):=by
    have: ∀ s∈Zv,Lt s:=by
     have:(Zv.all fun s=>decide (s.length<=40))=true:=by kernel_rfl
     intro s hs;have:=DN (DJ.1 this s hs);unfold Lt;omega
    exact this _ (getD_mem _ (by omega))
   have hall: ∀ y∈ [p0,l,m,[(Zv.getD (p2.tmod 13).toNat [],q==(1:Int),p3)]],smX y:=by
    intro y hy;simp only[D8,Gp,or_false]at hy;rcases hy with rfl | rfl | rfl | rfl
    .exact fun e he=>⟨by have:=(hp0 e he).1;unfold Lt;omega,by have:=(hp0 e he).2;unfold Lt;omega⟩
    .exact hsm
    .exact hm1
    .intro e he;rw[DY]at he;subst he;exact⟨hid,by show p3.length<=_;omega⟩
   have hlen: [p0,l,m,[(Zv.getD (p2.tmod 13).toNat [],q==(1:Int),p3)]].length=4:=rfl;generalize [p0,l,m,[(Zv.getD (p2.tmod 13).toNat [],q==(1:Int),p3)]]=A at hall hlen ⊢;refine O9 (fun(x:Int×List (List Ex))=>0<=x.1/\x.1<=4/\x.2=A) (fun x=>(4 - x.1).toNat) ?_ N _ ⟨by dsimp only;omega,by dsimp only;omega,rfl⟩ (by dsimp only;omega);rintro ⟨t,B⟩ ⟨g0,g1,rfl⟩ k hk;dsimp only at g0 g1 hk;dsimp only[U2];refine Kv (fun ht=> ?_) (fun _=> ?_)
   .have ht:=DN ht;have hti:t.toNat<B.length:=by rw[hlen];omega
    have htj:t<(B.length:Int):=by rw[hlen];omega
    refine JF (Dn g0) (JF (Dn htj) (JF (Dn hti) ?_));obtain⟨r,h1,h2,h3⟩:=A1m hN _ (hall _ (getD_mem ([]:List Ex) hti));rw[h1,Js,h2,Js];simp only[Ata hN h3,DX,Ee,Ec,DV,Fh,Option.isSome_some,Option.getD_some,cond_false,J8];refine hk (i64.wrap (t+1),B) ⟨?_,?_,rfl⟩ ?_
    .dsimp only;rw[w64 (by omega) (by omega)];omega
    .dsimp only;rw[w64 (by omega) (by omega)];omega
    .dsimp only;rw[w64 (by omega) (by omega)];omega
   .rw[haw,Js];exact Lr rfl
end Go.Proofs.YtakmjgnpefmjhaaGreatDoor.Pl
namespace Go.Proofs.YtakmjgnpefmjhaaGreatDoor.Vm
open Go.RowKit
def Moves.below {T:Nat->Prop} {w w':World} (h:Moves (fun _ _=>none) T w w'):Below w.heap.size w w' :=
 ⟨h.os,h.tape,h.output,h.size,fun b hb=>by
   rcases h.blk b hb with e | ⟨c,c',e,fr,_,_,_,_,k,o,_,ho,_⟩ | ⟨_,_,_,_,o,_,_,ho,_⟩
   .exact e
   .cases ho
   .cases ho⟩
def Sig.A11 {Jz JI:List Sh} {f:ShT Jz->Option (ShT (Ns Jz JI))} {xs:List A} {a:ShT Jz} {o:ShT (Ns Jz JI)} (hd:gW Jz xs=some a) (hf:f a=some o):(Sig.of Jz JI f).F xs=some (encs (Ns Jz JI) o):=by unfold Sig.F Sig.of;dsimp only;rw[hd];dsimp only;rw[hf];rfl
def AvB {P:Program} {f:FuncId} {sg:Sig} (h:Spec P f sg) {xs:List A} {vs:Array Value} {W:World} (hF:sg.F xs=some [.bool true]) (hress:sg.JI=[.cell false .bool]) (hv:vs.size=xs.length) (hl:xs.length=sg.Jz.length) (h100:xs.length<=100)
 (hx: ∀ j,j<xs.length->IR (fun _ _=>none) W (256*j) (vs.getD j undef) (xs.getD j .undef)) (hI:Inv (fun _ _=>none) W):Calls P f vs W fun e w'=>e= .returned (.bool true)/\Below W.heap.size W w':=by
 refine(h.2 (fun _ _=>none) W vs xs _ hI hv hl h100 hx hF).mono fun e w' hq=> ?_;obtain⟨v,O',he,hc⟩:=hq;obtain⟨us,h1,h2,h3⟩:=hc.res;rw[hress]at h1;have h1':us.size=1:=h1;have h4:JE O' w' (us.getD 0 undef) (.bool true):=h3 0 (by omega);have h5:us.getD 0 undef= .bool true:=by generalize us.getD 0 undef=z at h4;cases h4;rfl
 have h6:v= .bool true:=by rw[h2,dif_pos h1',<- h5];simp [Dy,h1']
 exact⟨by rw[he,h6],hc.moves.below⟩
open Go.ChangeShapes Go.WideShapes
def nobody:Own:=fun _ _=>none
def AxA:A->Prop
 | .int k n=>k.min<=n/\n<=k.max
 | .str s=>s.length<=9223372036854775807
 | _=>True
def okN:Nat->A->Prop
 | 0,_=>False
 | n+1,.sl l=>l.xs.length<=9223372036854775807/\ ∀ c∈l.es,∀ a∈c,okN n a
 | _+1,a=>AxA a
structure Opened (n:Nat) (w:World) (ks:List CK) (cs:List Value) (aa:List A):Prop where
 lc:cs.length=ks.length
 la:aa.length=ks.length
 rel: ∀ j,j<ks.length->JE nobody w (cs.getD j undef) (aa.getD j .undef)
 made:((tyl ks).mk aa).1=true
 ok: ∀ a∈aa,okN n a
def A0o: ∀(n:Nat) (a:A),okN n a->okN (n+1) a:=by
 intro n
 induction n with
 | zero=>intro a h;exact h.elim
 | succ n ih =>intro a h;cases a<;>first | exact h | exact⟨h.1,fun c hc z hz=>ih z (h.2 c hc z hz)⟩
def Opened.up {n:Nat} {w:World} {ks:List CK} {cs:List Value} {aa:List A} (h:Opened n w ks cs aa):Opened (n+1) w ks cs aa:=⟨h.lc,h.la,h.rel,h.made,fun a ha=>A0o n a (h.ok a ha)⟩
def AvK: ∀(a:List CK) {b:List CK} {x y:List A},((tyl a).mk x).1=true->((tyl b).mk y).1=true->((tyl (a++b)).mk (x++y)).1=true:=by
 intro a
 induction a with
 | nil =>
  intro b x y hx hy;cases x with
  | nil=>exact hy
  | cons _ _=>cases hx
 | cons k a ih =>
  intro b x y hx hy;cases k with
  | bool =>
   cases x with
   | nil=>cases hx
   | cons c x=>cases c<;>first | exact ih (x:=x) hx hy | cases hx
  | int k =>
   cases x with
   | nil=>cases hx
   | cons c x =>
    cases c<;>first
     | (simp only[tyl,Ty.mk,Dv]at hx
        simp only[List.cons_append,tyl,Ty.mk,Dv];exact⟨hx.1,ih hx.2 hy⟩)
     | cases hx
  | str =>
   cases x with
   | nil=>cases hx
   | cons c x=>cases c<;>first | exact ih (x:=x) hx hy | cases hx
  | sl e t =>
   cases x with
   | nil=>cases hx
   | cons c x =>
    cases c with
    | sl l =>
     simp only[tyl,Ty.mk]at hx;simp only[List.cons_append,tyl,Ty.mk];cases hc:l.cast t with
     | none=>rw[hc]at hx;cases hx
     | some xs=>rw[hc]at hx;exact ih (x:=x) hx hy
    | _=>cases hx
  | sln e t =>
   cases x with
   | nil=>cases hx
   | cons c x =>
    cases c with
    | sl l =>
     simp only[tyl,Ty.mk]at hx;simp only[List.cons_append,tyl,Ty.mk];cases hc:l.cast t with
     | none=>rw[hc]at hx;cases hx
     | some xs=>rw[hc]at hx;exact ih (x:=x) hx hy
    | _=>cases hx
  | ptr =>
   cases x with
   | nil=>cases hx
   | cons c x=>cases c<;>first | exact ih (x:=x) hx hy | cases hx
  | fn =>
   cases x with
   | nil=>cases hx
   | cons c x=>cases c<;>first | exact ih (x:=x) hx hy | cases hx
  | mp kt vt =>
   cases x with
   | nil=>cases hx
   | cons c x =>
    cases c with
    | ump l =>
     simp only[tyl,Ty.mk]at hx;simp only[List.cons_append,tyl,Ty.mk];cases hc:l.cast kt vt with
     | none=>rw[hc]at hx;cases hx
     | some xs=>rw[hc]at hx;exact ih (x:=x) hx hy
    | _=>cases hx
  | bx t =>
   cases x with
   | nil=>cases hx
   | cons c x =>
    cases c with
    | sl l =>
     simp only[tyl,Ty.mk]at hx;simp only[List.cons_append,tyl,Ty.mk];cases hc:l.cast t with
     | none=>rw[hc]at hx;cases hx
     | some xs=>rw[hc]at hx;exact ih (x:=x) hx hy
    | _=>cases hx
  | oth =>
   cases x with
   | nil=>cases hx
   | cons c x=>cases c<;>first | exact ih (x:=x) hx hy | cases hx
theorem Opened.nil {n:Nat} {w:World}:Opened n w [] [] []:=⟨rfl,rfl,fun j hj=>absurd hj (Ii j),rfl,fun a ha=>(by cases ha)⟩
def Opened.append {n:Nat} {w:World} {a b:List CK} {x y:List Value} {p q:List A} (h1:Opened n w a x p) (h2:Opened n w b y q):Opened n w (a++b) (x++y) (p++q):=by
 refine⟨by simp [h1.lc,h2.lc],by simp [h1.la,h2.la],fun j hj=> ?_,AvK a h1.made h2.made,fun z hz=> ?_⟩
 .rw[Dx]at hj;by_cases h:j<a.length
  .have:=h1.rel j h;rw[Dp,Ew (by rw[h1.lc];exact h),<- Dp,Dp (l:=p++q),Ew (by rw[h1.la];exact h),<- Dp];exact this
  .have:=h2.rel (j - a.length) (by omega);rw[Dp,EG (by rw[h1.lc];omega),<- Dp,Dp (l:=p++q),EG (by rw[h1.la];omega),<- Dp,h1.lc,h1.la];exact this
 .rcases DR.1 hz with hz | hz
  .exact h1.ok z hz
  .exact h2.ok z hz
def Opened.one {n:Nat} {w:World} {k:CK} {v:Value} {a:A} (hr:JE nobody w v a) (hm:((tyl [k]).mk [a]).1=true) (ho:okN n a):Opened n w [k] [v] [a] :=
 ⟨rfl,rfl,fun j hj=>by
   have:j=0:=by simp at hj;omega
   subst this;exact hr,hm,fun z hz=>by rw[DY.1 hz];exact ho⟩
def iY (P:Program) (n t:Nat):Nat:=match QW P n t with | some cs=>cs.length | none=>0
def AjZ (P:Program) (n:Nat):List Field->Nat->Bool
 | [],_=>true
 | f::r,o=>Nat.beq f.offset o&&Nat.beq (P.cellsOf f.type) (iY P n f.type)&&AjZ P n r (o+iY P n f.type)
def AaT (P:Program):Nat->Nat->Bool
 | 0,_=>false
 | n+1,t=>match P.underlying t with
  | some .bool=>true
  | some (.int _)=>true
  | some .string=>true
  | some (.slice e)=>AaT P n e&&Nat.beq (P.cellsOf e) (iY P n e)&&Nat.blt 0 (iY P n e)&&(match QW P n e with | some cs=>cs.all CK.plain | none=>false)
  | some (.struct fs)=>Nat.beq (P.cellsOf t) (iY P (n+1) t)&&AjZ P n fs.toList 0&&fs.toList.all (fun f=>AaT P n f.type)
  | _=>false
section
variable {H:Type} {enc:TypeId×Value->H} {P:Program} {w:World} {base:Nat} {spare:Nat->Bool} {held:Bool}
theorem Ae2 {a:Addr} {n:Nat} {cs:List Value} (h:w.cells? base a n=some cs):cs.length=n/\ ∀ j,j<n->w.cell? (a.add j)=some (cs.getD j undef):=by
 unfold World.cells? at h;split at h
 .have key: ∀(l:List Nat) (cs:List Value),l.mapM (fun i=>w.cell? (a.add i))=some cs->cs.length=l.length/\ ∀ j (hj:j<l.length),w.cell? (a.add l[j])=some (cs.getD j undef):=by
   intro l
   induction l with
   | nil=>grind
   | cons i l ih =>
    intro cs h;rw[Iu]at h;cases h1:w.cell? (a.add i)with
    | none=>rw[h1]at h;cases h
    | some v =>
     rw[h1]at h;cases h2:l.mapM (fun i=>w.cell? (a.add i))with
     | none=>rw[h2]at h;cases h
     | some r =>
      rw[h2]at h;injection h with h;subst h;obtain⟨k1,k2⟩:=ih r h2;refine⟨by simp [k1],fun j hj=> ?_⟩;cases j with
      | zero=>exact h1
      | succ j=>grind
  all_goals grind
 .cases h
theorem AxY {l:List Value} {o a b:Nat}:(l.drop o).take (a+b)=(l.drop o).take a++(l.drop (o+a)).take b:=by rw[List.take_add,FM]
theorem AcQ (e:Nat) (t:Ty) (xs:List t.Val):((tyl [.sl e t]).mk [.sl ⟨t,xs⟩]).1=true:=by simp only[tyl,Ty.mk];rw[Sl.jX];rfl
theorem ArA (hspare: ∀ b,spare b=true): ∀(n:Nat) (t:TypeId) (ks:List CK) (fuel:Nat) (cs:List Value) (x:DataW H×List MemPlace),QW P n t=some ks->AaT P n t=true->DataW.trod enc P w base spare held fuel t cs=some x ->
 ∃ aa,Opened n w ks cs aa:=by
 intro n
 induction n with
 | zero=>intro t ks fuel cs x h;cases h
 | succ n ih =>
  intro t ks fuel cs x hck hok h;unfold QW at hck;unfold AaT at hok;cases hu:P.underlying t with
  | none=>rw[hu]at hck;cases hck
  | some d =>
   rw[hu]at hck hok;cases d with
   | bool =>injection hck with hck;subst hck;obtain⟨b,rfl,_⟩:=DataW.trod_bool hu h;exact⟨[.bool b],Opened.one (.bool b) rfl trivial⟩
   | int k =>
    injection hck with hck;subst hck;obtain⟨v,rfl,_,hw⟩:=DataW.trod_int hu h;have hk:AxA (.int k v):=by unfold Lit.wf at hw;rw[Dv,D6,D6]at hw;exact hw
    exact⟨[.int k v],Opened.one (.int k v) (by cases k<;>rfl) hk⟩
   | string =>
    injection hck with hck;subst hck;obtain⟨v,rfl,_,hw⟩:=DataW.trod_string hu h
    have hk:AxA (.str v.data.toList):=by
     show v.data.toList.length<=_;have e:v.data.toList.length=v.size:=by rw[Array.length_toList];rfl
     have:maxLen=9223372036854775807:=rfl;omega
    exact⟨[.str v.data.toList],Opened.one (.str v) rfl hk⟩
   | slice e =>
    dsimp only at hck hok;simp only[Dv]at hok;obtain⟨⟨⟨hoe,hce⟩,hc0⟩,hpl⟩:=hok;cases hke:QW P n e with
    | none=>rw[hke]at hpl;cases hpl
    | some ke =>
     rw[hke]at hck hpl;dsimp only at hck hpl;rw[hpl]at hck;injection hck with hck;subst hck;have hlen:P.cellsOf e=ke.length:=by have:=D5 hce;unfold iY at this;rw[hke]at this;exact this
     rcases DataW.trod_slice hu h with ⟨rfl,_⟩ | ⟨a,len,cap,elems,rest,m,_,rfl,_,hb,hl,hm,hel,hels,hsp,_⟩
     .exact⟨[.sl ⟨tyl ke,[]⟩],Opened.one (.nil _) (AcQ _ _ _) ⟨DF _,fun c hc=>(by cases hc)⟩⟩
     .by_cases hcap:cap=0
      .have hlen0:len=0:=by omega
       subst hcap;subst hlen0;exact⟨[.sl ⟨tyl ke,[]⟩],Opened.one (.sl0 a _) (AcQ _ _ _) ⟨DF _,fun c hc=>(by cases hc)⟩⟩
      have hk0:0<P.cellsOf e:=by have h2:=D5 hce;rw[h2];simpa using hc0
      have hread: ∃ u,w.cell? a=some u:=by
       by_cases h0:0<len
       .have he:=hels 0 h0;rw[D9 (by omega:0<elems.length),GR]at he;obtain⟨q,hq,_⟩:=he;obtain⟨_,k2⟩:=Ae2 hq;have:=k2 0 hk0;rw[Ia]at this;exact⟨_,this⟩
       .have hz:len=0:=by omega
        obtain⟨hr1,hr2⟩:=hsp (hspare _);have he:=hr2 0 (by omega);rw[D9 (by omega:0<rest.length),GR]at he;obtain⟨q,hq,_⟩:=he;obtain⟨_,k2⟩:=Ae2 hq;have:=k2 0 hk0;rw[hz,Ia]at this;exact⟨_,this⟩
      have hspot:a.spot=none:=by
       obtain⟨u,hu⟩:=hread;unfold World.cell? at hu;split at hu
       .cases hs:a.spot with
        | none=>rfl
        | some z=>rw[hs]at hu;cases hu
       .cases hu
      have ha:a=at' a.block a.off:=by obtain⟨b,o,sp⟩:=a;dsimp only at hspot;rw[hspot]
      have each: ∀ i,∃(q:List Value) (aa:List A),i<len->(∀ j,j<ke.length->w.cell? (at' a.block (a.off+(i*ke.length+j)))=some (q.getD j undef))/\Opened n w ke q aa:=by
       intro i;by_cases hi:i<len
       .have he:=hels i hi;have hei:elems[i]? =some (elems[i]'(by omega)):=D9 (by omega);rw[hei,GR]at he;obtain⟨q,hq,hq2⟩:=he;obtain⟨k1,k2⟩:=Ae2 hq;rw[hlen]at k1 k2;obtain⟨aa,h1⟩:=ih e ke m q _ hke hoe hq2;refine⟨q,aa,fun _=>⟨fun j hj=> ?_,h1⟩⟩;have:=k2 j hj;rw[ha,Tu,Tu]at this;rw[<- this];congr 2;omega
       .exact⟨[],[],fun h=>absurd h hi⟩
      obtain⟨q,hq⟩:=GL each;obtain⟨aa,haa⟩:=GL hq;let l:Sl:=⟨tyl ke,(List.range len).map fun i=>((tyl ke).mk (aa i)).2⟩
      have hes:l.es=(List.range len).map aa:=by show((List.range len).map fun i=>((tyl ke).mk (aa i)).2).map (tyl ke).cells=_;rw[Fp];refine EK fun i hi=> ?_;exact Ty.V7 _ _ (haa i (EP.1 hi)).2.made
      have hesl:l.es.length=len:=by rw[hes,D7,Ef]
      have hsz:l.sz=ke.length:=Yg ke;have hget: ∀ i,i<len->l.es.getD i []=aa i:=fun i hi=>by rw[hes,Dp,E8,II hi];rfl
      have hrel:JE nobody w (.slice (some a) len cap) (.sl l):=by
       rw[ha,<- hesl];refine JE.sl (fun i j=>(q i).getD j undef) (by rw[hesl];exact hl) (fun i j hi hj=> ?_) (fun i j hi hj=> ?_)
       .rw[hsz]at hj ⊢;exact⟨rfl,(haa i (by rw[<- hesl];exact hi)).1 j hj⟩
       .rw[hsz]at hj;have hi':i<len:=by rw[<- hesl];exact hi
        rw[hget i hi'];exact(haa i hi').2.rel j hj
      refine⟨[.sl l],Opened.one hrel (AcQ _ _ _) ⟨?_,fun c hc z hz=> ?_⟩⟩
      .show((List.range len).map _).length<=_;rw[D7,Ef];have:maxLen=9223372036854775807:=rfl;omega
      .rw[hes]at hc;obtain⟨i,hi,rfl⟩:=DD.1 hc;exact(haa i (EP.1 hi)).2.ok z hz
   | struct fs =>
    dsimp only at hck hok;simp only[Dv]at hok;obtain⟨⟨hcl,hoff⟩,hall⟩:=hok;obtain⟨xs,m,_,_,hl,hxl,hxs⟩:=DataW.trod_struct hu h
    have fields: ∀(l:List Field) (o:Nat) (ks:List CK),l.foldr (fun f acc=>match QW P n f.type,acc with | some a,some b=>some (a++b) | _,_=>none) (some [])=some ks->AjZ P n l o=true->(∀ f∈l,AaT P n f.type=true) ->
     (∀ f∈l,∃ y,DataW.trod enc P w base spare held m f.type ((cs.drop f.offset).take (P.cellsOf f.type))=some y)-> ∃ aa,Opened n w ks ((cs.drop o).take ks.length) aa:=by
     intro l
     induction l with
     | nil =>intro o ks hk _ _ _;injection hk with hk;subst hk;exact⟨[],Opened.nil⟩
     | cons f r ihr =>
      intro o ks hk ho hf hy;rw[List.foldr_cons]at hk;cases ha:QW P n f.type with
      | none=>rw[ha]at hk;cases hk
      | some a =>
       rw[ha]at hk;cases hb:r.foldr (fun f acc=>match QW P n f.type,acc with | some a,some b=>some (a++b) | _,_=>none) (some [])with
       | none=>rw[hb]at hk;cases hk
       | some b =>
        rw[hb]at hk;injection hk with hk;subst hk;have hal:iY P n f.type=a.length:=by unfold iY;rw[ha]
        unfold AjZ at ho;simp only[Dv]at ho;obtain⟨⟨h1,h2⟩,h3⟩:=ho;have h1:=D5 h1;have h2:=D5 h2;rw[hal]at h2 h3;obtain⟨y,hy1⟩:=hy f Dw;rw[h1,h2]at hy1;obtain⟨pa,p1⟩:=ih f.type a m _ y ha (hf f Dw) hy1;obtain⟨pb,q1⟩:=ihr (o+a.length) b hb h3 (fun g hg=>hf g (Dz _ hg)) (fun g hg=>hy g (Dz _ hg));refine⟨pa++pb,?_⟩;rw[Dx,AxY];exact p1.append q1
    obtain⟨aa,h1⟩:=fields fs.toList 0 ks hck hoff (fun f hf=>DJ.1 hall f hf) (fun f hf=>by
     obtain⟨i,hi⟩:=List.getElem?_of_mem hf;have hi':fs[i]? =some f:=by rw[<- EZ];exact hi
     have:=hxs i f hi';have hlt:i<xs.length:=by rw[hxl];exact(Eo.1 hi').1
     rw[D9 hlt]at this;exact⟨_,this⟩)
    have hcs:(cs.drop 0).take ks.length=cs:=by
     rw[Gl];refine GX ?_;have h3:=D5 hcl;have h4:iY P (n+1) t=ks.length:=by unfold iY QW;rw[hu];dsimp only;rw[hck]
     omega
    rw[hcs]at h1;exact⟨aa,h1.up⟩
   | _=>cases hok
theorem AsH {r:Reach} {b0:Nat} {u:TypeId} {cs:Array Value} (h:Cell.okWide P w r b0 u (.agg cs)):False:=by
 have h':Cell.ok P w r b0 u (.agg cs):=by unfold Cell.okWide at h;all_goals grind
 unfold Cell.ok at h';all_goals grind
def AzM (P:Program) (t:TypeId):Bool:=match P.underlying t with
 | some (.struct _)=>true
 | some (.array _ _)=>true
 | _=>false
theorem open_cell {r:Reach} {b0 n:Nat} {t:TypeId} {v:Value} {d:DataW H} {ps:List MemPlace} {k:CK} (hck:QW P n t=some [k]) (hspare: ∀ b,spare b=true) (hok:AaT P n t=true) (ha:AzM P t=false) (hval:Value.okWide P w r b0 t v) (hd:DataW.Trod enc P w base spare held t v d ps) :
 ∃ a,JE nobody w v a/\((tyl [k]).mk [a]).1=true/\okN n a:=by
 have hc:Cell.okWide P w r b0 t v:=by unfold Value.okWide at hval;all_goals grind[AzM]
 have hcells:v.cells.toList=[v]:=by
  cases v with
  | agg cs=>exact(AsH hc).elim
  | _=>rfl
 obtain⟨fuel,h⟩:=hd;rw[hcells]at h;obtain⟨aa,h1⟩:=ArA hspare n t [k] fuel [v] _ hck hok h;obtain⟨a,rfl⟩: ∃ a,aa=[a]:=GV.1 h1.la;exact⟨a,h1.rel 0 (by show 0<1;omega),h1.made,h1.ok a Dw⟩
theorem Opened.ir {n:Nat} {ks:List CK} {cs:Array Value} {aa:List A} (h:Opened n w ks cs.toList aa) (id:Nat):IR nobody w id (.agg cs) (.agg aa):=by
 refine⟨cs,rfl,?_,fun j hj=>JE.ic ?_⟩
 .rw[<- Array.length_toList,h.lc,h.la]
 .have:=h.rel j (by rw[<- h.la];exact hj);all_goals simp_all[CK,IR,nobody]
theorem JE.ir {id:Nat} {v:Value} {a:A} (h:JE nobody w v a):IR nobody w id v a:=by have:=h.ic (id:=id);cases h<;>exact this
end
open Go Go.Lib
abbrev tabs:List (String×DataW Unit):=[("math/bits.deBruijn32tab",Rows.laid_math_bits_deBruijn32tab),("math/bits.deBruijn64tab",Rows.laid_math_bits_deBruijn64tab),("internal/strconv.uint64pow10",Rows.laid_internal_strconv_uint64pow10),("unicode/utf8.acceptRanges",Rows.laid_unicode_utf8_acceptRanges),("unicode/utf8.first",Rows.laid_unicode_utf8_first)]
def A1y:DataW Unit->Value
 | .lit (.int k n)=>.int k n
 | _=>undef
def N9:DataW Unit->List Value
 | .agg l=>l.map A1y
 | _=>[]
def NY:DataW Unit->List Value
 | .agg l=>l.flatMap N9
 | _=>[]
noncomputable def laidWorld (os:Os):World :=
 let w0:=World.holding Tryz.prog os ⟨#[],#[],[]⟩
 {w0 with heap:=((((w0.heap.modify 3 fun
  | .cells _ t frozen=>.cells (N9 Rows.laid_internal_strconv_uint64pow10).toArray t frozen
  | o=>o).modify 1 fun
  | .cells _ t frozen=>.cells (N9 Rows.laid_unicode_utf8_first).toArray t frozen
  | o=>o).modify 2 fun
  | .cells _ t frozen=>.cells (NY Rows.laid_unicode_utf8_acceptRanges).toArray t frozen
  | o=>o).modify 4 fun
  | .cells _ t frozen=>.cells (N9 Rows.laid_math_bits_deBruijn32tab).toArray t frozen
  | o=>o).modify 5 fun
  | .cells _ t frozen=>.cells (N9 Rows.laid_math_bits_deBruijn64tab).toArray t frozen
  | o=>o}
def laid_met (os:Os) (args:Array Value):laidMet Tryz.prog tabs ((laidWorld os).forCall (fun _ _=>0) ⟨#[],args,[]⟩).memory :=
 laidMet_of_run' 8 (by kernel_rfl) (by kernel_rfl)
set_option maxRecDepth 100000 in
def AxE {W:World} (h:laidMet Tryz.prog tabs W) (j:Nat) (hj:j<20):W.cell? ⟨3,j,none⟩=some (.int .u64 ((10 ^ j:Nat):Int)):=by
 obtain⟨g,t,cs,fuel,p,hg,ht,hvar,hd⟩:=laidMet.reads h (n:= "internal/strconv.uint64pow10") (d:=Rows.laid_internal_strconv_uint64pow10) (Dz _ (Dz _ Dw));obtain rfl:=Gw ((show Tryz.prog.globalNamed "internal/strconv.uint64pow10" =some 3 by kernel_rfl).symm.trans hg);obtain rfl:=Gw ((show(Tryz.prog.globals[3]?).map (·.type)=some 273 by kernel_rfl).symm.trans ht);have hu:Tryz.prog.underlying 273=some (.array 20 162):=by kernel_rfl
 have hu2:Tryz.prog.underlying 162=some (.int .u64):=by kernel_rfl
 have hc:Tryz.prog.cellsOf 162=1:=by kernel_rfl
 have hds:(Rows.laid_internal_strconv_uint64pow10:DataW Unit)= .agg ((List.range 20).map fun j=>.lit (.int .u64 ((10 ^ j:Nat):Int))):=by kernel_rfl
 rw[hds]at hd;obtain⟨fuel',d,q,h1,h2⟩:=array_elem hu hd j hj;rw[E8,II hj]at h1;injection h1 with h1;subst h1;rw[hc,FK]at h2;obtain⟨n,h3,h4,_⟩:=DataW.trod_int hu2 h2;have hn:((10 ^ j:Nat):Int)=n:=by have:=congrArg Prod.fst h4;injection this with this;injection this with _ this
 rw[World.var?_cell hg hvar j]
 have h5:(cs.toList.drop j)[0]? =some (.int .u64 n):=by
  have:((cs.toList.drop j).take 1)[0]? =some (.int .u64 n):=by rw[h3];rfl
  rwa [GH (by omega)]at this
 rw[Ff,Nat.add_zero,EZ]at h5;rw[h5,hn]
def inv_of {W:World} (hs:W.ShapedOpen Tryz.prog) (hl:laidMet Tryz.prog tabs W):Inv nobody W:=by
 refine⟨fun g j p h=> ?_,fun g n h=> ?_⟩
 .unfold Auw at h;split at h
  .injection h with h;subst h;obtain⟨m,hm⟩:=cell_of_shapedOpen_int (P:=Tryz.prog) (g:=0) (t:=3) (zero:= #[.int .i64 0]) (k:=.i64) hs (DN (by kernel_rfl)) (by kernel_rfl) rfl (by kernel_rfl) (by kernel_rfl) (by kernel_rfl);exact⟨rfl,_,hm,m,rfl⟩
  .split at h
   .rename_i hj;injection h with h;subst h;exact⟨rfl,_,AxE hl _ hj,rfl⟩
   .cases h
  .cases h
 .unfold A0B at h;split at h
  .injection h with h;subst h;obtain⟨cs,h1,h2,_⟩:=hs.1 3 (Array.replicate 20 (.int .u64 0)) 273 (DN (by kernel_rfl)) (by kernel_rfl);exact⟨cs,_,_,h1,h2⟩
  .cases h
section
variable {H:Type} {enc:TypeId×Value->H}
theorem Aqv {a:Assume} {C:Checked} {os:Os} {f:FuncId} {fn:Func} {s:ChangeSpec} {conds:List PathCond} {apart fresh handsOn again:Bool} {X:World->Array Value->Prop}
 (hX: ∀(w w':World) (args:Array Value),w.heap=w'.heap->X w args->X w' args)
 (own:ownKnob C.prog.godebug=none) (started:os.Started) (noInit:C.prog.inits.idxOf? f=none) (hfn:C.prog.funcs[f]? =some fn)
 (witness: ∃(w:World) (tape:Tape) (i:Input),w.os=os/\(w.forCall tape i).Shaped C.prog/\i.vars=[]/\Input.okWide C.prog (w.forCall tape i) .any w.heap.size f i /\
   ((s.pre enc C.prog fn conds apart (w.forCall tape i).memory i.args/\X (w.forCall tape i).memory i.args)/\sizedMet enc C.prog fn (OpenSpec.ofChange s) apart (w.forCall tape i).memory i.args)/\a.holds C.prog (lone (Frame.enter C.prog f i.args .normal) [] (w.forCall tape i)))
 (contract: ∀(W:World) (base:Nat) (args:Array Value) (ds gs:List (DataW H)) (before:List MemPlace),
   (∀(j:Nat) t v,fn.params[j]? =some t->args[j]? =some v->Value.okWide C.prog W .any base t v) ->
   DataW.Whole enc C.prog fn.params.toList s.vars apart W args.toList ds gs before->W.ShapedOpen C.prog->X W args ->
   Calls C.prog f args W fun e W'=> ∃ v,e= .returned v/\s.post enc C.prog fn apart fresh handsOn again W args v W') :
 ReturnsInHanded a C os f .any (fun w args=>(s.pre enc C.prog fn conds apart w args/\X w args)/\sizedMet enc C.prog fn (OpenSpec.ofChange s) apart w args) (s.post enc C.prog fn apart fresh handsOn again):=by
 refine returnsInHanded_of_calls own started noInit witness ?_;intro w tape i _ hsh _ hok hpre _;obtain⟨_,_,_,fn',hfn',_,_,_,_,hval⟩:=hok;obtain rfl:=Gw (hfn'.symm.trans hfn);obtain⟨⟨⟨ds,gs,before,hw,_⟩,hx⟩,_⟩:=hpre;refine(contract (w.forCall tape i) w.heap.size i.args ds gs before hval (DataW.Whole.of_heap (w':=w.forCall tape i) (by rfl) hw) hsh (hX _ _ _ (by rfl) hx)).mono fun e W' ⟨v,he,hp⟩=> ?_;subst he;exact ChangeSpec.post_blind hp
end
end Go.Proofs.YtakmjgnpefmjhaaGreatDoor.Vm
