import Derived.Test.YtbgjmioccbacdaaGreatDoorA20
set_option linter.all false
namespace Go.Proofs.YtbgjmioccbacdaaGreatDoor.Pl
open IntKind (i64 u8 u32 u64)
open Go Vm
def Ado (N:Nat) {n:Int} (h0: -1<=n:=by omega) (h1:n<=64:=by omega):NZ N n=some true:=by
 unfold NZ;try simp only[clR]
 first
 | rw[Dk,Dk];rfl
 | simp;omega
def AsT {C:Bool} {D:Int} (h:(C,D)∈fJ): -1<=D/\D<=3/\(D≠ -1->C=true):=by simp only[fJ,Dz,Prod.mk.injEq,ED,FN]at h;rcases h with ⟨rfl,rfl⟩ | ⟨rfl,rfl⟩ | ⟨rfl,rfl⟩ | ⟨rfl,rfl⟩ | ⟨rfl,rfl⟩ | ⟨rfl,rfl⟩<;>decide
def AcA {n:Int} (h:n∈Xv): -1<=n/\n<=3:=by simp only[Xv,Dz,ED,FN]at h;omega
def Aev {x:Info} (h:OkI x):(x.2.1&& !x.1)=false/\ -1<=x.2.2.1/\x.2.2.1<=3/\((x.2.2.1 != -1)&& !x.2.1)=false:=by
 rcases h.bas with ⟨a,b⟩ | ⟨a,b,c⟩
 .obtain⟨p,q,r⟩:=AsT b;refine⟨by rw[a];simp,p,q,?_⟩;by_cases e:x.2.2.1= -1
  .rw[e];rfl
  .rw[r e];simp
 .rw[a,b,c];exact⟨rfl,by omega,by omega,rfl⟩
def Adn {s:Bs} (h:s∈skL):s.length<=16:=by
 have: ∀ s∈skL,s.length<=16:=by decide
 exact this s h
def sO {s:Bs} (h:s∈akL):s.length<=16:=by
 have: ∀ s∈akL,s.length<=16:=by decide
 exact this s h
def y8 {l:List ExL} (h:l∈unL):l.length<=2:=by
 have: ∀ l∈unL,l.length<=2:=by decide
 exact this l h
section
variable {N:Nat} (hN:1048578<N)
include hN
theorem Ara {l:List PtL} (h:l=[]\/UL l):KQ N l=some 0:=by
 rcases h with rfl | h
 .obtain⟨M,rfl⟩:=ofM hN;kernel_rfl
 .exact Abp hN h
theorem Ar2 {x:Info} (h:OkI x):OU N x=some 0:=by
 obtain⟨B,C,D,F,G,H,I,J,K,L,O,P,Q,R,S,T,U,V,W⟩:=x;unfold OU;try simp only[clR]
 rcases h.con with ⟨c0,c1,c2⟩ | ⟨c0,c1⟩
 .dsimp only at c0 c1 c2;subst c0 c1 c2;rfl
 .dsimp only at c0 c1;subst c0;rw[cond_true,xX hN c1,Jr]
theorem AuE {l:List ExL} (h:l∈unL):TF N l=some 0:=by obtain⟨M,rfl⟩:=ofM hN;simp only[unL,Dz,ED,FN]at h;rcases h with rfl | rfl | rfl | rfl | rfl<;>kernel_rfl
omit hN in
theorem Apq (x:Info) (i:Nat) (hi:i<13):Ends (fun _=>True) (kE N (((NY 0).getD []).getD i ([],0,0,0,0)).2.2.1 x):=by
 have:i=0\/i=1\/i=2\/i=3\/i=4\/i=5\/i=6\/i=7\/i=8\/i=9\/i=10\/i=11\/i=12:=by omega
 rcases this with rfl | rfl | rfl | rfl | rfl | rfl | rfl | rfl | rfl | rfl | rfl | rfl | rfl
 all_goals
  obtain⟨B,C,D,F,G,H,I,J,K,L,O,P,Q,R,S,T,U,V,W⟩:=x;first
  | exact⟨_,rfl,trivial⟩
  | (have e: ∃ v,PX N (B,C,D,F,G,H,I,J,K,L,O,P,Q,R,S,T,U,V,W)=some v:=by
      unfold PX;try simp only[clR]
      exact⟨_,rfl⟩
     obtain⟨v,e⟩:=e;exact⟨v,e,trivial⟩)
theorem Aeh {x:Info} (h:OkI x):P5 N x=some 0:=by
 refine of0 ?_;obtain⟨b1,b2,b3,b4⟩:=Aev h;have e7:=Ar2 hN h;obtain⟨B,C,D,F,G,H,I,J,K,L,O,P,Q,R,S,T,U,V,W⟩:=x;dsimp only at b1 b2 b3 b4;have l1:=AcA h.re;have l2:=AcA h.im;have l3:=h.ia;have l4:=h.us;dsimp only at l1 l2 l3 l4;unfold P5;try simp only[clR]
 simp only[Ado N (n:=D),Ado N (n:=J),Ado N (n:=K),Ado N (n:=L),Jr,Option.isSome_some,Option.getD_some,EJ,LG,Eu,GV];rw[b1,b4,DV (show ¬ F<0 by omega),DV (show ¬ F>511 by omega)];refine Jz (by cases D != -1<;>rfl) (JH (fun e=>by cases e) (fun _=>JH (fun e=>by cases e) (fun _=> ?_)));have e1:Oq N G 8=some 0:=AqO hN Yt h.pu (by omega);have e2:Oq N H 8=some 0:=AqO hN LW h.po (by omega);have e3:Oy N I=some 0:=Atv hN h.ma;have e4:Oz N O=some 0:=Aan hN h.na;have e5:KQ N U=some 0:=Ara hN h.pt;have e6:KQ N V=some 0:=Ara hN h.fr;have l7:=h.na.1;dsimp only at l7;rw[e1,Jr];refine JH (fun e=>by cases e) (fun _=> ?_);rw[e2,Jr];refine JH (fun e=>by cases e) (fun _=> ?_);rw[e3,Jr];refine JH (fun e=>by cases e) (fun _=> ?_);rw[DV (show ¬(O.length:Int)>16 by omega),cond_false,e4,Jr];refine JH (fun e=>by cases e) (fun _=> ?_);rw[e7,Jr];refine JH (fun e=>by cases e) (fun _=> ?_);have l5:=Adn h.sk;have l6:=sO h.ak;dsimp only at l5 l6;rw[DV (show ¬(S.length:Int)>32 by omega),DV (show ¬(T.length:Int)>32 by omega)];refine JH (fun e=>by cases e) (fun _=> ?_);rw[e5,Jr];refine JH (fun e=>by cases e) (fun _=> ?_);rw[e6,Jr];refine JH (fun e=>by cases e) (fun _=> ?_);have hu:W∈unL:=h.un;have hul:=y8 hu;have hrw:NY N=some ((NY 0).getD []):=rfl;have hrl:((NY 0).getD []).length=13:=rfl;rw[hrw,Jr];refine KT (fun y=>0<=y.2.1/\y.2.1<=13/\0<=y.1/\y.1<=2+y.2.1/\y.2.2=(B,C,D,F,G,H,I,J,K,L,O,P,Q,R,S,T,U,V,W)) (fun y=>(13 - y.2.1).toNat) ?_ N _ ⟨by dsimp only;omega,by dsimp only;omega,by dsimp only;omega,by dsimp only;omega,rfl⟩ (by dsimp only;omega);rintro ⟨a,i,y⟩ ⟨i0,i1,a0,a1,hl⟩ k hk;dsimp only at i0 i1 a0 a1 hl;subst hl;dsimp only[U21];refine JH (fun hi=> ?_) (fun _=> ?_)
 .have hi:=D5 hi;rw[hrl]at hi;refine Jz (Dk) (Jz (Dk) (JA (Apq _ i.toNat (by omega)) fun v _=>JH (fun _=>hk _ ⟨?_,?_,?_,?_,rfl⟩ ?_) (fun _=>hk _ ⟨?_,?_,?_,?_,rfl⟩ ?_)))
  all_goals
   dsimp only;try rw[w64 (x:=i+1)]
   try rw[w64 (x:=a+1)]
   omega
 .dsimp only[U20];refine JH (fun e=>by exfalso;have h2:a>24:=D5 e;omega) (fun _=> ?_);rw[AuE hN hu,Jr];exact Kv rfl
end
def usQ (M:Nat) (n:Nat):Bool:=Ol (M+300) (n:Int)==some (Og (n:Int),0)&&(true&&(TU (M+300) (Og (n:Int))==some ((n:Int),0)&&decide ((Og (n:Int)).length<=5)))
def Aup (M:Nat):(List.range 512).all (usQ M)=true:=by kernel_rfl
structure AuS (N:Nat) (r:Int):Prop where
 put:Ol N r=some (Og r,0)
 Aua:True
 get:TU N (Og r)=some (r,0)
 len:(Og r).length<=5
def Am2 {N:Nat} (hN:1048578<N) {r:Int} (h0:0<=r) (h1:r<=511):AuS N r:=by
 obtain⟨M,rfl⟩:=ofM hN;have h:=D7.1 (Aup M) r.toNat (ER.2 (by omega))
 unfold usQ at h;rw[show((r.toNat:Nat):Int)=r by omega]at h;simp only[Dq,EK,DJ]at h;exact⟨h.1,h.2.1,h.2.2.1,h.2.2.2⟩
def idB (s:Bs):Bs:=Sp.elem 6 (idT s)
def mF (ca:Bool) (pl:Int):Bs:=Sp.elem 48 ((bif ca then Sp.elem 1 [255]else [])++(bif pl != -1 then Qm 2 pl else []))
def Abq (l:List Bs):Bs:=Sp.elem 48 (l.map idB).flatten
def Abl (l:List Bs):Bs:=Sp.elem 48 (l.map fun s=>Sp.elem 48 (idB s)).flatten
def Abe (l:List (Bs×Bs)):Bs:=Sp.elem 48 (l.map fun m=>Sp.elem 48 (idB m.1++idB m.2)).flatten
def o7 (re im:Int):Bs:=Sp.elem 48 ((bif re != -1 then Qm 128 re else [])++(bif im != -1 then Qm 129 im else []))
section
variable {N:Nat} (hN:1048578<N)
include hN
theorem O8 {s:Bs} (h:s∈Uz):(idB s).length<=15:=by have:=(Uy hN h).len;have:=Sp.JD 6 (idT s);unfold idB;omega
theorem xO (b:Bool) (l:List Bs) (hl:l.length<=1000) (hs:l.flatten.length<=131072:=by omega):JS N b l=some (Sp.elem 48 l.flatten,b):=by unfold JS;have w:JB N b 48 l=_:=V5 N 48 b l (by omega) (by omega) hN hl hs;rw[w,Jr]
theorem yP (b:Bool) {s:Bs} (h:s∈Uz):Q8 N b s=some (idB s,b):=by
 have I:=Uy hN h;have hl:=I.len;unfold Q8;try simp only[clR]
 have w:JB N b 6 [idT s]=_:=V5 N 6 b [idT s] (by omega) (by omega) hN (by simp) (by rw[KJ];omega);rw[KJ]at w;rw[I.enc,Jr,UZ N b,Jr,w,Jr];rfl
theorem Au4 (b:Bool) {t:Nat} {n:Int} (ht:t<256) (h31:t % 32≠31) (h0:0<=n) (h1:n<256):JB N b (t:Int) [UH n]=some (Qm t n,b):=by have I:=Ahu hN h0 h1;have w:=V5 N t b [UH n] ht h31 hN (by simp) (by rw[KJ];have:=I.len;omega);rw[KJ]at w;exact w
theorem As2 (b:Bool) {x:Info} (h:OkI x):Rj N b x=some (Sp.elem 3 (Og x.2.2.2.1),b):=by
 have U:=Am2 hN h.us.1 h.us.2;have hl:=U.len;unfold Rj;try simp only[clR]
 have w:JB N b 3 [Og x.2.2.2.1]=_:=V5 N 3 b [Og x.2.2.2.1] (by omega) (by omega) hN (by simp) (by rw[KJ];omega);rw[KJ]at w;rw[U.put,Jr,UZ N b,Jr,w,Jr]
theorem AtL (b:Bool) {x:Info} (h:OkI x):PO N b x=some (Abq x.2.2.2.2.1,b):=by
 have h3:=h.pu.len;have ha:=h.pu.all;unfold PO Abq;try simp only[clR]
 generalize x.2.2.2.2.1=l at *
 have hl:=MK (g:=idB) (M:=15) (l:=l) (fun s hm=>O8 hN (Yt s (ha s hm)));refine(QC (mk:=fun i a=>((i:Int),b,a)) l [] idB (fun a=>Jq (JS N b a) fun r=>some (r.1,r.2)) ?_ ?_ N).trans ?_
 .intro i a hi ht k;have hp:=yP hN b (Yt _ (ha _ (getD_mem [] hi)));simp (disch:=omega) only[JO,hp,LC]
 .intro a k ht;simp (disch:=omega) only[JO]
 .rw[xO hN b _ (by rw[Dx];omega),Jr]
theorem AtF (b:Bool) {x:Info} (h:OkI x):PN N b x=some (Abl x.2.2.2.2.2.1,b):=by
 have h3:=h.po.len;have ha:=h.po.all;unfold PN Abl;try simp only[clR]
 generalize x.2.2.2.2.2.1=l at *
 have hl:=MK (g:=fun s=>Sp.elem 48 (idB s)) (M:=20) (l:=l) (fun s hm=>by have:=O8 hN (LW s (ha s hm));have:=Sp.JD 48 (idB s);omega);refine(QC (mk:=fun i a=>((i:Int),b,a)) l [] (fun s=>Sp.elem 48 (idB s)) (fun a=>Jq (JS N b a) fun r=>some (r.1,r.2)) ?_ ?_ N).trans ?_
 .intro i a hi ht k;have hv:=LW _ (ha _ (getD_mem [] hi));have hp:=yP hN b hv;have hq:=xO hN b [idB (l.getD i [])] (by simp) (by rw[KJ];have:=O8 hN hv;omega);rw[KJ]at hq;simp (disch:=omega) only[JO,hp,hq,LC]
 .intro a k ht;simp (disch:=omega) only[JO]
 .rw[xO hN b _ (by rw[Dx];omega),Jr]
theorem ArW (b:Bool) {x:Info} (h:OkI x):PM N b x=some (Abe x.2.2.2.2.2.2.1,b):=by
 have h3:=h.ma.len;have ha:=h.ma.all;unfold PM Abe;try simp only[clR]
 generalize x.2.2.2.2.2.2.1=l at *
 have hl:=MK (g:=fun m:Bs×Bs=>Sp.elem 48 (idB m.1++idB m.2)) (M:=35) (l:=l) (fun s hm=>by have:=O8 hN (LW _ (ha s hm).1);have:=O8 hN (LW _ (ha s hm).2);have:=Sp.JD 48 (idB s.1++idB s.2);rw[Dv]at this;omega);refine(QC (mk:=fun i a=>((i:Int),b,a)) l ([],[]) (fun m:Bs×Bs=>Sp.elem 48 (idB m.1++idB m.2)) (fun a=>Jq (JS N b a) fun r=>some (r.1,r.2)) ?_ ?_ N).trans ?_
 .intro i a hi ht k;have hv:=ha _ (getD_mem ([],[]) hi);have hp:=yP hN b (LW _ hv.1);have hp2:=yP hN b (LW _ hv.2);have hq:=xO hN b [idB (l.getD i ([],[])).1,idB (l.getD i ([],[])).2] (by simp) (by rw[YI,Dv];have:=O8 hN (LW _ hv.1);have:=O8 hN (LW _ hv.2);omega);rw[YI]at hq;simp (disch:=omega) only[JO,hp,hp2,hq,LC]
 .intro a k ht;simp (disch:=omega) only[JO]
 .rw[xO hN b _ (by rw[Dx];omega),Jr]
end
section
variable {N:Nat} (hN:1048578<N)
include hN
theorem bC {t:Nat} {n:Int} (h0:0<=n) (h1:n<256):(Qm t n).length<=7:=by have:=(Ahu hN h0 h1).len;have:=Sp.JD t (UH n);unfold Qm;omega
theorem ZQ {b:Bool} {c:Bs} {k:Nat} (h:b=true->c.length<=k):((bif b then c else []):Bs).length<=k:=by
 cases b with
 | true=>exact h rfl
 | false=>exact EF _
theorem Aq6 (b:Bool) {n:Int} (h0:0<=n:=by omega) (h1:n<256:=by omega):N8 N b n=some (Qm 2 n,b):=by have w:JB N b 2 [UH n]=_:=Au4 hN b (t:=2) (by omega) (by omega) h0 h1;unfold N8;rw[(Ahu hN h0 h1).put,Jr,w,Jr]
omit hN in
theorem As6 (hN:1048578<N) (b v:Bool):Xn N b 1 v=some (bif v then Sp.elem 1 [255]else [],b):=by obtain⟨M,rfl⟩:=ofM hN;cases b<;>cases v<;>kernel_rfl
theorem Arw (b:Bool) {x:Info} (h:OkI x):Rh N b x=some (mF x.2.1 x.2.2.1,b):=by
 obtain⟨_,p0,p1,_⟩:=Aev h;obtain⟨B,C,D,F,G,H,I,J,K,L,O,P,Q,R,S,T,U,V,W⟩:=x;dsimp only at p0 p1;have f:=As6 hN b C;have s:=xO hN b [bif C then Sp.elem 1 [255]else [],bif D != -1 then Qm 2 D else []] (by simp) (by rw[YI,Dv];have a1:=ZQ hN (b:=C) (c:=Sp.elem 1 [255]) (k:=10) (fun _=>by decide);have a2:=ZQ hN (b:=D != -1) (c:=Qm 2 D) (k:=7) (fun e=>bC hN (by have e2:D≠ -1:=(by simpa using e);omega) (by omega));omega);rw[YI]at s;unfold Rh mF;try simp only[clR]
 by_cases e:D= -1
 .subst e;rw[show((-1:Int) != -1)=false from rfl,cond_false]at s ⊢;rw[WL,cond_false];dsimp only[U21];rw[f,Jr];dsimp only;rw[s,Jr]
 .rw[jC e,cond_true]at s ⊢;have w:=Aq6 hN b (n:=D);rw[WL,cond_true,w,Jr];dsimp only[U21];rw[f,Jr];dsimp only;rw[s,Jr]
omit hN in
theorem ArU (M:Nat) (b B C:Bool) (D F:Int) (G H:List Bs) (I:List (Bs×Bs)) (L:Int) (O:List GnL) (P:Bool) (Q R:List GnL) (S T:Bs) (U V:List PtL) (W:List ExL) :
 ∀ J∈Xv,∀ K∈Xv,QI (M+300) b (B,C,D,F,G,H,I,J,K,L,O,P,Q,R,S,T,U,V,W)=some (o7 J K,b):=by
 intro J h1 K h2;simp only[Xv,Dz,ED,FN]at h1 h2;cases b
 all_goals
  rcases h1 with h1 | h1 | h1 | h1 | h1
  all_goals
   rcases h2 with h2 | h2 | h2 | h2 | h2
   all_goals
    rw[h1,h2];kernel_rfl
theorem Atr (b:Bool) {x:Info} (h:OkI x):QI N b x=some (o7 x.2.2.2.2.2.2.2.1 x.2.2.2.2.2.2.2.2.1,b):=by obtain⟨B,C,D,F,G,H,I,J,K,L,O,P,Q,R,S,T,U,V,W⟩:=x;obtain⟨M,rfl⟩:=ofM hN;exact ArU M b B C D F G H I L O P Q R S T U V W J h.re K h.im
theorem Au3 (b:Bool) {x:Info} (h:OkI x) (h0:x.2.2.2.2.2.2.2.2.2.1≠ -1):Qg N b x=some (Qm 2 x.2.2.2.2.2.2.2.2.2.1,b):=by
 have l:=h.ia;unfold Qg;try simp -zeta only[Aq]
 rw[Aq6 hN b,Jr]
theorem Atw (b:Bool) {x:Info} (h:OkI x) (h0:x.2.2.2.2.2.2.2.2.2.2.1≠ []):Ri N b x=some (Sp.elem 48 (KH x.2.2.2.2.2.2.2.2.2.2.1),b):=by
 have hl:=TN hN h.na;have s:=xO hN b [KH x.2.2.2.2.2.2.2.2.2.2.1] (by simp) (by rw[KJ];omega);rw[KJ]at s;unfold Ri;try simp -zeta only[Aq]
 rw[Aal hN h.na h0,Jr,UZ N b,Jr];dsimp only;rw[s,Jr]
theorem AsX (b:Bool) {x:Info} (h:okS (x.2.2.2.2.2.2.2.2.2.2.2.2.1,x.2.2.2.2.2.2.2.2.2.2.2.2.2.1)):NW N b x=some (Zb (x.2.2.2.2.2.2.2.2.2.2.2.2.1,x.2.2.2.2.2.2.2.2.2.2.2.2.2.1),b):=by
 unfold NW;try simp -zeta only[Aq]
 rw[Aux hN h,Jr,UZ N b,Jr]
theorem Aug (b:Bool) {x:Info} (h:OkI x):Qh N b x=some (Sp.elem 4 x.2.2.2.2.2.2.2.2.2.2.2.2.2.2.1,b):=by
 have hl:=Adn h.sk;have w:JB N b 4 [x.2.2.2.2.2.2.2.2.2.2.2.2.2.2.1]=_:=V5 N 4 b [x.2.2.2.2.2.2.2.2.2.2.2.2.2.2.1] (by omega) (by omega) hN (by simp) (by rw[KJ];omega);rw[KJ]at w;unfold Qh;try simp -zeta only[Aq]
 rw[w,Jr]
theorem AsR (b:Bool) {x:Info} (h:OkI x):OX N b x=some (Sp.elem 48 (Sp.elem 128 x.2.2.2.2.2.2.2.2.2.2.2.2.2.2.2.1),b):=by
 have hl:=sO h.ak;have hl2:=Sp.JD 128 x.2.2.2.2.2.2.2.2.2.2.2.2.2.2.2.1;have w:JB N b 128 [x.2.2.2.2.2.2.2.2.2.2.2.2.2.2.2.1]=_:=V5 N 128 b [x.2.2.2.2.2.2.2.2.2.2.2.2.2.2.2.1] (by omega) (by omega) hN (by simp) (by rw[KJ];omega);rw[KJ]at w;have s:=xO hN b [Sp.elem 128 x.2.2.2.2.2.2.2.2.2.2.2.2.2.2.2.1] (by simp) (by rw[KJ];omega);rw[KJ]at s;unfold OX;try simp -zeta only[Aq]
 rw[w,Jr];dsimp only;rw[s,Jr]
theorem At9 (b:Bool) {x:Info} (h:UL x.2.2.2.2.2.2.2.2.2.2.2.2.2.2.2.2.1):QJ N b x=some (psB x.2.2.2.2.2.2.2.2.2.2.2.2.2.2.2.2.1,b):=by
 unfold QJ;try simp -zeta only[Aq]
 rw[Afp hN h,Jr,UZ N b,Jr]
theorem Atd (b:Bool) {x:Info} (h:UL x.2.2.2.2.2.2.2.2.2.2.2.2.2.2.2.2.2.1):PL N b x=some (psB x.2.2.2.2.2.2.2.2.2.2.2.2.2.2.2.2.2.1,b):=by
 unfold PL;try simp -zeta only[Aq]
 rw[Afp hN h,Jr,UZ N b,Jr]
end
def Ls:Info->List (Bool×ExL)
 | (B,C,D,F,G,H,I,J,K,L,M,O,Q,R,S,T,U,V,W) =>
  [(B,[50,46,53,46,50,57,46,49,57],true,mF C D),
   (F != 0,[50,46,53,46,50,57,46,49,53],true,Sp.elem 3 (Og F)),
   (decide (((G.length:Nat):Int)>0),[50,46,53,46,50,57,46,51,55],false,Abq G),
   (decide (((H.length:Nat):Int)>0),[50,46,53,46,50,57,46,51,50],false,Abl H),
   (decide (((I.length:Nat):Int)>0),[50,46,53,46,50,57,46,51,51],true,Abe I),
   (J != -1||K != -1,[50,46,53,46,50,57,46,51,54],true,o7 J K),
   (L != -1,[50,46,53,46,50,57,46,53,52],true,Qm 2 L),
   (decide (((M.length:Nat):Int)>0),[50,46,53,46,50,57,46,49,55],false,Sp.elem 48 (KH M)),
   (O,[50,46,53,46,50,57,46,51,48],true,Zb (Q,R)),
   (!(S==[]),[50,46,53,46,50,57,46,49,52],false,Sp.elem 4 S),
   (!(T==[]),[50,46,53,46,50,57,46,51,53],false,Sp.elem 48 (Sp.elem 128 T)),
   (decide (((U.length:Nat):Int)>0),[50,46,53,46,50,57,46,51,49],false,psB U),
   (decide (((V.length:Nat):Int)>0),[50,46,53,46,50,57,46,52,54],false,psB V)]
abbrev zR:Bool×ExL:=(false,[],false,[])
def Qj (r:Bool×ExL):List ExL:=bif r.1 then [r.2]else []
def exI (x:Info):List ExL:=(Ls x).flatMap Qj++x.2.2.2.2.2.2.2.2.2.2.2.2.2.2.2.2.2.2
def rwL:List (Bs×Int×Nat×Nat×Nat):=(NY 0).getD []
def fD (x:Info):(Ls x).length=13:=rfl
def ne_of {α :Type} {l:List α} (h:decide (((l.length:Nat):Int)>0)=true):l≠ []:=by rintro rfl;cases h
def ne1 {n:Int} (h:(n != -1)=true):n≠ -1:=by simpa using h
def YV {l:List PtL} (h:l=[]\/UL l) (hh:decide (((l.length:Nat):Int)>0)=true):UL l:=h.resolve_left (ne_of hh)
def AbX {B C:Bool} {D F:Int} {G H:List Bs} {I:List (Bs×Bs)} {J K L:Int} {M:List GnL} {O:Bool} {Q R:List GnL} {S T:Bs} {U V:List PtL} {W:List ExL} (h:OkI (B,C,D,F,G,H,I,J,K,L,M,O,Q,R,S,T,U,V,W)) (hh:O=true):okS (Q,R):=by
 rcases h.con with ⟨a,_⟩ | ⟨_,c⟩
 .dsimp only at a;rw[a]at hh;cases hh
 .exact c
def Asm (N:Nat) (x:Info) (i:Nat) (hi:i<13):kE N (rwL.getD i ([],0,0,0,0)).2.2.1 x=some ((Ls x).getD i zR).1:=by
 obtain⟨B,C,D,F,G,H,I,J,K,L,M,O,Q,R,S,T,U,V,W⟩:=x;have:i=0\/i=1\/i=2\/i=3\/i=4\/i=5\/i=6\/i=7\/i=8\/i=9\/i=10\/i=11\/i=12:=by omega
 rcases this with rfl | rfl | rfl | rfl | rfl | rfl | rfl | rfl | rfl | rfl | rfl | rfl | rfl
 all_goals
  first
  | rfl
  | (show PX N _=some (J != -1||K != -1)
     unfold PX;try simp only[clR]
     try rfl)
def Aig (x:Info) (i:Nat) (hi:i<13):((rwL.getD i ([],0,0,0,0)).1,(rwL.getD i ([],0,0,0,0)).2.1==1||(rwL.getD i ([],0,0,0,0)).1==[50,46,53,46,50,57,46,51,51])=(((Ls x).getD i zR).2.1,((Ls x).getD i zR).2.2.1):=by
 obtain⟨B,C,D,F,G,H,I,J,K,L,M,O,Q,R,S,T,U,V,W⟩:=x;have:i=0\/i=1\/i=2\/i=3\/i=4\/i=5\/i=6\/i=7\/i=8\/i=9\/i=10\/i=11\/i=12:=by omega
 rcases this with rfl | rfl | rfl | rfl | rfl | rfl | rfl | rfl | rfl | rfl | rfl | rfl | rfl<;>rfl
section
variable {N:Nat} (hN:1048578<N)
include hN
theorem Asn (b:Bool) {x:Info} (h:OkI x) (i:Nat) (hi:i<13) (hh:((Ls x).getD i zR).1=true):AdO N (rwL.getD i ([],0,0,0,0)).2.2.2.1 (b,x)=some (((Ls x).getD i zR).2.2.2,b):=by
 obtain⟨B,C,D,F,G,H,I,J,K,L,M,O,Q,R,S,T,U,V,W⟩:=x;have:i=0\/i=1\/i=2\/i=3\/i=4\/i=5\/i=6\/i=7\/i=8\/i=9\/i=10\/i=11\/i=12:=by omega
 rcases this with rfl | rfl | rfl | rfl | rfl | rfl | rfl | rfl | rfl | rfl | rfl | rfl | rfl
 .exact Arw hN b h
 .exact As2 hN b h
 .exact AtL hN b h
 .exact AtF hN b h
 .exact ArW hN b h
 .exact Atr hN b h
 .exact Au3 hN b h (ne1 hh)
 .exact Atw hN b h (ne_of hh)
 .exact AsX hN b (AbX h hh)
 .exact Aug hN b h
 .exact AsR hN b h
 .exact At9 hN b (YV h.pt hh)
 .exact Atd hN b (YV h.fr hh)
theorem Atl {x:Info} (h:OkI x):Tf N x=some (exI x,0):=by
 have hck:=Aeh hN h;have hhas:=Asm N x;have hput:=fun b=>Asn hN b h;have hcrit:=Aig x;have hrl:rwL.length=13:=rfl;have hul:=y8 h.un;have hxl:=fD x
 suffices e:Ends (fun r=>r=(exI x,0)) (Tf N x) by obtain⟨v,hv,rfl⟩:=e;exact hv
 unfold Tf;try simp -zeta only[Aq]
 rw[hck,Jr,show((0:Int) != 0)=false from rfl,cond_false,show NY N=some rwL from rfl,Jr];obtain⟨B,C,D,F,G,H,I,J,K,L,M,O,Q,R,S,T,U,V,W⟩:=x;dsimp only at hul;try simp only[clR]
 refine KT (fun y=>0<=y.1/\y.1<=13/\y.2=(B,C,D,F,G,H,I,J,K,L,M,O,Q,R,S,T,U,V,W,false,((Ls (B,C,D,F,G,H,I,J,K,L,M,O,Q,R,S,T,U,V,W)).take y.1.toNat).flatMap Qj)) (fun y=>(13 - y.1).toNat) ?_ N _ ⟨by dsimp only;omega,by dsimp only;omega,rfl⟩ (by dsimp only;omega);rintro ⟨i,y⟩ ⟨i0,i1,hl⟩ k hk;dsimp only at i0 i1 hl;subst hl;dsimp only[U22]
 have hgl:(((Ls (B,C,D,F,G,H,I,J,K,L,M,O,Q,R,S,T,U,V,W)).take i.toNat).flatMap Qj).length<=13:=by
  have: ∀ l:List (Bool×ExL),(l.flatMap Qj).length<=l.length:=by
   intro l
   induction l with
   | nil=>exact DW _
   | cons r l ih=>rw[FD,Dv,List.length_cons];have:(Qj r).length<=1:=(by unfold Qj;cases r.1<;>simp);omega
  have:=this ((Ls (B,C,D,F,G,H,I,J,K,L,M,O,Q,R,S,T,U,V,W)).take i.toNat);rw[Ea,hxl]at this;omega
 refine JH (fun hi=> ?_) (fun hi=> ?_)
 .have hi:=D5 hi;rw[hrl]at hi;have hd:=hhas i.toNat (by omega)
  have hp:=hput false i.toNat (by omega)
  obtain⟨c1,c2⟩:=IJ (hcrit i.toNat (by omega));have htk:(Ls (B,C,D,F,G,H,I,J,K,L,M,O,Q,R,S,T,U,V,W)).take (i.toNat+1)=(Ls (B,C,D,F,G,H,I,J,K,L,M,O,Q,R,S,T,U,V,W)).take i.toNat++[(Ls (B,C,D,F,G,H,I,J,K,L,M,O,Q,R,S,T,U,V,W)).getD i.toNat zR]:=by rw[FI,D9 (by omega),getD_lt _ _ zR];rfl
  refine Jz (Dk i0) (Jz (Dk) ?_);rw[hd,Jr];have h1:(i+1).toNat=i.toNat+1:=by omega
  refine JH (fun hh=> ?_) (fun hh=> ?_)
  .rw[hp hh,Jr,c2,c1];refine Jz (Dk) (hk _ ⟨?_,?_,?_⟩ ?_)
   .dsimp only;rw[w64];omega
   .dsimp only;rw[w64];omega
   .dsimp only;rw[w64,h1,htk,Gf,List.flatMap_singleton];unfold Qj;rw[hh,cond_true]
   .dsimp only;rw[w64];omega
  .refine hk _ ⟨?_,?_,?_⟩ ?_
   .dsimp only;rw[w64];omega
   .dsimp only;rw[w64];omega
   .dsimp only;rw[w64,h1,htk,Gf,List.flatMap_singleton];unfold Qj;rw[hh,cond_false,Ee]
   .dsimp only;rw[w64];omega
 .have hi:=EN hi;rw[hrl]at hi;dsimp only[U21];have e13:i.toNat=13:=by omega
  rw[e13,<- hxl,EI]at hgl ⊢;refine JA (P:=fun r=>r=(false,false)) ⟨_,rfl,rfl⟩ ?_;rintro _ rfl;exact JH (fun e=>by cases e) (fun _=>Jz (Dk) (Kv rfl))
end
def Ap5 (r:Bool×ExL):(Qj r).length<=1:=by unfold Qj;cases r.1<;>simp
def of1 {α :Type} {o:Option α} {v: α} (h:Ends (fun r=>r=v) o):o=some v:=by obtain⟨w,rfl,rfl⟩:=h;rfl
section
variable {N:Nat} (hN:1048578<N)
include hN
end
def okE (e:ExL):Prop:=e.1∈Uz/\e.2.2.length<=6020
def AjP {Q:ExL->Prop} {l:List (Bool×ExL)} (h: ∀ r∈l,r.1=true->Q r.2): ∀ e∈l.flatMap Qj,Q e:=by
 intro e he;obtain⟨r,hr,hg⟩:=DX.1 he;unfold Qj at hg;cases h1:r.1 with
 | true=>rw[h1,cond_true,Eh]at hg;subst hg;exact h r hr h1
 | false=>rw[h1]at hg;exact nomatch hg
def Atg: ∀ l:List (Bool×ExL),(l.flatMap Qj).length<=l.length:=by
 intro l
 induction l with
 | nil=>exact DW _
 | cons r l ih=>rw[FD,Dv,List.length_cons];have:=Ap5 r;omega
def yG {x:Info} (h:OkI x):(exI x).length<=15:=by have:=Atg (Ls x);rw[fD]at this;have:=y8 h.un;unfold exI;rw[Dv];omega
def Aun: ∀ l∈unL,∀ e∈l,e.1∈Uz/\e.2.2.length<=6020:=by decide
def kM {N:Nat} (hN:1048578<N) {x:Info} (h:OkI x): ∀ e∈exI x,okE e:=by
 obtain⟨_,b2,b3,_⟩:=Aev h;have l1:=AcA h.re;have l2:=AcA h.im;have l3:=h.ia;have l4:=h.us;have hu:=Aun _ h.un;obtain⟨B,C,D,F,G,H,I,J,K,L,O,P,R,S,T,U,V,W,X⟩:=x;dsimp only at b2 b3 l1 l2 l3 l4 hu;intro e he;rcases(DU.1 he).symm with he | he
 .exact hu e he
 refine AjP (Q:=okE) (fun r hr h1=> ?_) e he;simp only[Ls,Dz,ED,FN]at hr;rcases hr with rfl | rfl | rfl | rfl | rfl | rfl | rfl | rfl | rfl | rfl | rfl | rfl | rfl
 .refine⟨(by dsimp only;decide),?_⟩;have a1:=ZQ hN (b:=C) (c:=Sp.elem 1 [255]) (k:=10) (fun _=>by decide);have a2:=ZQ hN (b:=D != -1) (c:=Qm 2 D) (k:=7) (fun e=>bC hN (by have e2:=ne1 e;omega) (by omega));have:=Sp.JD 48 ((bif C then Sp.elem 1 [255]else [])++(bif D != -1 then Qm 2 D else []));rw[Dv]at this;show(mF C D).length<=6020;unfold mF;omega
 .refine⟨(by dsimp only;decide),?_⟩;have:=(Am2 hN l4.1 l4.2).len;have:=Sp.JD 3 (Og F);show(Sp.elem 3 (Og F)).length<=6020;omega
 .refine⟨(by dsimp only;decide),?_⟩;have hl:=MK (g:=idB) (M:=15) (l:=G) (fun s hm=>O8 hN (Yt s (h.pu.all s hm)));have hk:G.length<=3:=h.pu.len;have:=Sp.JD 48 (G.map idB).flatten;show(Abq G).length<=6020;unfold Abq;omega
 .refine⟨(by dsimp only;decide),?_⟩;have hl:=MK (g:=fun s=>Sp.elem 48 (idB s)) (M:=20) (l:=H) (fun s hm=>by have:=O8 hN (LW s (h.po.all s hm));have:=Sp.JD 48 (idB s);omega);have hk:H.length<=3:=h.po.len;have:=Sp.JD 48 (H.map fun s=>Sp.elem 48 (idB s)).flatten;show(Abl H).length<=6020;unfold Abl;omega
 .refine⟨(by dsimp only;decide),?_⟩;have hl:=MK (g:=fun m:Bs×Bs=>Sp.elem 48 (idB m.1++idB m.2)) (M:=35) (l:=I) (fun s hm=>by have:=O8 hN (LW _ (h.ma.all s hm).1);have:=O8 hN (LW _ (h.ma.all s hm).2);have:=Sp.JD 48 (idB s.1++idB s.2);rw[Dv]at this;omega);have hk:I.length<=3:=h.ma.len;have:=Sp.JD 48 (I.map fun m:Bs×Bs=>Sp.elem 48 (idB m.1++idB m.2)).flatten;show(Abe I).length<=6020;unfold Abe;omega
 .refine⟨(by dsimp only;decide),?_⟩;have a1:=ZQ hN (b:=J != -1) (c:=Qm 128 J) (k:=7) (fun e=>bC hN (by have e2:=ne1 e;omega) (by omega));have a2:=ZQ hN (b:=K != -1) (c:=Qm 129 K) (k:=7) (fun e=>bC hN (by have e2:=ne1 e;omega) (by omega));have:=Sp.JD 48 ((bif J != -1 then Qm 128 J else [])++(bif K != -1 then Qm 129 K else []));rw[Dv]at this;show(o7 J K).length<=6020;unfold o7;omega
 .refine⟨(by dsimp only;decide),?_⟩;have e2:=ne1 h1;have:=bC hN (t:=2) (n:=L) (by omega) (by omega);show(Qm 2 L).length<=6020;omega
 .refine⟨(by dsimp only;decide),?_⟩;have hl:(KH O).length<=1250:=TN hN h.na;have:=Sp.JD 48 (KH O);show(Sp.elem 48 (KH O)).length<=6020;omega
 .refine⟨(by dsimp only;decide),?_⟩;have:=AjJ hN (AbX h h1);show(Zb (R,S)).length<=6020;omega
 .refine⟨(by dsimp only;decide),?_⟩;have hk:T.length<=16:=Adn h.sk;have:=Sp.JD 4 T;show(Sp.elem 4 T).length<=6020;omega
 .refine⟨(by dsimp only;decide),?_⟩;have hk:U.length<=16:=sO h.ak;have:=Sp.JD 128 U;have:=Sp.JD 48 (Sp.elem 128 U);show(Sp.elem 48 (Sp.elem 128 U)).length<=6020;omega
 .refine⟨(by dsimp only;decide),?_⟩;have:=xA hN (l:=V) (YV h.pt h1);have:=Sp.JD 48 (psC V);show(psB V).length<=6020;unfold psB;omega
 .refine⟨(by dsimp only;decide),?_⟩;have:=xA hN (l:=W) (YV h.fr h1);have:=Sp.JD 48 (psC W);show(psB W).length<=6020;unfold psB;omega
def inK:Info->Info
 | (B,C,D,F,G,H,I,J,K,L,M,O,P,R,S,T,U,V,W)=>(B,C,D,F,G,H,I,J,K,L,M.map gnK,O,P.map gnK,R.map gnK,S,T,U.map ptK,V.map ptK,W)
def yB {c:Bs} {es:List El} (hl:(Sp.elem 48 c).length<=6020) (h:Par 1 c es):Sp.chk (Sp.elem 48 c)=0:=AaL (MC (by decide) (by decide) (by have:=ZL 48 c;omega)) fun _=>h.nest
def Apj {t:Nat} {c:Bs} (ht:t<256) (h31:t % 32≠31) (O:Sp.cons t=false) (hl:(Sp.elem t c).length<=6020):Sp.chk (Sp.elem t c)=0:=AaL (MC ht h31 (by have:=ZL t c;omega)) fun h=>by rw[O]at h;cases h
def Auo: ∀ l∈unL,∀ e∈l,Sp.chk e.2.2=0:=by decide +kernel
def Art:(fJ.all fun p=>decide (Sp.chk (mF p.1 p.2)=0))=true:=by kernel_rfl
def ArS:(Xv.all fun a=>Xv.all fun b=>decide (Sp.chk (o7 a b)=0))=true:=by kernel_rfl
def Aru {a:Bool} {b:Int} (h:(a,b)∈fJ):Sp.chk (mF a b)=0:=D5 (D7.1 Art (a,b) h)
def ArT {a b:Int} (h:a∈Xv) (h2:b∈Xv):Sp.chk (o7 a b)=0:=D5 (D7.1 (D7.1 ArS a h) b h2)
section
variable {N:Nat} (hN:1048578<N)
include hN
theorem AqX {s:List GnL×List GnL} (h:okS s):okS (s.1.map gnK,s.2.map gnK) :=
 ⟨by rw[Dx];exact h.l0,by rw[Dx];exact h.l1,h.ne.imp (fun a b=>a (Fq.1 b)) (fun a b=>a (Fq.1 b)),
   fun q hq=>by obtain⟨g,hg,rfl⟩:=DF.1 hq;exact(nK hN (h.a0 g hg)).okK,fun q hq=>by obtain⟨g,hg,rfl⟩:=DF.1 hq;exact(nK hN (h.a1 g hg)).okK⟩
theorem AqZ {l:List PtL} (h:l=[]\/UL l):(l.map ptK=[]\/UL (l.map ptK))/\psB (l.map ptK)=psB l:=by
 rcases h with rfl | h
 .exact⟨Or.inl rfl,rfl⟩
 .exact⟨Or.inr (Aoh hN h),Au9 hN h⟩
theorem Aq7 {x:Info} (h:OkI x):OkI (inK x):=by
 obtain⟨B,C,D,F,G,H,I,J,K,L,M,O,P,R,S,T,U,V,W⟩:=x;obtain⟨h1,h2,h3,h4,h5,h6,h7,h8,h9,h10,h11,h12,h13,h14,h15⟩:=h;refine⟨h1,h2,h3,h4,h5,h6,h7,h8,Atz hN h9,?_,h11,h12,(AqZ hN h13).1,(AqZ hN h14).1,h15⟩;rcases h10 with ⟨a,b,c⟩ | ⟨a,b⟩
 .dsimp only at a b c;refine Or.inl ⟨a,?_,?_⟩
  .show P.map gnK=[];rw[b];rfl
  .show R.map gnK=[];rw[c];rfl
 .exact Or.inr ⟨a,AqX hN b⟩
theorem aY {s:Bs} (h:s∈Uz) {d:Nat} (hd:d<16:=by omega):Par d (idB s) [JQ 6 (idT s)]:=QD (MC (by decide) (by decide) (by have:=(Uy hN h).len;omega)) hd (by decide)
def wV (s:Bs):El:=JQ 48 (idB s)
def vZ (m:Bs×Bs):El:=JQ 48 (idB m.1++idB m.2)
theorem Aka {l:List Bs} (h:eU W9 l) {d:Nat} (hd:d<16):Par d (l.map idB).flatten (l.map fun s=>JQ 6 (idT s)):=WR fun s hs=>aY hN (Yt s (h.all s hs)) hd
theorem AjZ {l:List Bs} (h:eU Wy l) {d:Nat} (hd:d<14):Par d (l.map fun s=>Sp.elem 48 (idB s)).flatten (l.map wV):=WR fun s hs=>by have hi:=LW s (h.all s hs);exact NS (MC (by decide) (by decide) (by have:=O8 hN hi;omega)) (by omega) (aY hN hi).nest
theorem Aeo {m:Bs×Bs} (h1:m.1∈Wy) (h2:m.2∈Wy):(idB m.1++idB m.2).length<=30:=by have:=O8 hN (LW _ h1);have:=O8 hN (LW _ h2);rw[Dv];omega
theorem AjR {l:List (Bs×Bs)} (h:AcQ l) {d:Nat} (hd:d<14):Par d (l.map fun m=>Sp.elem 48 (idB m.1++idB m.2)).flatten (l.map vZ):=WR fun m hm=>by obtain⟨h1,h2⟩:=h.all m hm;exact NS (MC (by decide) (by decide) (by have:=Aeo hN h1 h2;omega)) (by omega) (Q4 (aY hN (LW _ h1)) (aY hN (LW _ h2))).nest
theorem Ais {l:List GnL} (h: ∀ g∈l,okB g) {d:Nat} (hd:d<=5):Par d (XM l) (l.map fun g=>JQ 48 (KW g)):=WR fun g hg =>
 NS (MC (by decide) (by decide) (by have:=dX hN (h g hg);omega)) (by omega) ((nK hN (h g hg)).par _ (by omega)).nest
theorem AhR {l:List GnL} (h: ∀ g∈l,okB g) (h3:l.length<=3) {t:Nat} (ht:t<256) (h31:t % 32≠31) {d:Nat} (hd:d<=4):Par d (partT t l) (bif l.isEmpty then []else [JQ t (XM l)]):=by
 unfold partT;cases l.isEmpty with
 | true=>exact yN d
 | false=>exact NS (MC ht h31 (by have:=qI hN h3 h;omega)) (by omega) (Ais hN h (by omega)).nest
theorem AjK {s:List GnL×List GnL} (h:okS s) {d:Nat} (hd:d<=4):Par d (partT 160 s.1++partT 161 s.2) ((bif s.1.isEmpty then []else [JQ 160 (XM s.1)])++(bif s.2.isEmpty then []else [JQ 161 (XM s.2)])) :=
 Q4 (AhR hN h.a0 h.l0 (by decide) (by decide) hd) (AhR hN h.a1 h.l1 (by decide) (by decide) hd)
theorem AqF {x:Info} (h:OkI x): ∀ e∈exI x,Sp.chk e.2.2=0:=by
 have hl:=fun e he=>(kM hN h e he).2;obtain⟨B,C,D,F,G,H,I,J,K,L,M,O,P,R,S,T,U,V,W⟩:=x;unfold exI at hl ⊢;intro e he;rcases(DU.1 he).symm with he | he
 .exact Auo _ h.un e he
 refine AjP (Q:=fun e=>Sp.chk e.2.2=0) (fun r hr h1=> ?_) e he;have hl:=hl r.2 (DD _ (DX.2 ⟨r,hr,by unfold Qj;rw[h1];exact Eh.2 rfl⟩));simp only[Ls,Dz,ED,FN]at hr;rcases hr with rfl | rfl | rfl | rfl | rfl | rfl | rfl | rfl | rfl | rfl | rfl | rfl | rfl
 .rcases h.bas with ⟨_,h2⟩ | ⟨h2,_⟩
  .exact Aru h2
  .dsimp only at h1 h2;rw[h2]at h1;cases h1
 .exact Apj (by decide) (by decide) (by decide) hl
 .exact yB hl (Aka hN h.pu (by decide))
 .exact yB hl (AjZ hN h.po (by decide))
 .exact yB hl (AjR hN h.ma (by decide))
 .exact ArT h.re h.im
 .exact Apj (by decide) (by decide) (by decide) hl
 .exact yB hl (AaY hN h.na (by decide))
 .exact yB hl (AjK hN (AbX h h1) (by decide))
 .exact Apj (by decide) (by decide) (by decide) hl
 .exact yB hl (QD (MC (by decide) (by decide) (by have:=sO h.ak;dsimp only at this;omega)) (by decide) (by decide))
 .exact Aos hN (YV h.pt h1)
 .exact Aos hN (YV h.fr h1)
end
def ArH: ∀ l:List (Bool×ExL),(l.flatMap Qj).Sublist (l.map Prod.snd):=by
 intro l
 induction l with
 | nil=>exact List.Sublist.refl _
 | cons r l ih =>
  rw[FD,Eb];unfold Qj;cases r.1 with
  | true=>exact List.Sublist.cons_cons _ ih
  | false=>exact List.Sublist.cons _ ih
def ApD:List Bs:=(rwL.map fun r=>r.1)++[(unX true).1,unY.1]
def Atp:ApD.Nodup:=by decide +kernel
def AgR {x:Info} (h:OkI x):(exI x).Pairwise fun a b=>a.1≠b.1:=by
 have hs:((exI x).map fun e=>e.1).Sublist ApD:=by
  unfold exI ApD;rw[EY];refine List.Sublist.append ?_ ?_
  .have:=(ArH (Ls x)).map fun e:ExL=>e.1;rwa [EO,show(Ls x).map ((fun e:ExL=>e.1)∘Prod.snd)=rwL.map fun r=>r.1 from rfl]at this
  .exact(show ∀ l∈unL,(l.map fun e=>e.1).Sublist [(unX true).1,unY.1] by decide) _ h.un
 exact IE.1 (Atp.sublist hs)
def Acd {N:Nat} (hN:1048578<N) {x:Info} (h:OkI x) (h0:exI x≠ []):AsD (exI x) :=
 ⟨EW.2 h0,by have:=yG h;omega,fun e he=>⟨(kM hN h e he).1,AqF hN h e he,by have:=(kM hN h e he).2;omega⟩,AgR h⟩
def AlL {N:Nat} (hN:1048578<N) {t:Nat} {c:Bs} {k:Int} (h:Fine (t,c)) (hk:(t:Int)=k):Pv N (Sp.elem t c) k=some (JQ t c,0):=by have:=h.len;have hB:=Sp.JD t c;rw[<- hk,mZ N _ t hN (by dsimp only at this;omega)];exact congrArg some (wP t c h.lt h.low h.len)
def kW {α β :Type} {f g: α -> β} {l:List α} (h:l.map f=l.map g) {a: α} (ha:a∈l):f a=g a:=List.map_inj_left.1 h a ha
def AaP {α β :Type} (f: α -> β) (l:List α) (d: α) {i:Nat} (hi:i<l.length):(l.map f).drop i=f (l.getD i d)::(l.map f).drop (i+1):=by rw[Et (by rw[Dx];exact hi),Fa,getD_lt l i d hi]
def AeA {α :Type} (l:List α) (d: α) {i:Nat} (hi:i<l.length):l.take i++[l.getD i d]=l.take (i+1):=by rw[FI,D9 hi,getD_lt l i d hi];rfl
def AmK (M:Nat) (x:Info):(fJ.map fun p=>QX (M+300) (mF p.1 p.2) (false,false,-1,x.2.2.2))=fJ.map fun p=>some (0,(true,p.1,p.2,x.2.2.2)):=by kernel_rfl
def ApG:List (Int×Int):=(Xv.flatMap fun a=>Xv.map fun b=>(a,b)).filter fun p=>p.1 != -1||p.2 != -1
def ApH (M:Nat) (x:Info):(ApG.map fun p=>QG (M+300) (o7 p.1 p.2) (x.1,x.2.1,x.2.2.1,x.2.2.2.1,x.2.2.2.2.1,x.2.2.2.2.2.1,x.2.2.2.2.2.2.1,-1,-1,x.2.2.2.2.2.2.2.2.2))=ApG.map fun p=>some (0,(x.1,x.2.1,x.2.2.1,x.2.2.2.1,x.2.2.2.2.1,x.2.2.2.2.2.1,x.2.2.2.2.2.2.1,p.1,p.2,x.2.2.2.2.2.2.2.2.2)):=by kernel_rfl
def ArN (M:Nat) (x:Info):((List.range 65).map fun n:Nat=>Qd (M+300) (Qm 2 (n:Int)) x)=(List.range 65).map fun n:Nat=>some (0,(x.1,x.2.1,x.2.2.1,x.2.2.2.1,x.2.2.2.2.1,x.2.2.2.2.2.1,x.2.2.2.2.2.2.1,x.2.2.2.2.2.2.2.1,x.2.2.2.2.2.2.2.2.1,(n:Int),x.2.2.2.2.2.2.2.2.2.2)):=by kernel_rfl
def Arv {N:Nat} (hN:1048578<N) {ca:Bool} {pl:Int} (h:(ca,pl)∈fJ) (x:Info):QX N (mF ca pl) (false,false,-1,x.2.2.2)=some (0,(true,ca,pl,x.2.2.2)):=by obtain⟨M,rfl⟩:=ofM hN;have e:=kW (AmK M x) h;exact e
def Atq {N:Nat} (hN:1048578<N) {re im:Int} (h:(re,im)∈ApG) (x:Info):QG N (o7 re im) (x.1,x.2.1,x.2.2.1,x.2.2.2.1,x.2.2.2.2.1,x.2.2.2.2.2.1,x.2.2.2.2.2.2.1,-1,-1,x.2.2.2.2.2.2.2.2.2)=some (0,(x.1,x.2.1,x.2.2.1,x.2.2.2.1,x.2.2.2.2.1,x.2.2.2.2.2.1,x.2.2.2.2.2.2.1,re,im,x.2.2.2.2.2.2.2.2.2)):=by obtain⟨M,rfl⟩:=ofM hN;have e:=kW (ApH M x) h;exact e
def Au2 {N:Nat} (hN:1048578<N) {n:Int} (h0:0<=n) (h1:n<=64) (x:Info):Qd N (Qm 2 n) x=some (0,(x.1,x.2.1,x.2.2.1,x.2.2.2.1,x.2.2.2.2.1,x.2.2.2.2.2.1,x.2.2.2.2.2.2.1,x.2.2.2.2.2.2.2.1,x.2.2.2.2.2.2.2.2.1,n,x.2.2.2.2.2.2.2.2.2.2)):=by obtain⟨M,rfl⟩:=ofM hN;have:=kW (ArN M x) (a:=n.toNat) (ER.2 (by omega));rwa [show((n.toNat:Nat):Int)=n by omega]at this
section
variable {N:Nat} (hN:1048578<N)
include hN
theorem As1 {us:Int} (h0:0<=us) (h1:us<=511) (h2:us≠0) (x:Info):QZ N (Sp.elem 3 (Og us)) x=some (0,(x.1,x.2.1,x.2.2.1,us,x.2.2.2.2)):=by
 have U:=Am2 hN h0 h1;unfold QZ;try simp -zeta only[Aq]
 rw[AlL hN (t:=3) (k:=3) (MC (by decide) (by decide) (by have:=U.len;omega)) rfl,Jr];dsimp only[JQ];rw[show((0:Int) != 0)=false from rfl,cond_false,U.get,Jr];dsimp only;rw[show((0:Int) != 0)=false from rfl,cond_false,ZW h2];rfl
theorem ArY {na:List GnL} (h:AhJ na) (h0:na≠ []) (x:Info):QY N (Sp.elem 48 (KH na)) x=some (0,(x.1,x.2.1,x.2.2.1,x.2.2.2.1,x.2.2.2.2.1,x.2.2.2.2.2.1,x.2.2.2.2.2.2.1,x.2.2.2.2.2.2.2.1,x.2.2.2.2.2.2.2.2.1,x.2.2.2.2.2.2.2.2.2.1,na.map gnK,x.2.2.2.2.2.2.2.2.2.2.2)):=by
 have hl:=TN hN h;unfold QY;try simp -zeta only[Aq]
 rw[AlL hN (t:=48) (k:=48) (MC (by decide) (by decide)) rfl,Jr];dsimp only[JQ];rw[show((0:Int) != 0)=false from rfl,cond_false,iC hN h h0,Jr]
theorem Auf {s:Bs} (h:s.length<=1000) (h0:s≠ []) (x:Info):Qe N (Sp.elem 4 s) x=some (0,(x.1,x.2.1,x.2.2.1,x.2.2.2.1,x.2.2.2.2.1,x.2.2.2.2.2.1,x.2.2.2.2.2.2.1,x.2.2.2.2.2.2.2.1,x.2.2.2.2.2.2.2.2.1,x.2.2.2.2.2.2.2.2.2.1,x.2.2.2.2.2.2.2.2.2.2.1,x.2.2.2.2.2.2.2.2.2.2.2.1,x.2.2.2.2.2.2.2.2.2.2.2.2.1,x.2.2.2.2.2.2.2.2.2.2.2.2.2.1,s,x.2.2.2.2.2.2.2.2.2.2.2.2.2.2.2)):=by
 unfold Qe Tj;try simp -zeta only[Aq]
 rw[AlL hN (t:=4) (k:=4) (MC (by decide) (by decide)) rfl,Jr];dsimp only[JQ];rw[show((0:Int) != 0)=false from rfl,cond_false,show(s==[])=false from FQ h0,cond_false,Jr]
theorem AsQ {s:Bs} (h:s.length<=1000) (h0:s≠ []) (x:Info):OW N (Sp.elem 48 (Sp.elem 128 s)) x=some (0,(x.1,x.2.1,x.2.2.1,x.2.2.2.1,x.2.2.2.2.1,x.2.2.2.2.2.1,x.2.2.2.2.2.2.1,x.2.2.2.2.2.2.2.1,x.2.2.2.2.2.2.2.2.1,x.2.2.2.2.2.2.2.2.2.1,x.2.2.2.2.2.2.2.2.2.2.1,x.2.2.2.2.2.2.2.2.2.2.2.1,x.2.2.2.2.2.2.2.2.2.2.2.2.1,x.2.2.2.2.2.2.2.2.2.2.2.2.2.1,x.2.2.2.2.2.2.2.2.2.2.2.2.2.2.1,s,x.2.2.2.2.2.2.2.2.2.2.2.2.2.2.2.2)):=by
 have hl:=Sp.JD 128 s;have ho:QA N (Sp.elem 48 (Sp.elem 128 s)) 48=some (.inl ([JQ 128 s],0)):=yM hN (by omega) (by omega) (by omega) (QD (MC (by decide) (by decide)) (d:=0) (by decide) (by decide)).list;unfold OW Tj;try simp -zeta only[Aq]
 rw[ho,Nk];dsimp only;rw[show((0:Int) != 0)=false from rfl,cond_false,WG 128 s [] (k:=128) rfl,Jr];dsimp only[JQ];rw[show((0:Int) != 0)=false from rfl,cond_false,show(s==[])=false from FQ h0,cond_false,Jr,show((0:Int) != 0)=false from rfl,cond_false,XQ];rfl
theorem ApW {l:List PtL} (h:UL l) (x:Info):QH N (psB l) x=some (0,(x.1,x.2.1,x.2.2.1,x.2.2.2.1,x.2.2.2.2.1,x.2.2.2.2.2.1,x.2.2.2.2.2.2.1,x.2.2.2.2.2.2.2.1,x.2.2.2.2.2.2.2.2.1,x.2.2.2.2.2.2.2.2.2.1,x.2.2.2.2.2.2.2.2.2.2.1,x.2.2.2.2.2.2.2.2.2.2.2.1,x.2.2.2.2.2.2.2.2.2.2.2.2.1,x.2.2.2.2.2.2.2.2.2.2.2.2.2.1,x.2.2.2.2.2.2.2.2.2.2.2.2.2.2.1,x.2.2.2.2.2.2.2.2.2.2.2.2.2.2.2.1,l.map ptK,x.2.2.2.2.2.2.2.2.2.2.2.2.2.2.2.2.2)):=by
 unfold QH;try simp -zeta only[Aq]
 rw[Afo hN h,Jr]
theorem ArG {l:List PtL} (h:UL l) (x:Info):PG N (psB l) x=some (0,(x.1,x.2.1,x.2.2.1,x.2.2.2.1,x.2.2.2.2.1,x.2.2.2.2.2.1,x.2.2.2.2.2.2.1,x.2.2.2.2.2.2.2.1,x.2.2.2.2.2.2.2.2.1,x.2.2.2.2.2.2.2.2.2.1,x.2.2.2.2.2.2.2.2.2.2.1,x.2.2.2.2.2.2.2.2.2.2.2.1,x.2.2.2.2.2.2.2.2.2.2.2.2.1,x.2.2.2.2.2.2.2.2.2.2.2.2.2.1,x.2.2.2.2.2.2.2.2.2.2.2.2.2.2.1,x.2.2.2.2.2.2.2.2.2.2.2.2.2.2.2.1,x.2.2.2.2.2.2.2.2.2.2.2.2.2.2.2.2.1,l.map ptK,x.2.2.2.2.2.2.2.2.2.2.2.2.2.2.2.2.2.2)):=by
 unfold PG;try simp -zeta only[Aq]
 rw[Afo hN h,Jr]
theorem Aav {l:List GnL} (h: ∀ g∈l,okB g) (h0:l≠ []) (h3:l.length<=3):OD N (XM l)=some (l.map gnK,0):=by
 have hl:=qI hN h3 h;have hm:(l.map fun g=>JQ 48 (KW g)).length=l.length:=Dx _;have hp:=EW.2 h0;have hT:=Oi N (XM l);rw[(Ais hN h (d:=0) (by decide)).list]at hT;unfold OD;try simp only[clR]
 rw[hT,Jr];dsimp only;rw[show((0:Int) != 0)=false from rfl,cond_false,ZW (by rw[hm];omega),cond_false];refine(QC (mk:=fun i acc=>((i:Int),acc)) l (0,[],[]) gnK (fun acc=>some (acc,0)) ?_ ?_ N).trans rfl
 .intro i acc hi ha k;have e1:=Att (fun g=>JQ 48 (KW g)) l (0,[],[]) (0,[],[]) hi;have hg:=h _ (getD_mem (0,[],[]) hi);have hb:=dX hN hg;have G:=nK hN hg;generalize l.getD i (0,[],[])=g at *
  have hL:=Oi N (KW g);rw[(G.par 0 (by decide)).list]at hL;have hD:=G.dec;dsimp only[U2];simp (disch:=omega) only[JO,hm,e1,el1,el2,hL,hD,LC,Es,List.length_cons,List.length_nil,EH];try rfl
 .intro acc k ha;dsimp only[U2];simp (disch:=omega) only[JO,hm]
theorem AkC {s:List GnL×List GnL} (h:okS s):Vy N (Zb s)=some ((s.1.map gnK,s.2.map gnK),0):=by
 have ck:=xX hN (AqX hN h);have hl:=AjJ hN h;have hg:=ZL 48 (partT 160 s.1++partT 161 s.2);have o:RJ N (Zb s)=some (JQ 48 (partT 160 s.1++partT 161 s.2),0):=by rw[V3 N _];exact congrArg some (bP 48 _ (by decide) (by decide) (by unfold Zb at hl;omega))
 have L:=Oi N (partT 160 s.1++partT 161 s.2) (by omega) (by unfold Zb at hl;omega) (by unfold Zb at hl;omega);rw[(AjK hN h (d:=0) (by decide)).list]at L;have d1:=fun e=>Aav hN h.a0 (e:s.1≠ []) h.l0;have d2:=fun e=>Aav hN h.a1 (e:s.2≠ []) h.l1;have hne:=h.ne;obtain⟨a,b⟩:=s;dsimp only at *
 unfold Vy;try simp only[clR]
 cases a with
 | nil =>
  have d2:=d2 (by rcases hne with h | h<;>first | exact h | exact absurd rfl h);rw[ET]at ck ⊢;cases b with
  | nil=>rcases hne with h | h<;>exact absurd rfl h
  | cons y b =>simp (disch:=omega) only[JO,o,L,el1,el2,d2,Es,List.isEmpty_nil,List.isEmpty_cons,List.nil_append,List.length_cons,List.length_nil,EH,kC,Gg,F6,ck];try rfl
 | cons x a =>
  have d1:=d1 (by simp);cases b with
  | nil =>rw[ET (f:=gnK)]at ck ⊢;simp (disch:=omega) only[JO,o,L,el1,el2,d1,Es,List.isEmpty_nil,List.isEmpty_cons,Ee,List.length_cons,List.length_nil,EH,kC,Gg,F6,ck];try rfl
  | cons y b =>have d2:=d2 (by simp);simp (disch:=omega) only[JO,o,L,el1,el2,d1,d2,Es,List.isEmpty_cons,List.cons_append,List.nil_append,List.length_cons,List.length_nil,EH,kC,Gg,F6,ck];try rfl
theorem AsW {s:List GnL×List GnL} (h:okS s) (x:Info):NV N (Zb s) x=some (0,(x.1,x.2.1,x.2.2.1,x.2.2.2.1,x.2.2.2.2.1,x.2.2.2.2.2.1,x.2.2.2.2.2.2.1,x.2.2.2.2.2.2.2.1,x.2.2.2.2.2.2.2.2.1,x.2.2.2.2.2.2.2.2.2.1,x.2.2.2.2.2.2.2.2.2.2.1,true,s.1.map gnK,s.2.map gnK,x.2.2.2.2.2.2.2.2.2.2.2.2.2.2)):=by
 unfold NV;try simp -zeta only[Aq]
 rw[AkC hN h,Jr]
theorem nN {s:Bs} (h:s∈Uz) (r:List El):RD N (JQ 6 (idT s)::r)=some (s,0,r):=by unfold RD;rw[WG 6 (idT s) r (k:=6) rfl,Jr];dsimp only[JQ];rw[show((0:Int) != 0)=false from rfl,cond_false,(Uy hN h).dec,Jr]
theorem Ael {c:Bs} {es:List El} (hc:c.length<=131072) (he:VU c=(es,0)) (h0:es≠ []):Rf N (Sp.elem 48 c)=some (.inl (es,0)):=by have ho:QA N (Sp.elem 48 c) 48=some (.inl (es,0)):=yM hN (by omega) (by omega) hc he;have:=EW.2 h0;unfold Rf KL;rw[ho,Nk];dsimp only;rw[show((0:Int) != 0)=false from rfl,cond_false,Jr];dsimp only;rw[ZW (by omega)];rfl
theorem AtJ {pu:List Bs} (h:eU W9 pu) (h0:pu≠ []) (x:Info) (hx:x.2.2.2.2.1=[]):PK N (Abq pu) x=some (0,(x.1,x.2.1,x.2.2.1,x.2.2.2.1,pu,x.2.2.2.2.2)):=by
 have h3:=h.len;have hl:=MK (g:=idB) (M:=15) (l:=pu) (fun s hm=>O8 hN (Yt s (h.all s hm)));have ho:=Ael hN (c:=(pu.map idB).flatten) (by omega) (Aka hN h (d:=0) (by decide)).list (fun e=>h0 (Fq.1 e));have hm:(pu.map fun s=>JQ 6 (idT s)).length=pu.length:=Dx _;unfold PK Abq;try simp only[clR]
 rw[ho,Nk];dsimp only;rw[hx];refine(MZ (fun i=>(0,x.1,x.2.1,x.2.2.1,x.2.2.2.1,x.2.2.2.2.2.2.2.1,x.2.2.2.2.2.2.2.2.1,x.2.2.2.2.2.2.2.2.2.1,x.2.2.2.2.2.2.2.2.2.2.1,x.2.2.2.2.2.2.2.2.2.2.2.1,x.2.2.2.2.2.2.2.2.2.2.2.2.1,x.2.2.2.2.2.2.2.2.2.2.2.2.2.1,x.2.2.2.2.2.2.2.2.2.2.2.2.2.2.1,x.2.2.2.2.2.2.2.2.2.2.2.2.2.2.2.1,x.2.2.2.2.2.2.2.2.2.2.2.2.2.2.2.2.1,x.2.2.2.2.2.2.2.2.2.2.2.2.2.2.2.2.2.1,x.2.2.2.2.2.1,x.2.2.2.2.2.2.1,x.2.2.2.2.2.2.2.2.2.2.2.2.2.2.2.2.2.2,(pu.map fun s=>JQ 6 (idT s)).drop i,pu.take i)) pu.length (some (0,(x.1,x.2.1,x.2.2.1,x.2.2.2.1,pu,x.2.2.2.2.2))) ?_ ?_ (N+1))
 .intro i hi k;have e1:=AaP (fun s=>JQ 6 (idT s)) pu [] hi;have e2:=AeA pu [] hi;have e3:=nN hN (Yt _ (h.all _ (getD_mem [] hi))) ((pu.map fun s=>JQ 6 (idT s)).drop (i+1));have e4:(pu.take i).length=i:=by rw[Ea];omega
  have e5:(((pu.map fun s=>JQ 6 (idT s)).drop i).length:Int)=((pu.length - i:Nat):Int):=by rw[Ew,hm]
  dsimp only[U21];unfold KL;rw[<- e1]at e3;simp (disch:=omega) only[JO,e5,Option.isSome_some,Option.getD_some,DK,e3,e4,e2];try rfl
 .intro k;have e1:(pu.map fun s=>JQ 6 (idT s)).drop pu.length=[]:=by rw[<- hm,FO]
  dsimp only[U21];unfold KL;rw[e1,EI];rfl
set_option maxHeartbeats 400000 in
theorem AtA {po:List Bs} (h:eU Wy po) (h0:po≠ []) (x:Info) (hx:x.2.2.2.2.2.1=[]):PI N (Abl po) x=some (0,(x.1,x.2.1,x.2.2.1,x.2.2.2.1,x.2.2.2.2.1,po,x.2.2.2.2.2.2)):=by
 have h3:=h.len;have hl:=MK (g:=fun s=>Sp.elem 48 (idB s)) (M:=20) (l:=po) (fun s hm=>by have:=O8 hN (LW s (h.all s hm));have:=Sp.JD 48 (idB s);omega);have ho:=Ael hN (c:=(po.map fun s=>Sp.elem 48 (idB s)).flatten) (by omega) (AjZ hN h (d:=0) (by decide)).list (fun e=>h0 (Fq.1 e));have hm:(po.map wV).length=po.length:=Dx _;unfold PI Wi Abl;try simp only[clR]
 rw[ho,Nk];dsimp only;rw[show((0:Int) != 0)=false from rfl,cond_false,hx]
 suffices e: ∀ kk:Int×Info->Option (Int×Info),Jq (J4 _ (N+1) _ _) kk=kk (0,(x.1,x.2.1,x.2.2.1,x.2.2.2.1,x.2.2.2.2.1,po,x.2.2.2.2.2.2))from e _
 intro kk;refine(congrArg (fun o=>Jq o kk) (MZ (fun i=>(x.1,x.2.1,x.2.2.1,x.2.2.2.1,x.2.2.2.2.2.2.2.1,x.2.2.2.2.2.2.2.2.1,x.2.2.2.2.2.2.2.2.2.1,x.2.2.2.2.2.2.2.2.2.2.1,x.2.2.2.2.2.2.2.2.2.2.2.1,x.2.2.2.2.2.2.2.2.2.2.2.2.1,x.2.2.2.2.2.2.2.2.2.2.2.2.2.1,x.2.2.2.2.2.2.2.2.2.2.2.2.2.2.1,x.2.2.2.2.2.2.2.2.2.2.2.2.2.2.2.1,x.2.2.2.2.2.2.2.2.2.2.2.2.2.2.2.2.1,x.2.2.2.2.2.2.2.2.2.2.2.2.2.2.2.2.2.1,(po.map wV).drop i,x.2.2.2.2.2.2.2.2.2.2.2.2.2.2.2.2.2.2,x.2.2.2.2.2.2.1,po.take i,x.2.2.2.2.1)) po.length (some (0,(x.1,x.2.1,x.2.2.1,x.2.2.2.1,x.2.2.2.2.1,po,x.2.2.2.2.2.2))) ?_ ?_ (N+1))).trans rfl
 .intro i hi k;have hi2:=LW _ (h.all _ (getD_mem [] hi));have e1:=AaP wV po [] hi;have e2:=AeA po [] hi;have e3:=fun r=>nN hN hi2 r;have e4:(po.take i).length=i:=by rw[Ea];omega
  have e5:(((po.map wV).drop i).length:Int)=((po.length - i:Nat):Int):=by rw[Ew,hm]
  have hq:Qx N [po.getD i []] (x.1,x.2.1,x.2.2.1,x.2.2.2.1,x.2.2.2.2.1,po.take i,x.2.2.2.2.2.2)=some (x.1,x.2.1,x.2.2.1,x.2.2.2.1,x.2.2.2.2.1,po.take (i+1),x.2.2.2.2.2.2):=by rw[<- e2];exact(JR _ rfl).trans ((JR _ (Dk (by dsimp only;omega))).trans rfl)
  have e6:MB N ((po.map wV).drop i)=some (.inl ([JQ 6 (idT (po.getD i []))],0,(po.map wV).drop (i+1))):=by rw[e1];exact vO hN (by have:=O8 hN hi2;omega) (aY hN hi2 (d:=0) (by decide)).list
  dsimp only[U20];unfold KL;simp (disch:=omega) only[JO,e5,e6,Nk];rw[KO];dsimp only[U22];simp (disch:=omega) only[JO,List.length_nil,e3];obtain⟨K,rfl⟩: ∃ K,N=K+1:=⟨N - 1,by omega⟩
  rw[KO];dsimp only[U22];simp (disch:=omega) only[JO,List.length_cons,List.length_nil,List.nil_append];rw[XQ,Dw rfl,Jr];dsimp only;rw[show((0:Int) != 0)=false from rfl,cond_false];refine(congrArg (fun o=>Jq o _) hq).trans ?_;rw[Jr]
 .intro k;have e1:(po.map wV).drop po.length=[]:=by rw[<- hm,FO]
  dsimp only[U20];unfold KL;rw[e1,EI];rfl
end
section
variable {N:Nat} (hN:1048578<N)
include hN
set_option maxHeartbeats 400000 in
theorem Atu {ma:List (Bs×Bs)} (h:AcQ ma) (h0:ma≠ []) (x:Info) (hx:x.2.2.2.2.2.2.1=[]):PH N (Abe ma) x=some (0,(x.1,x.2.1,x.2.2.1,x.2.2.2.1,x.2.2.2.2.1,x.2.2.2.2.2.1,ma,x.2.2.2.2.2.2.2)):=by
 have h3:=h.len;have hl:=MK (g:=fun m:Bs×Bs=>Sp.elem 48 (idB m.1++idB m.2)) (M:=35) (l:=ma) (fun s hm=>by have:=Aeo hN (h.all s hm).1 (h.all s hm).2;have:=Sp.JD 48 (idB s.1++idB s.2);omega);have hp:=(AjR hN h (d:=0) (by decide)).list;have ho:=Ael hN (by omega) hp (fun e=>h0 (Fq.1 e));have hm:(ma.map vZ).length=ma.length:=Dx _;unfold PH Wj Abe;try simp only[clR]
 rw[ho,Nk];dsimp only;rw[show((0:Int) != 0)=false from rfl,cond_false,hx]
 suffices e: ∀ kk:Int×Info->Option (Int×Info),Jq (J4 _ (N+1) _ _) kk=kk (0,(x.1,x.2.1,x.2.2.1,x.2.2.2.1,x.2.2.2.2.1,x.2.2.2.2.2.1,ma,x.2.2.2.2.2.2.2))from e _
 intro kk;refine(congrArg (fun o=>Jq o kk) (MZ (fun i=>(x.1,x.2.1,x.2.2.1,x.2.2.2.1,x.2.2.2.2.2.2.2.1,x.2.2.2.2.2.2.2.2.1,x.2.2.2.2.2.2.2.2.2.1,x.2.2.2.2.2.2.2.2.2.2.1,x.2.2.2.2.2.2.2.2.2.2.2.1,x.2.2.2.2.2.2.2.2.2.2.2.2.1,x.2.2.2.2.2.2.2.2.2.2.2.2.2.1,x.2.2.2.2.2.2.2.2.2.2.2.2.2.2.1,x.2.2.2.2.2.2.2.2.2.2.2.2.2.2.2.1,x.2.2.2.2.2.2.2.2.2.2.2.2.2.2.2.2.1,x.2.2.2.2.2.2.2.2.2.2.2.2.2.2.2.2.2.1,(ma.map vZ).drop i,x.2.2.2.2.2.2.2.2.2.2.2.2.2.2.2.2.2.2,ma.take i,x.2.2.2.2.2.1,x.2.2.2.2.1)) ma.length (some (0,(x.1,x.2.1,x.2.2.1,x.2.2.2.1,x.2.2.2.2.1,x.2.2.2.2.2.1,ma,x.2.2.2.2.2.2.2))) ?_ ?_ (N+1))).trans rfl
 .intro i hi k;have hi2:=h.all _ (getD_mem ([],[]) hi);have e1:=AaP vZ ma ([],[]) hi;have e2:=AeA ma ([],[]) hi;have e3:=fun r=>nN hN (LW _ hi2.1) r;have e3':=fun r=>nN hN (LW _ hi2.2) r;have e4:(ma.take i).length=i:=by rw[Ea];omega
  have e5:(((ma.map vZ).drop i).length:Int)=((ma.length - i:Nat):Int):=by rw[Ew,hm]
  have hq:Qw N [(ma.getD i ([],[])).1,(ma.getD i ([],[])).2] (x.1,x.2.1,x.2.2.1,x.2.2.2.1,x.2.2.2.2.1,x.2.2.2.2.2.1,ma.take i,x.2.2.2.2.2.2.2)=some (x.1,x.2.1,x.2.2.1,x.2.2.2.1,x.2.2.2.2.1,x.2.2.2.2.2.1,ma.take (i+1),x.2.2.2.2.2.2.2):=by rw[<- e2];exact(JR _ rfl).trans ((JR _ rfl).trans ((JR _ (Dk (by dsimp only;omega))).trans rfl))
  have e6:MB N ((ma.map vZ).drop i)=some (.inl ([JQ 6 (idT (ma.getD i ([],[])).1),JQ 6 (idT (ma.getD i ([],[])).2)],0,(ma.map vZ).drop (i+1))):=by rw[e1];exact vO hN (by have:=Aeo hN hi2.1 hi2.2;omega) (Q4 (aY hN (LW _ hi2.1) (d:=0) (by decide)) (aY hN (LW _ hi2.2) (d:=0) (by decide))).list
  dsimp only[U20];unfold KL;simp (disch:=omega) only[JO,e5,e6,Nk];rw[KO];dsimp only[U22];simp (disch:=omega) only[JO,List.length_nil,e3];obtain⟨K,rfl⟩: ∃ K,N=K+2:=⟨N - 2,by omega⟩
  rw[KO];dsimp only[U22];simp (disch:=omega) only[JO,List.length_cons,List.length_nil,List.nil_append,e3'];rw[KO];dsimp only[U22];simp (disch:=omega) only[JO,List.length_cons,List.length_nil,List.nil_append,List.cons_append];rw[XQ,Dw rfl,Jr];dsimp only;rw[show((0:Int) != 0)=false from rfl,cond_false];refine(congrArg (fun o=>Jq o _) hq).trans ?_;rw[Jr]
 .intro k;have e1:(ma.map vZ).drop ma.length=[]:=by rw[<- hm,FO]
  dsimp only[U20];unfold KL;rw[e1,EI];rfl
end
abbrev Rw:Type:=Bs×Int×Nat×Nat×Nat
def zRw:Rw:=([],0,0,0,0)
def Ap0 (M:Nat):((List.range 13).map fun k=>OV (M+300) (rwL.getD k zRw).1)=(List.range 13).map fun k=>some (rwL.getD k zRw,true):=by kernel_rfl
def ArC (M:Nat):([(unX true).1,unY.1].map fun k=>OV (M+300) k)=[(unX true).1,unY.1].map fun _=>some (zRw,false):=by kernel_rfl
def Apm:((List.range 13).all fun k=>(bif (rwL.getD k zRw).2.1==1 then !((rwL.getD k zRw).2.1==1||(rwL.getD k zRw).1==[50,46,53,46,50,57,46,51,51])else false)==false&&(bif (rwL.getD k zRw).2.1==0 then((rwL.getD k zRw).2.1==1||(rwL.getD k zRw).1==[50,46,53,46,50,57,46,51,51])else false)==false&&Uz.contains (rwL.getD k zRw).1)=true:=by kernel_rfl
def Ams {N:Nat} (hN:1048578<N) (j:Info) (l:List ExL) (x:ExL) (row:Rw) (hv:OA N x.1=some true) (hl:l.length<=1048576) (B:l.any (fun y=>y.1==x.1)=false) (hf:OV N x.1=some (row,true))
 (h1:(bif row.2.1==1 then !x.2.1 else false)=false) (h2:(bif row.2.1==0 then x.2.1 else false)=false):Oa N j l x=Jq (kG N row.2.2.2.2 (x.2.2,j)) fun r=>some (r.1,r.2):=by
 obtain⟨hb',C,D,F,G,H,I,J,K,L,O,hc,P,Q,R,S,T,U,V⟩:=j;obtain⟨id,c,v⟩:=x;dsimp only at hv B hf h1 h2 ⊢;unfold Oa;try simp -zeta only[Aq]
 rw[hv,Jr];simp only[Eu,cond_false]
 refine(AjF (mk:=fun i=>((i:Int),hb',C,D,F,J,K,L,O,hc,P,Q,R,S,T,U,G,H,I,V,id,c,v)) l ([],false,[]) (fun y=>y.1==id) (some (10,(hb',C,D,F,G,H,I,J,K,L,O,hc,P,Q,R,S,T,U,V)))
  (Jq (kG N row.2.2.2.2 (v,(hb',C,D,F,G,H,I,J,K,L,O,hc,P,Q,R,S,T,U,V))) fun r=>some (r.1,r.2)) ?_ ?_ N (by omega)).trans ?_
 .intro i hi k;dsimp only[U23];simp (disch:=omega) only[JO,LC]
 .intro k;dsimp only[U23];rw[AkM (by omega),cond_false];dsimp only[U22];rw[hf,Jr];simp only[Eu,cond_false,Ym];rw[h1];simp only[cond_false,EG,Ij,Ho,LG,Eu,EJ,FK,H8,cond_true,Hq];rw[h2];cases row.2.1==1<;>cases row.2.1==0<;>rfl
 .rw[B];rfl
def Aqx {N:Nat} (hN:1048578<N) (hb' C:Bool) (D F:Int) (G H:List Bs) (I:List (Bs×Bs)) (J K L:Int) (O:List GnL) (hc:Bool) (P Q:List GnL) (R S:Bs) (T U:List PtL) (V:List ExL) (l:List ExL) (x:ExL) (row:Rw) (hv:OA N x.1=some true) (hl:l.length<=1048576) (B:l.any (fun y=>y.1==x.1)=false) (hf:OV N x.1=some (row,false)) (hu:V.length<=100)
 (ht:Sz N x.2.2=some 0):Oa N (hb',C,D,F,G,H,I,J,K,L,O,hc,P,Q,R,S,T,U,V) l x=some (0,(hb',C,D,F,G,H,I,J,K,L,O,hc,P,Q,R,S,T,U,V++[x])):=by
 obtain⟨id,c,v⟩:=x;dsimp only at hv B hf ht ⊢;unfold Oa;try simp -zeta only[Aq]
 rw[hv,Jr];simp only[Eu,cond_false]
 refine(AjF (mk:=fun i=>((i:Int),hb',C,D,F,J,K,L,O,hc,P,Q,R,S,T,U,G,H,I,V,id,c,v)) l ([],false,[]) (fun y=>y.1==id) (some (10,(hb',C,D,F,G,H,I,J,K,L,O,hc,P,Q,R,S,T,U,V)))
  (some (0,(hb',C,D,F,G,H,I,J,K,L,O,hc,P,Q,R,S,T,U,V++[(id,c,v)]))) ?_ ?_ N (by omega)).trans ?_
 .intro i hi k;dsimp only[U23];simp (disch:=omega) only[JO,LC]
 .intro k;dsimp only[U23];rw[AkM (by omega),cond_false];dsimp only[U22];rw[hf,Jr];simp only[EG,cond_true];rw[Dk,LG,ht,Jr]
 .rw[B];rfl
def tk (N:Nat):List ExL->Info->List ExL->Option Info
 | _,j,[]=>some j
 | p,j,x::r=>match Oa N j p x with
  | some (e,j')=>if e=0 then tk N (p++[x]) j' r else none
  | none=>none
def Akf {N:Nat} {p:List ExL} {j jf:Info} {x:ExL} {r:List ExL} (h:tk N p j (x::r)=some jf): ∃ j',Oa N j p x=some (0,j')/\tk N (p++[x]) j' r=some jf:=by
 unfold tk at h;cases hc:Oa N j p x with
 | none=>rw[hc]at h;cases h
 | some v =>
  obtain⟨e,j'⟩:=v;rw[hc]at h;dsimp only at h;by_cases he:e=0
  .subst he;rw[Dw rfl]at h;exact⟨j',rfl,h⟩
  .rw[Dt he]at h;cases h
def Aip {N:Nat} {p:List ExL} {j j':Info} {x:ExL} (h:Oa N j p x=some (0,j')) (r:List ExL):tk N p j (x::r)=tk N (p++[x]) j' r:=by rw[tk,h];rfl
def Ao8 {N:Nat} {b:List ExL}: ∀ {a p:List ExL} {j j':Info},tk N p j a=some j'->tk N p j (a++b)=tk N (p++a) j' b:=by
 intro a
 induction a with
 | nil=>intro p j j' h;rw[tk]at h;injection h with h;subst h;rw[Ee];rfl
 | cons x a ih =>intro p j j' h;obtain⟨j2,h1,h2⟩:=Akf h;rw[List.cons_append,Aip h1,ih h2,Eg];rfl
abbrev StT:Type:=Bool×Bool×Int×Int×Int×Int×Int×List GnL×Bool×List GnL×List GnL×Bs×Bs×List PtL×List PtL×List ExL×List (Bs×Bs)×List Bs×List Bs
def stI:StT->Info
 | (B,C,D,F,J,K,L,O,hc,P,Q,R,S,T,U,V,I,H,G)=>(B,C,D,F,G,H,I,J,K,L,O,hc,P,Q,R,S,T,U,V)
def none0:Info:=(false,false,-1,0,[],[],[],-1,-1,-1,[],false,[],[],[],[],[],[],[])
def AeG {N:Nat} (hN:1048578<N) {l:List ExL} {j:Info} (hl:l.length<=24) (h:tk N [] none0 l=some j) (hc:P5 N j=some 0):QR N l=some (j,0):=by
 refine of1 ?_;unfold QR;try simp -zeta only[Aq]
 rw[AqI (by omega),cond_false,show Ti N=some none0 from rfl,Jr];refine KT (fun(x:Int×StT)=>0<=x.1/\x.1<=(l.length:Int)/\tk N (l.take x.1.toNat) (stI x.2) (l.drop x.1.toNat)=some j) (fun x=>((l.length:Int) - x.1).toNat) ?_ N _ ⟨by dsimp only;omega,by dsimp only;omega,h⟩ (by dsimp only;omega);rintro ⟨i,B,C,D,F,J,K,L,O,hc',P,Q,R,S,T,U,V,I,H,G⟩ ⟨i0,i1,ht⟩ k hk;dsimp only at i0 i1 ht hk;dsimp only[U20];unfold stI at ht;refine JH (fun hi=> ?_) (fun hi=> ?_)
 .have hi:=D5 hi;have e1:(i+1).toNat=i.toNat+1:=by omega
  refine Jz (Dk i0) (Jz (Dk hi) (Jz (Dk i0) (Jz (Dk i1) ?_)));rw[Ang];rw[Et (show i.toNat<l.length by omega),<- getD_lt l i.toNat ([],false,[])]at ht;obtain⟨j',h1,h2⟩:=Akf ht;rw[h1,Jr];dsimp only;rw[show((0:Int) != 0)=false from rfl,cond_false];rw[show l.take i.toNat++[l.getD i.toNat ([],false,[])]=l.take (i.toNat+1) by rw[FI,D9 (by omega),getD_lt l i.toNat _];rfl]at h2;refine hk _ ⟨?_,?_,?_⟩ ?_
  .dsimp only;rw[w64];omega
  .dsimp only;rw[w64];omega
  .dsimp only;rw[w64,e1];exact h2
  .dsimp only;rw[w64];omega
 .have hi:=EN hi;dsimp only[U19];rw[show i.toNat=l.length by omega,FO,tk]at ht;injection ht with ht;subst ht;rw[hc,Jr];exact Kv rfl
def pI (x:Info) (k:Nat):Info :=
 match x with
 | (B,C,D,F,G,H,I,J,K,L,O,hc,P,Q,R,S,T,U,_) =>
  (bif Nat.blt 0 k then B else false,bif Nat.blt 0 k then C else false,bif Nat.blt 0 k then D else -1,bif Nat.blt 1 k then F else 0,bif Nat.blt 2 k then G else [],bif Nat.blt 3 k then H else [],bif Nat.blt 4 k then I else [],bif Nat.blt 5 k then J else -1,bif Nat.blt 5 k then K else -1,bif Nat.blt 6 k then L else -1,
   bif Nat.blt 7 k then O.map gnK else [],bif Nat.blt 8 k then hc else false,bif Nat.blt 8 k then P.map gnK else [],bif Nat.blt 8 k then Q.map gnK else [],bif Nat.blt 9 k then R else [],bif Nat.blt 10 k then S else [],bif Nat.blt 11 k then T.map ptK else [],bif Nat.blt 12 k then U.map ptK else [],[])
def l9 {α :Type} {l:List α} (h:decide (((l.length:Nat):Int)>0)=false):l=[]:=by
 cases l with
 | nil=>rfl
 | cons a r=>rw[List.length_cons]at h;have:=EN h;omega
def Aqg {x:Info} (h:OkI x) (i:Nat) (hi:i<13) (hh:((Ls x).getD i zR).1=false):pI x (i+1)=pI x i:=by
 have hb2:=h.bas;have hc2:=h.con;obtain⟨B,C,D,F,G,H,I,J,K,L,O,hc,P,Q,R,S,T,U,V⟩:=x;dsimp only at hb2 hc2;clear h;have:i=0\/i=1\/i=2\/i=3\/i=4\/i=5\/i=6\/i=7\/i=8\/i=9\/i=10\/i=11\/i=12:=by omega
 rcases this with rfl | rfl | rfl | rfl | rfl | rfl | rfl | rfl | rfl | rfl | rfl | rfl | rfl
 .have hh:B=false:=hh;rcases hb2 with ⟨a,_⟩ | ⟨_,b,c⟩
  .rw[hh]at a;cases a
  .rw[hh,b,c];rfl
 .have hh:(F != 0)=false:=hh;rw[show F=0 by simpa using hh];rfl
 .have hh:=l9 hh;rw[hh];rfl
 .have hh:=l9 hh;rw[hh];rfl
 .have hh:=l9 hh;rw[hh];rfl
 .have hh:(J != -1||K != -1)=false:=hh;rw[Bool.or_eq_false_iff]at hh;rw[show J= -1 by simpa using hh.1,show K= -1 by simpa using hh.2];rfl
 .have hh:(L != -1)=false:=hh;rw[show L= -1 by simpa using hh];rfl
 .have hh:=l9 hh;rw[hh];rfl
 .have hh:hc=false:=hh;rcases hc2 with ⟨_,b,c⟩ | ⟨a,_⟩
  .rw[hh,b,c];rfl
  .rw[hh]at a;cases a
 .have hh:(!(R==[]))=false:=hh;rw[show R=[] by simpa using hh];rfl
 .have hh:(!(S==[]))=false:=hh;rw[show S=[] by simpa using hh];rfl
 .have hh:=l9 hh;rw[hh];rfl
 .have hh:=l9 hh;rw[hh];rfl
def via {α :Type} {a b c d: α} (h1:a=b) (h:b=c) (h2:c=d:=by kernel_rfl):a=d:=h1.trans (h.trans h2)
def AmB {p r:List ExL} {e:ExL} (h:(p++e::r).Pairwise fun a b=>a.1≠b.1):p.any (fun y=>y.1==e.1)=false:=by rw[G7];intro y hy he;exact(GI.1 h).2.2 y hy e Du (EK.1 he)
section
variable {N:Nat} (hN:1048578<N)
include hN
theorem Asl {x:Info} (h:OkI x) (i:Nat) (hi:i<13) (hh:((Ls x).getD i zR).1=true):kG N (rwL.getD i zRw).2.2.2.2 (((Ls x).getD i zR).2.2.2,pI x i)=some (0,pI x (i+1)):=by
 obtain⟨B,C,D,F,G,H,I,J,K,L,O,hc,P,Q,R,S,T,U,V⟩:=x;have:i=0\/i=1\/i=2\/i=3\/i=4\/i=5\/i=6\/i=7\/i=8\/i=9\/i=10\/i=11\/i=12:=by omega
 rcases this with rfl | rfl | rfl | rfl | rfl | rfl | rfl | rfl | rfl | rfl | rfl | rfl | rfl
 .have hh:B=true:=hh;rcases h.bas with ⟨_,a⟩ | ⟨a,_⟩
  .subst hh;exact via (by kernel_rfl) (Arv hN a (pI (true,C,D,F,G,H,I,J,K,L,O,hc,P,Q,R,S,T,U,V) 0))
  .dsimp only at a;rw[hh]at a;cases a
 .exact via (by kernel_rfl) (As1 hN h.us.1 h.us.2 (by have hh:(F != 0)=true:=hh;simpa using hh) (pI (B,C,D,F,G,H,I,J,K,L,O,hc,P,Q,R,S,T,U,V) 1))
 .exact via (by kernel_rfl) (AtJ hN h.pu (ne_of hh) (pI (B,C,D,F,G,H,I,J,K,L,O,hc,P,Q,R,S,T,U,V) 2) rfl)
 .exact via (by kernel_rfl) (AtA hN h.po (ne_of hh) (pI (B,C,D,F,G,H,I,J,K,L,O,hc,P,Q,R,S,T,U,V) 3) rfl)
 .exact via (by kernel_rfl) (Atu hN h.ma (ne_of hh) (pI (B,C,D,F,G,H,I,J,K,L,O,hc,P,Q,R,S,T,U,V) 4) rfl)
 .have hh:(J != -1||K != -1)=true:=hh;exact via (by kernel_rfl) (Atq hN (IZ.2 ⟨DX.2 ⟨J,h.re,DF.2 ⟨K,h.im,rfl⟩⟩,hh⟩) (pI (B,C,D,F,G,H,I,J,K,L,O,hc,P,Q,R,S,T,U,V) 5))
 .have hh:=ne1 hh;have l1:=h.ia;dsimp only at l1 hh;exact via (by kernel_rfl) (Au2 hN (by omega) l1.2 (pI (B,C,D,F,G,H,I,J,K,L,O,hc,P,Q,R,S,T,U,V) 6))
 .exact via (by kernel_rfl) (ArY hN h.na (ne_of hh) (pI (B,C,D,F,G,H,I,J,K,L,O,hc,P,Q,R,S,T,U,V) 7))
 .have hh:hc=true:=hh;subst hh;exact via (by kernel_rfl) (AsW hN (AbX h rfl) (pI (B,C,D,F,G,H,I,J,K,L,O,true,P,Q,R,S,T,U,V) 8))
 .exact via (by kernel_rfl) (Auf hN (s:=R) (by have:=Adn h.sk;dsimp only at this ⊢;omega) (by have hh:(!(R==[]))=true:=hh;simpa using hh) (pI (B,C,D,F,G,H,I,J,K,L,O,hc,P,Q,R,S,T,U,V) 9))
 .exact via (by kernel_rfl) (AsQ hN (s:=S) (by have:=sO h.ak;dsimp only at this ⊢;omega) (by have hh:(!(S==[]))=true:=hh;simpa using hh) (pI (B,C,D,F,G,H,I,J,K,L,O,hc,P,Q,R,S,T,U,V) 10))
 .exact via (by kernel_rfl) (ApW hN (YV h.pt hh) (pI (B,C,D,F,G,H,I,J,K,L,O,hc,P,Q,R,S,T,U,V) 11))
 .exact via (by kernel_rfl) (ArG hN (YV h.fr hh) (pI (B,C,D,F,G,H,I,J,K,L,O,hc,P,Q,R,S,T,U,V) 12))
theorem Asw {x:Info} (h:OkI x): ∀ k,k<=13->tk N [] none0 (((Ls x).take k).flatMap Qj)=some (pI x k):=by
 have hx:=fD x;have hnd:=AgR h;have hll:=yG h;intro k
 induction k with
 | zero =>intro _;obtain⟨B,C,D,F,G,H,I,J,K,L,O,hc,P,Q,R,S,T,U,V⟩:=x;rfl
 | succ k ih =>
  intro hk;have htk:(Ls x).take (k+1)=(Ls x).take k++[(Ls x).getD k zR]:=by rw[FI,D9 (by omega),getD_lt _ _ zR];rfl
  have hsp:Ls x=(Ls x).take k++((Ls x).getD k zR::(Ls x).drop (k+1)):=by rw[getD_lt _ _ zR,<- Et,H9]
  rw[htk,Gf,List.flatMap_singleton,Ao8 (ih (by omega)),List.nil_append]
  have hex:exI x=((Ls x).take k).flatMap Qj++(Qj ((Ls x).getD k zR)++(((Ls x).drop (k+1)).flatMap Qj++x.2.2.2.2.2.2.2.2.2.2.2.2.2.2.2.2.2.2)):=by
   unfold exI
   conv=>lhs;rw[hsp]
   rw[Gf,FD,Eg,Eg]
  cases hh:((Ls x).getD k zR).1 with
  | false =>rw[show Qj ((Ls x).getD k zR)=[] by unfold Qj;rw[hh];rfl,tk,Aqg h k (by omega) hh]
  | true =>
   have hg:=Asl hN h k (by omega) hh;have hcr:=Aig x k (by omega);rw[show Qj ((Ls x).getD k zR)=[((Ls x).getD k zR).2] by unfold Qj;rw[hh];rfl]at hex ⊢;rw[hex]at hnd hll;obtain⟨c1,c2⟩:=IJ hcr;have hq:=D7.1 Apm k (ER.2 (by omega));simp only[Dq,EK,FT]at hq;obtain⟨⟨q1,q2⟩,q3⟩:=hq;have hfi:OV N (rwL.getD k zRw).1=some (rwL.getD k zRw,true):=by obtain⟨M,rfl⟩:=ofM hN;have e:=kW (Ap0 M) (a:=k) (ER.2 (by omega));exact e
   unfold zRw at *
   rw[c2]at q1 q2;have hv:=(Uy hN q3).val;rw[c1]at hfi hv;have ht:=Ams hN (pI x k) (((Ls x).take k).flatMap Qj) ((Ls x).getD k zR).2 (rwL.getD k ([],0,0,0,0)) hv (by rw[Dv]at hll;omega) (AmB (r:=(((Ls x).drop (k+1)).flatMap Qj++x.2.2.2.2.2.2.2.2.2.2.2.2.2.2.2.2.2.2)) hnd) hfi q1 q2;rw[hg,Jr]at ht;rw[Aip ht];rfl
theorem AuC (B C:Bool) (D F:Int) (G H:List Bs) (I:List (Bs×Bs)) (J K L:Int) (O:List GnL) (hc:Bool) (P Q:List GnL) (R S:Bs) (T U:List PtL): ∀(l p u:List ExL),(∀ e∈l,e.1∈Uz/\OV N e.1=some (zRw,false)/\Sz N e.2.2=some 0)->(p++l).Pairwise (fun a b=>a.1≠b.1)->(p++l).length<=1000->(u++l).length<=100 ->
 tk N p (B,C,D,F,G,H,I,J,K,L,O,hc,P,Q,R,S,T,U,u) l=some (B,C,D,F,G,H,I,J,K,L,O,hc,P,Q,R,S,T,U,u++l):=by
 intro l
 induction l with
 | nil=>intro p u _ _ _ _;rw[Ee];rfl
 | cons e l ih =>intro p u h1 h2 h3 h4;obtain⟨a,b,c⟩:=h1 e Du;rw[Dv,List.length_cons]at h3 h4;rw[Aip (Aqx hN B C D F G H I J K L O hc P Q R S T U u p e zRw (Uy hN a).val (by omega) (AmB h2) b (by omega) c),ih _ _ (fun e he=>h1 e (Dy _ he)) (by rw[Eg];exact h2) (by rw[Dv,Dv,List.length_singleton];omega) (by rw[Dv,Dv,List.length_singleton];omega),Eg];rfl
theorem Aai {x:Info} (h:OkI x):QR N (exI x)=some (inK x,0):=by
 have hck:=Aeh hN (Aq7 hN h);have hll:=yG h;have hr:=Asw hN h 13 (by omega);have hnd:=AgR h;have hck2:=AqF hN h;have hal:=kM hN h;have hxl:=fD x;have hun:=h.un;rw[<- hxl,EI]at hr;refine AeG hN (by omega) ?_ hck;unfold exI at hll hnd hck2 hal ⊢;rw[Ao8 hr];obtain⟨B,C,D,F,G,H,I,J,K,L,O,hc,P,Q,R,S,T,U,V⟩:=x;refine AuC hN B C D F G H I J K L (O.map gnK) hc (P.map gnK) (Q.map gnK) R S (T.map ptK) (U.map ptK) V _ [] (fun e he=> ?_) hnd (Gj hll (by decide)) (by have:=y8 hun;dsimp only at this;rw[List.nil_append];omega);have ha:=hal e (DC _ he);have hc:=hck2 e (DC _ he);refine⟨ha.1,?_,?_⟩
 .have hm:e.1∈ [(unX true).1,unY.1]:=(show ∀ l∈unL,∀ e∈l,e.1∈ [(unX true).1,unY.1] by decide) _ hun e he;obtain⟨M,rfl⟩:=ofM hN;have e:=kW (ArC M) hm;exact e
 .have:=ha.2;rw[xY N _,hc]
end
section
variable (N:Nat) (hN:1048700<N)
include hN
end
abbrev RnT:Type:=List (Bs×Int×Bs)
abbrev GnT:Type:=Int×Bs×List RnT
abbrev PtT:Type:=List GnT×Int×Bool×List RnT
abbrev Y8T:Type:=Int×Int×Int×Int×Int×Int×Int×Int
abbrev HsT:Type:=Int×Int×Int×Int×Int×Int×Int×Int×List Int×Int
abbrev TrT:Type:=List (List Bs)×Bs×Bs×Int
abbrev SgT:Type:=Bs×Int×Int×List TrT
def Tot {α :Type} (Q: α ->Prop) (o:Option α):Prop:= ∃ v,o=some v/\Q v
def Tot.chk {α :Type} {Q: α ->Prop} {c:Bool} {k:Option α} (hc:c=true) (h:Tot Q k):Tot Q (Vm.chk c k):=by rw[hc];exact h
def Tot.call {α β :Type} [Inhabited α] {P: α ->Prop} {Q: β ->Prop} {x:Option α} {f: α ->Option β} (h:Tot P x) (hf: ∀ v,P v->Tot Q (f v)):Tot Q (Jq x f):=by obtain⟨v,rfl,hv⟩:=h;exact hf v hv
def Tot.bif {α :Type} {Q: α ->Prop} {b:Bool} {x y:Option α} (h1:b=true->Tot Q x) (h2:b=false->Tot Q y):Tot Q (bif b then x else y):=by
 cases b with
 | true=>exact h1 rfl
 | false=>exact h2 rfl
def Tot.some {α :Type} {Q: α ->Prop} {v: α} (h:Q v):Tot Q (some v):=⟨v,rfl,h⟩
def Tot.Afk {α :Type} {o:Option α} (h:o.isSome=true):Tot (fun _=>True) o:=by
 cases o with
 | none=>cases h
 | some v=>exact⟨v,rfl,trivial⟩
def Tot.mono {α :Type} {P Q: α ->Prop} {o:Option α} (h:Tot P o) (hq: ∀ v,P v->Q v):Tot Q o:=let ⟨v,e,p⟩:=h;⟨v,e,hq v p⟩
def AiW (l:List Int):l=(List.range l.length).map fun i=>l.getD i 0:=by
 apply IV
 .simp
 .intro i h1 h2;simp [Dj,h1]
def Ak2 (M:Nat) (p0:Y8T) (f:Nat->Int):(Ro (M+70) p0 ((List.range 64).map f)).isSome=true:=by kernel_rfl
def AeJ {N:Nat} (hN:70<=N) (p0:Y8T) {l:List Int} (hl:l.length=64):Tot (fun _=>True) (Ro N p0 l):=by obtain⟨M,rfl⟩:=Nat.exists_eq_add_of_le' hN;have h:=Ak2 M p0 fun i=>l.getD i 0;rw[<- hl,<- AiW]at h;exact Tot.Afk h
def Vg {α :Type} (l:List α) (a b:Nat) (h:b<=l.length:=by omega):(J6 l a b).length=b - a:=by simp [J6];omega
abbrev AdB (r:HsT):List Int:=r.2.2.2.2.2.2.2.2.1
def Aaj (N:Nat):Tot (fun _=>True) (Xr N):=Tot.Afk (by kernel_rfl)
def AoF {N:Nat} (hN:70<=N) (hM:N<=1000000000) (p0:HsT) (h8:(AdB p0).length<64) (p1:Bs) (hl:p1.length+64<N):Tot (fun r=>(AdB r).length<64) (SQ N p0 p1):=by
 unfold SQ;try simp -zeta only[Aq]
 refine Tot.bif (fun _=>Tot.some h8) fun _=> ?_;refine Afg (fun x=>x.2.2.2.2.2.2.2.2.1.length<64) (Tot _) (fun j hj=>Tot.bif (fun _=>(Aaj N).call fun v _=>hj _ h8) fun _=>hj _ h8) ?_;rintro ⟨b0,b1,b2,b3,b4,b5,b6,b7,b8,b9⟩ hb;have hb:b8.length<64:=hb;dsimp only[U10];refine Tot.chk (Dk) (Tot.chk (Dk (by rw[Dx];omega)) ?_);refine RZ (fun x=>x.1.length<N) (fun x=>x.1.length) (Tot _) ?_ N _ (by show(b8++p1.map _).length<N;rw[Dv,Dx];omega) (by show(b8++p1.map _).length<N;rw[Dv,Dx];omega);rintro ⟨t,c0,c1,c2,c3,c4,c5,c6,c7,c8,c9⟩ hI k hk;have hI:t.length<N:=hI;dsimp only[U11];refine Tot.bif (fun h=> ?_) fun h=> ?_
 .have h:=D5 h;refine Tot.chk (Dk) ((AeJ hN _ (by rw[Vg _ _ _])).call fun v _=>Tot.chk (Dk) (hk _ ?_ ?_))
  .show(J6 t 64 t.length).length<N;rw[Vg _ _ _ (DW _)];omega
  .show(J6 t 64 t.length).length<t.length;rw[Vg _ _ _ (DW _)];omega
 .have h:=EN h;refine Tot.chk (Dk) (Tot.some ?_);show t.length<64;omega
def Auk (n:Nat):(n:Int).tmod 64=((n % 64:Nat):Int):=by rw[GX (by omega)];omega
def Arm {N:Nat} (hN:150<=N) (p0:HsT) (h8:(AdB p0).length<64):Tot (fun r=>r.1.length=32) (Ux N p0):=by
 unfold Ux;try simp -zeta only[Aq]
 refine(Aaj N).call fun v _=>Tot.chk rfl ?_;refine Afg (fun x=>x.2.2.2.2.2.2.2.2.2.2.2.1.length=8/\x.2.2.2.2.2.2.2.2.2.2.2.2.length<64) (Tot _) (fun j hj=>Tot.bif (fun _=>Tot.chk (Dk (by have:p0.2.2.2.2.2.2.2.2.1.length<64:=h8;omega)) (hj _ ⟨rfl,h8⟩)) fun _=>hj _ ⟨rfl,by show 0<64;omega⟩) ?_;rintro ⟨t,b0,b1,b2,b3,b4,b5,b6,b7,b8,b9,l1,l2⟩ ⟨h1,h2⟩;have h1:l1.length=8:=h1;have h2:l2.length<64:=h2;dsimp only[U13];refine Tot.chk (Dk) ?_;refine RZ (fun x=>x.2.2.2.2.2.2.2.2.2.2.1.length=8/\x.2.2.2.2.2.2.2.2.2.2.2.length<=120) (fun x=>120 - x.2.2.2.2.2.2.2.2.2.2.2.length) (Tot _) ?_ N _ ⟨h1,by show(l2++_).length<=120;simp;omega⟩ (by show 120 - _<N;omega);rintro ⟨b0,b1,b2,b3,b4,b5,b6,b7,b8,b9,l1,l2⟩ ⟨h1,h2⟩ k hk;have h1:l1.length=8:=h1;have h2:l2.length<=120:=h2;dsimp only[U12];rw[Auk];refine Tot.bif (fun h=> ?_) fun h=> ?_
 .have h: ¬((l2.length % 64:Nat):Int)=56:=Gp.1 h;refine Tot.chk (Dk) (hk _ ⟨h1,?_⟩ ?_)
  .show(l2++[0]).length<=120;simp;omega
  .show 120 - (l2++[0]).length<120 - l2.length;simp;omega
 .have h:((l2.length % 64:Nat):Int)=56:=by simpa using h
  clear k hk;refine RZ (fun x=>x.2.2.2.2.2.2.2.2.2.2.2.1.length=8/\ -1<=x.1/\x.1<=7/\((x.2.2.2.2.2.2.2.2.2.2.2.2.length:Int)+x.1+1) % 64=0/\(x.2.2.2.2.2.2.2.2.2.2.2.2.length:Int)+x.1+1<=128) (fun x=>(x.1+1).toNat) (Tot _) ?_ N _ ⟨h1,by show(-1:Int)<=7;omega,by show(7:Int)<=7;omega,by show((l2.length:Int)+7+1) % 64=0;omega,by show(l2.length:Int)+7+1<=128;omega⟩ (by show((7:Int)+1).toNat<N;omega);rintro ⟨t,b0,b1,b2,b3,b4,b5,b6,b7,b8,b9,l1,l2⟩ ⟨h1,h3,h4,h5,h6⟩ k hk;have h1:l1.length=8:=h1;have h3: -1<=t:=h3;have h4:t<=7:=h4;have h5:((l2.length:Int)+t+1) % 64=0:=h5;have h6:(l2.length:Int)+t+1<=128:=h6;dsimp only[U13];refine Tot.bif (fun h=> ?_) fun h=> ?_
  .have h:=D5 h;refine Tot.chk (Dk (by rw[wu64 (x:=t),wu64];omega)) (Tot.chk (Dk) (hk _ ⟨h1,?_⟩ ?_))
   .show -1<=i64.wrap (t - 1)/\i64.wrap (t - 1)<=7/\(((l2++[_]).length:Int)+i64.wrap (t - 1)+1) % 64=0/\((l2++[_]).length:Int)+i64.wrap (t - 1)+1<=128;rw[w64];simp;omega
   .show(i64.wrap (t - 1)+1).toNat<(t+1).toNat
    rw[w64];omega
  .have h:=EN h;have ht:t= -1:=by omega
   subst ht;clear k hk;refine RZ (fun x=>x.2.2.2.2.2.2.2.2.2.2.2.length=8/\x.1.length % 64=0/\x.1.length<=128) (fun x=>x.1.length) (Tot _) ?_ N _ ⟨h1,by show l2.length % 64=0;omega,by show l2.length<=128;omega⟩ (by show l2.length<N;omega);rintro ⟨t,b0,b1,b2,b3,b4,b5,b6,b7,b8,b9,l1⟩ ⟨h1,h2,h3⟩ k hk;have h1:l1.length=8:=h1;have h2:t.length % 64=0:=h2;have h3:t.length<=128:=h3;dsimp only[U12];refine Tot.bif (fun h=> ?_) fun h=> ?_
   .have h:=D5 h;refine Tot.chk (by rw[h1];rfl) (Tot.chk (Dk) ((AeJ (by omega) _ (by rw[Vg _ _ _])).call fun v _=>Tot.chk (by rw[h1];rfl) (Tot.chk (Dk) (hk _ ⟨rfl,?_⟩ ?_))))
    .show(J6 t 64 t.length).length % 64=0/\(J6 t 64 t.length).length<=128;rw[Vg _ _ _ (DW _)];omega
    .show(J6 t 64 t.length).length<t.length;rw[Vg _ _ _ (DW _)];omega
   .clear k hk h;dsimp only[U11];refine Tot.chk (by rw[h1];rfl) ?_;refine RZ (fun x=>0<=x.1/\x.1<=8/\(x.2.2.2.2.2.2.2.2.2.2.2.length:Int)=4*x.1/\x.2.2.2.2.2.2.2.2.2.2.2.all Vm.isByte=true) (fun x=>(8 - x.1).toNat) (Tot _) ?_ N _ ⟨by show(0:Int)<=0;omega,by show(0:Int)<=8;omega,rfl,rfl⟩ (by show((8:Int) - 0).toNat<N;omega);rintro ⟨t,b0,b1,b2,b3,b4,b5,b6,b7,b8,b9,l⟩ ⟨h1,h2,h3,h4⟩ k hk;have h1:0<=t:=h1;have h2:t<=8:=h2;have h3:(l.length:Int)=4*t:=h3;have h4:l.all Vm.isByte=true:=h4;dsimp only[U12];refine Tot.bif (fun h=> ?_) fun h=> ?_
    .have h:=D5 h;refine Tot.chk (Dk) (Tot.chk (Dk) (Tot.chk (Dk) (hk _ ?_ ?_)))
     .show 0<=i64.wrap (t+1)/\i64.wrap (t+1)<=8/\((l++[_,_,_,_]).length:Int)=4*i64.wrap (t+1)/\(l++[_,_,_,_]).all Vm.isByte=true;rw[w64];refine⟨by omega,by omega,by simp;omega,?_⟩;rw[List.all_append,h4];simp only[List.all_cons,O9,List.all_nil,Ik]
     .show(8 - i64.wrap (t+1)).toNat<(8 - t).toNat
      rw[w64];omega
    .have h:=EN h;dsimp only[U11];refine Tot.chk h4 (Tot.some ?_);show(l.map Vm.byteOf).length=32;rw[Dx];omega
def Ap6 {N:Nat} (hN:150<=N) (hM:N<=1000000000) {l:List Bs} (hl:l.length<N) (hs: ∀ s∈l,s.length+64<N):Tot (fun r=>r.length=32) (nS N l):=by
 unfold nS;try simp -zeta only[Aq]
 refine Tot.call (P:=fun r=>(AdB r).length<64) ⟨_,rfl,by show 0<64;omega⟩ fun v hv=> ?_;refine RZ (fun x=>0<=x.1/\x.1<=(l.length:Int)/\(AdB x.2).length<64) (fun x=>((l.length:Int) - x.1).toNat) (Tot _) ?_ N _ ⟨by show(0:Int)<=0;omega,by show(0:Int)<=l.length;omega,hv⟩ (by show((l.length:Int) - 0).toNat<N;omega);rintro ⟨t,b0,b1,b2,b3,b4,b5,b6,b7,b8,b9⟩ ⟨h1,h2,h3⟩ k hk;have h1:0<=t:=h1;have h2:t<=(l.length:Int):=h2;dsimp only[U11];refine Tot.bif (fun h=> ?_) fun h=> ?_
 .have h:=D5 h;have hlt:t.toNat<l.length:=by omega
  refine Tot.chk (Dk h1) (Tot.chk (Dk h) ((AoF (by omega) hM _ h3 _ (by rw[getD_lt _ _ _ hlt];exact hs _ (EZ hlt))).call fun v hv=>hk _ ?_ ?_))
  .show 0<=i64.wrap (t+1)/\i64.wrap (t+1)<=(l.length:Int)/\(AdB v).length<64;rw[w64];exact⟨by omega,by omega,hv⟩
  .show((l.length:Int) - i64.wrap (t+1)).toNat<((l.length:Int) - t).toNat
   rw[w64];omega
 .dsimp only[U10];exact(Arm hN _ h3).call fun v hv=>Tot.some hv
def Am7 {N:Nat} (hN:150<=N) (hM:N<=1000000000) {l:List Bs} (hl:l.length<N) (hs: ∀ s∈l,s.length+64<N):Tot (fun r=>r.length=16) (MO N l):=by
 unfold MO;try simp -zeta only[Aq]
 refine(Ap6 hN hM hl hs).call fun v hv=>Tot.chk (Dk) (Tot.some ?_);rw[Vg _ _ _]
end Go.Proofs.YtbgjmioccbacdaaGreatDoor.Pl
