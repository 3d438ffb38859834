import Derived.Test.YtehkhflpjkokeaaGreatDoorA19
set_option linter.all false
namespace Go.Proofs.YtehkhflpjkokeaaGreatDoor.Pl
open IntKind (i64 u8 u32 u64)
open Go Vm
def b4P (p:Int):Bs:=List.map Vm.byteOf ([u8.wrap (p.fdiv (16777216)),u8.wrap (p.fdiv (65536)),u8.wrap (p.fdiv (256)),u8.wrap p]:List Int)
def b1P (p:Int):Bs:=List.map Vm.byteOf ([u8.wrap p]:List Int)
def Aji (N:Nat) (p:Int):nV N p=some (b4P p):=by
 unfold nV;try simp -zeta only[Ap]
 rw[KY _ (by simp [Tc])];rfl
def Aoy (N:Nat) (p:Int):nU N p=some (b1P p):=by
 unfold nU;try simp -zeta only[Ap]
 rw[KY _ (by simp [Tc])];rfl
def ArP (N:Nat) (p:Int):Zk N p=some (b4P p):=Aji N p
def hS (N:Nat) (l:List Bs):Bs:=(MM N l).getD []
structure Hok (N:Nat) (l:List Bs):Prop where
 n:150<=N
 m:N<=1000000000
 len:l.length<N
 each: ∀ s∈l,s.length+64<N
def Aen {N:Nat} {l:List Bs} (h:Hok N l):MM N l=some (hS N l)/\(hS N l).length=16:=by obtain⟨v,e,hv⟩:=Aq5 h.n h.m h.len h.each;unfold hS;rw[e];exact⟨rfl,hv⟩
def wk (f:Int->Bs->Bs) (a:Int):Nat->Bs->Bs
 | 0,x=>x
 | n+1,x=>wk f (a+1) n (f a x)
def Axj (f:Int->Bs->Bs): ∀(n:Nat) (a:Int) (m:Nat) (x:Bs),wk f a (n+m) x=wk f (a+n) m (wk f a n x):=by
 intro n
 induction n with
 | zero=>intro a m x;simp [wk]
 | succ n ih =>intro a m x;rw[show n+1+m=(n+m)+1 by omega];show wk f (a+1) (n+m) (f a x)=wk f (a+((n+1:Nat):Int)) m (wk f (a+1) n (f a x));rw[ih];congr 1;omega
def AsA {f:Int->Bs->Bs} (hf: ∀ t x,x.length=16->(f t x).length=16): ∀(n:Nat) (a:Int) (x:Bs),x.length=16->(wk f a n x).length=16:=by
 intro n
 induction n with
 | zero=>intro a x h;exact h
 | succ n ih=>intro a x h;exact ih _ _ (hf _ _ h)
def st (N:Nat) (p0:Bs) (p1 p2 t:Int) (x:Bs):Bs:=hS N [[67],p0,b4P p1,b1P p2,b1P t,x]
structure Big (N:Nat):Prop where
 n:2000<=N
 m:N<=1000000000
def hok {N:Nat} (h:Big N) {l:List Bs} (hl:l.length<=100) (hs:l.all (fun s=>decide (s.length<=1000))=true):Hok N l:=by have h1:=h.n;refine⟨by omega,h.m,by omega,fun s hm=> ?_⟩;have:=D9 (DD.1 hs s hm);omega
def Ava {N:Nat} (h:Big N) {p0:Bs} (h0:p0.length<=1000) (p1 p2 t:Int) {x:Bs} (hx:x.length=16):MM N [[67],p0,b4P p1,b1P p2,b1P t,x]=some (st N p0 p1 p2 t x)/\(st N p0 p1 p2 t x).length=16 :=
 Aen (hok h (by simp) (by simp [h0,hx,b4P,b1P]))
def walk_eq {N:Nat} (h:Big N) {p0:Bs} (h0:p0.length<=1000) (p1 p2:Int) {a b:Int} (ha:0<=a) (hab:a<=b) (hb:b<=15) {x:Bs} (hx:x.length=16):Yv N p0 p1 p2 a b x=some (wk (st N p0 p1 p2) a (b - a).toNat x):=by
 unfold Yv;have hn:=h.n;refine MK (X:=Bs×Int) (fun x=>x.1.length=16/\0<=x.2/\x.2<=b) (fun x=>(b - x.2).toNat) (fun x=>some (wk (st N p0 p1 p2) x.2 (b - x.2).toNat x.1)) ?_ N _ ⟨hx,ha,hab⟩ (by show(b - a).toNat<N;omega);rintro ⟨x,t⟩ ⟨h1,h2,h3⟩ k hk;have h1:x.length=16:=h1;have h2:0<=t:=h2;have h3:t<=b:=h3;dsimp only[U2];by_cases hlt:t<b
 .rw[Di hlt,cond_true,Aji,Jr,Aoy,Jr,Aoy,Jr];obtain⟨e1,e2⟩:=Ava h h0 p1 p2 t h1;rw[e1,Jr,w64];refine(hk _ ⟨e2,by show 0<=t+1;omega,by show t+1<=b;omega⟩ (by show(b - (t+1)).toNat<(b - t).toNat;omega)).trans ?_;show some (wk _ (t+1) (b - (t+1)).toNat _)=some (wk _ t (b - t).toNat x);rw[show(b - t).toNat=(b - (t+1)).toNat+1 by omega];rfl
 .rw[Dn hlt,cond_false];rw[show(b - t).toNat=0 by omega];rfl
def Acv {ρ :Type} {B:Int×List Bs->(Int×List Bs->Option ρ)->(List Bs->Option ρ)->Option ρ} {kx:List Bs->Option ρ} (n:Nat) (g:Nat->Bs)
 (h: ∀(i:Nat) (acc:List Bs) (k:Int×List Bs->Option ρ),i<n->acc.length=i->B ((i:Int),acc) k kx=k ((i:Int)+1,acc++[g i]))
 (hend: ∀(acc:List Bs) (k:Int×List Bs->Option ρ),acc.length=n->B ((n:Int),acc) k kx=kx acc) {N:Nat} (hN:n<N:=by omega):Jz B N (0,[]) kx=kx ((List.range n).map g):=by
 refine MK (fun x=>x.1=(x.2.length:Int)/\x.2.length<=n/\x.2=(List.range x.2.length).map g) (fun x=>n - x.2.length) (fun _=>kx ((List.range n).map g)) ?_ N _ ⟨rfl,EG _,rfl⟩ (by show n - 0<N;omega);rintro ⟨t,acc⟩ ⟨h1,h2,h3⟩ k hk;have h1:t=(acc.length:Int):=h1;have h2:acc.length<=n:=h2;have h3:acc=(List.range acc.length).map g:=h3;subst h1;by_cases hl:acc.length<n
 .rw[h acc.length acc k hl rfl];refine hk _ ⟨by show(acc.length:Int)+1=((acc++[g acc.length]).length:Int);simp,by show(acc++[g acc.length]).length<=n;simp;omega,?_⟩ (by show n - (acc++[g acc.length]).length<n - acc.length;simp;omega);show acc++[g acc.length]=(List.range (acc++[g acc.length]).length).map g;rw[Dx,List.length_singleton,List.range_succ,F7,<- h3];rfl
 .have e:acc.length=n:=by omega
  have h4:=hend acc k e;rw[<- e]at h4;rw[h4,<- e];exact congrArg kx h3
def Aqe (N:Nat) (p1:Bs) (p2:Int) (i:Nat):Bs:=hS N [[83],p1,b4P p2,b1P (i:Int)]
def Xa {N:Nat} (h:Big N) {p1:Bs} (h1:p1.length<=1000) (p2:Int) (i:Nat):XD N p1 p2 (i:Int)=some (Aqe N p1 p2 i)/\(Aqe N p1 p2 i).length=16:=by obtain⟨e1,e2⟩:=Aen (N:=N) (l:=[[83],p1,b4P p2,b1P (i:Int)]) (hok h (by simp) (by simp [h1,b4P,b1P]));refine⟨?_,e2⟩;unfold XD;rw[Aji,Jr,Aoy,Jr,e1];rfl
def Amf (N:Nat) (p0 p1:Bs) (p2:Int) (i:Nat):Bs:=wk (st N p0 p2 (i:Int)) 0 15 (Aqe N p1 p2 i)
def st_len {N:Nat} (h:Big N) {p0:Bs} (h0:p0.length<=1000) (p1 p2:Int): ∀ t x,x.length=16->(st N p0 p1 p2 t x).length=16:=fun t _ hx=>(Ava h h0 p1 p2 t hx).2
def Aeh: ∀(l:List Bs),(∀ s∈l,s.length=16)->l.flatten.length=16*l.length:=by
 intro l
 induction l with
 | nil=>intro _;rfl
 | cons a r ih =>intro h;rw[List.flatten_cons,Dx,h a Dv,ih fun s hs=>h s (Dw _ hs),List.length_cons];omega
def iN (b:UInt8):Int:=(b.toNat:Int)
def AqP (l:Bs):(l.map iN).map Vm.byteOf=l:=by
 rw[EW]
 conv=>rhs;rw[<- Gw l]
 refine ED fun b _=> ?_;show UInt8.ofNat ((b.toNat:Int)).toNat=b;simp
def Ar5 (l:Bs):(l.map iN).all Vm.isByte=true:=by rw[DD];intro x hx;obtain⟨b,_,rfl⟩:=DF.1 hx;have:=TP b;unfold Vm.isByte iN;rw[Di,Di];rfl
def join_eq {N:Nat} (h:Big N) {l:List Bs} (hl:l.length<=1000) (h16: ∀ s∈l,s.length=16):fM N l=some l.flatten:=by
 have hn:=h.n;have hf:=Aeh l h16;unfold fM;try simp -zeta only[Ap]
 rw[w64 (x:=(l.length:Int)*16),KY _ (Di),KY _ (Di),KY _ (Di)];refine(MK (X:=Int×List Int) (fun x=>0<=x.1/\x.1<=(l.length:Int)/\x.2.length=16*l.length/\x.2.take (16*x.1.toNat)=((l.take x.1.toNat).flatten).map iN) (fun x=>((l.length:Int) - x.1).toNat) (fun _=>some l.flatten) ?_ N _ ⟨by show(0:Int)<=0;omega,by show(0:Int)<=l.length;omega,by show(List.replicate _ _).length=_;rw[EH];omega,by simp⟩ (by show((l.length:Int) - 0).toNat<N;omega));rintro ⟨t,y⟩ ⟨h1,h2,h3,h4⟩ k hk;have h1:0<=t:=h1;have h2:t<=(l.length:Int):=h2;have h3:y.length=16*l.length:=h3;have h4:y.take (16*t.toNat)=((l.take t.toNat).flatten).map iN:=h4;dsimp only[U2];by_cases hlt:t<(l.length:Int)
 .have hi:t.toNat<l.length:=by omega
  have hg:l.getD t.toNat []=l[t.toNat]:=getD_lt _ _ _ hi;have h5:(l.getD t.toNat []).length=16:=by rw[hg];exact h16 _ (Ef hi)
  have h6:l.take (t.toNat+1)=l.take t.toNat++[l.getD t.toNat []]:=by rw[hg,HY hi]
  have h7:((l.take t.toNat).flatten).length=16*t.toNat:=by rw[Aeh _ fun s hs=>h16 s (F9 hs),DZ];omega
  generalize l.getD t.toNat []=s at h5 h6 ⊢;rw[Di hlt,cond_true,KY _ (Di h1),KY _ rfl,w64 (x:=t*16),w64 (x:=t+1),KY _ (Di),KY _ (Di),KY _ (Di),KY _ (Di)];have e16:(t*16).toNat=16*t.toNat:=by omega
  rw[e16];have h8:(y.take (16*t.toNat)).length=16*t.toNat:=by rw[DZ];omega
  refine hk _ ⟨by show 0<=t+1;omega,by show t+1<=_;omega,?_,?_⟩ (by show((l.length:Int) - (t+1)).toNat<((l.length:Int) - t).toNat;omega)
  .show(kU y (16*t.toNat) s).length=_;unfold kU;simp only[Dx,D5,EJ,h8];omega
  .show(kU y (16*t.toNat) s).take (16*(t+1).toNat)=((l.take (t+1).toNat).flatten).map iN;rw[show(t+1).toNat=t.toNat+1 by omega,h6,G9,F7,<- h4];unfold kU;rw[GH (by simp only[Dx,D5,h8];omega)];rw[Fb (by simp only[Dx,D5,h8];omega)];simp [iN]
 .have et:t.toNat=l.length:=by omega
  rw[Dn hlt,cond_false];rw[et,<- h3,ES,ES]at h4;rw[h4];show chk _ _=_;rw[KY _ (Ar5 _),AqP]
def Yt {n:Nat} {g:Nat->Bs} (h: ∀ i,(g i).length=16): ∀ s∈(List.range n).map g,s.length=16:=by intro s hs;obtain⟨i,_,rfl⟩:=DF.1 hs;exact h i
def Aun (N:Nat) (p0:Bs) (p1:Int) (l:List Bs):Bs:=hS N [[76],p0,b4P p1,l.flatten]
def Aai {N:Nat} (h:Big N) {p0:Bs} (h0:p0.length<=1000) (p1:Int) {l:List Bs} (hl:l.length<=60) (h16: ∀ s∈l,s.length=16):XC N p0 p1 l=some (Aun N p0 p1 l)/\(Aun N p0 p1 l).length=16:=by have hf:=Aeh l h16;obtain⟨e1,e2⟩:=Aen (N:=N) (l:=[[76],p0,b4P p1,l.flatten]) (hok h (by simp) (by simp only[List.all_cons,List.all_nil,hf,FK,Di h0];rw[Di (by omega:16*l.length<=1000)];simp [b4P]));refine⟨?_,e2⟩;unfold XC;rw[Aji,Jr,join_eq h (by omega) h16,Jr,e1];rfl
def xA (N:Nat) {p0:Bs} (h0:p0.length=16) {p:Int} (h1:0<=p) (h2:p<256):QE N p0 p=some 0:=by
 unfold QE;try simp -zeta only[Ap]
 rw[show((p0.length:Int) != 16)=false by rw[h0];rfl,Dn (by omega: ¬ p<0),Dn (by omega: ¬ p>=256)];rfl
def xB (N:Nat) {p0 p1:Bs} (h0:p0.length=16) (hs:p1.length=32) {p:Int} (h1:0<=p) (h2:p<256):TY N p0 p1 p=some 0:=by
 unfold TY;try simp -zeta only[Ap]
 rw[show((p0.length:Int) != 16)=false by rw[h0];rfl,show((p1.length:Int) != 32)=false by rw[hs];rfl];show Jq (QE N p0 p) _=_;rw[xA N h0 h1 h2];rfl
def Adt {N:Nat} (h:Big N) {p0 p1:Bs} (h0:p0.length<=1000) (hs:p1.length<=1000) (p2:Int) (i:Nat):(Amf N p0 p1 p2 i).length=16:=AsA (st_len h h0 p2 i) _ _ _ (Xa h hs p2 i).2
def pkP (N:Nat) (p0 p1:Bs) (p2:Int):Bs:=Aun N p0 p2 ((List.range 35).map (Amf N p0 p1 p2))
def Aq4 {N:Nat} (h:Big N) {p0 p1:Bs} (h0:p0.length=16) (hs:p1.length=32) {p2:Int} (h1:0<=p2) (h2:p2<256):bD N p0 p1 p2=some (pkP N p0 p1 p2,0):=by
 have hn:=h.n;unfold bD;try simp -zeta only[Ap]
 rw[xB N h0 hs h1 h2];show Jz (X:=Int×List Bs) (Y:=List Bs) _ N (0,[]) _=_;refine(Acv 35 (Amf N p0 p1 p2) (fun i acc k hi ha=> ?_) (fun acc k ha=> ?_)).trans ?_
 .dsimp only[U2];rw[Di (by omega:(i:Int)<35),cond_true,(Xa h (by omega) p2 i).1,Jr,walk_eq h (by omega) p2 i (FH 0) (by omega) (FH 15) (Xa h (by omega) p2 i).2,Jr,KY _ (Di),w64];rfl
 .rfl
 .rw[(Aai h (by omega) p2 (by simp) (Yt (Adt h (by omega) (by omega) p2))).1];rfl
def pk_len {N:Nat} (h:Big N) {p0 p1:Bs} (h0:p0.length=16) (hs:p1.length=32) (p2:Int):(pkP N p0 p1 p2).length=16:=(Aai h (by omega) p2 (by simp) (Yt (Adt h (by omega) (by omega) p2))).2
def Dig (l:List Int):Prop:=l.length=35/\ ∀ i,0<=l.getD i 0/\l.getD i 0<=15
def Axk (a:Nat) (h:a<256):0<=J9 .and .u8 (a:Int) 15/\J9 .and .u8 (a:Int) 15<=15:=by
 have: ∀ a:Fin 256,0<=J9 .and .u8 ((a.val:Nat):Int) 15/\J9 .and .u8 ((a.val:Nat):Int) 15<=15:=by decide +kernel
 exact this ⟨a,h⟩
def AqA (a:Nat) (h:a<1024):0<=J9 .and .i64 (a:Int) 15/\J9 .and .i64 (a:Int) 15<=15:=by
 have: ∀ a:Fin 1024,0<=J9 .and .i64 ((a.val:Nat):Int) 15/\J9 .and .i64 ((a.val:Nat):Int) 15<=15:=by decide +kernel
 exact this ⟨a,h⟩
def At9 {l:List Int} (h: ∀ x∈l,0<=x/\x<=15) (i:Nat):0<=l.getD i 0/\l.getD i 0<=15:=by
 by_cases hi:i<l.length
 .rw[getD_lt _ _ _ hi];exact h _ (Ef hi)
 .rw[Dj,Ei (by omega)];simp
def AoU (a b:Nat):(a:Int).fdiv (b:Int)=((a / b:Nat):Int):=by rw[Gl _ (Int.natCast_nonneg b)];rfl
def Aok {N:Nat} (h:Big N) {p:Bs} (hp:p.length=16):Tot (fun r=>r.2=0/\Dig r.1) (TC N p):=by
 have hn:=h.n;unfold TC;try simp -zeta only[Ap]
 rw[show((p.length:Int) != 16)=false by rw[hp];rfl];refine Tot.chk (Di) ?_;show Tot _ (Jz (X:=Int×Int×List Int×List Int) _ N (0,0,p.map iN,[]) _);refine QV (fun x=>0<=x.2.1/\x.2.1<=16/\x.2.2.1=p.map iN/\(x.2.2.2.length:Int)=2*x.2.1/\(∀ d∈x.2.2.2,0<=d/\d<=15)/\0<=x.1/\x.1<=30*x.2.1) (fun x=>(16 - x.2.1).toNat) (Tot _) ?_ N _ ⟨by show(0:Int)<=0;omega,by show(0:Int)<=16;omega,rfl,rfl,(fun _ h=>by cases h),by show(0:Int)<=0;omega,by show(0:Int)<=30*0;omega⟩ (by show((16:Int) - 0).toNat<N;omega);rintro ⟨c,t,l,acc⟩ ⟨h1,h2,h3,h4,h5,h6,h7⟩ k hk;have h1:0<=t:=h1;have h2:t<=16:=h2;have h3:l=p.map iN:=h3;have h4:(acc.length:Int)=2*t:=h4;have h5: ∀ d∈acc,0<=d/\d<=15:=h5;have h6:0<=c:=h6;have h7:c<=30*t:=h7;dsimp only[U4];refine Tot.bif (fun hb=> ?_) fun hb=> ?_
 .have hb:=D9 hb;rw[D5,hp]at hb;have hl:t.toNat<l.length:=by rw[h3,D5];omega
  obtain⟨a,ha,hlt⟩: ∃ a:Nat,l.getD t.toNat 0=(a:Int)/\a<256:=by rw[getD_lt _ _ _ hl];have hm:l[t.toNat]∈p.map iN:=h3▸Ef hl;obtain⟨b,_,hb⟩:=DF.1 hm;exact⟨b.toNat,hb.symm,TP b⟩
  obtain⟨q1,q2⟩:=Axk a hlt;have hd:(a:Int).fdiv 16=((a / 16:Nat):Int):=AoU a 16;rw[ha,hd];generalize J9 .and .u8 (a:Int) 15=y at q1 q2 ⊢;rw[w64 (x:=((a / 16:Nat):Int)),w64 (x:=y),w64 (x:=15 - ((a / 16:Nat):Int)),w64 (x:=15 - ((a / 16:Nat):Int)+15),w64 (x:=15 - ((a / 16:Nat):Int)+15 - y),w64 (x:=t+1),w64];refine Tot.chk (Di h1) (Tot.chk (Di) (Tot.chk (Di) (Tot.chk (Di) (hk _ ⟨by show 0<=t+1;omega,by show t+1<=16;omega,h3,?_,?_,?_,?_⟩ ?_))))
  .show((acc++[_,_]).length:Int)=2*(t+1);simp;omega
  .intro d hd;have hd:d∈acc++[((a / 16:Nat):Int),y]:=hd;rcases DJ.1 hd with hd | hd
   .exact h5 d hd
   .simp only[D6,Fv,Hl]at hd;rcases hd with rfl | rfl<;>omega
  .show 0<=c+(15 - ((a / 16:Nat):Int)+15 - y);omega
  .show c+(15 - ((a / 16:Nat):Int)+15 - y)<=30*(t+1);omega
  .show(16 - (t+1)).toNat<(16 - t).toNat
   omega
 .have hb:=Et hb;rw[D5,hp]at hb;dsimp only[U2];refine Tot.chk (Di) (Tot.some ⟨rfl,?_,?_⟩)
  .show(acc++[_,_,_]).length=35;simp;omega
  .obtain⟨n,hn,hn2⟩: ∃ n:Nat,c=(n:Int)/\n<=480:=⟨c.toNat,by omega,by omega⟩
   refine At9 fun x hx=> ?_;have hx:x∈acc++[c.fdiv 256,J9 .and .i64 (c.fdiv 16) 15,J9 .and .i64 c 15]:=hx;rcases DJ.1 hx with hx | hx
   .exact h5 x hx
   .simp only[D6,Fv,Hl]at hx;subst hn;have e1:(n:Int).fdiv 256=((n / 256:Nat):Int):=AoU n 256;have e2:(n:Int).fdiv 16=((n / 16:Nat):Int):=AoU n 16;rcases hx with rfl | rfl | rfl
    .rw[e1];omega
    .rw[e2];exact AqA _ (by omega)
    .exact AqA _ (by omega)
def Atm: ∀(l:List Bs) (i:Nat),(∀ s∈l,s.length=16)->i<l.length->J6 l.flatten (16*i) (16*(i+1))=l.getD i []:=by
 intro l
 induction l with
 | nil=>intro i _ h;simp at h
 | cons a r ih =>
  intro i h hi;have ha:a.length=16:=h a Dv;cases i with
  | zero =>show((a++r.flatten).take (16*(0+1))).drop (16*0)=a;rw[GH (by omega),Fb (by omega)];rfl
  | succ i =>have:=ih i (fun s hs=>h s (Dw _ hs)) (by simpa using hi);show((a++r.flatten).take (16*(i+1+1))).drop (16*(i+1))=r.getD i [];rw[<- this];rw[show 16*(i+1+1)=a.length+16*(i+1) by omega,List.take_length_add_append,show 16*(i+1)=a.length+16*i by omega,List.drop_length_add_append];rw[ha,show 16+16*i=16*(i+1) by omega];rfl
def AfT (N:Nat) (d:Bs):List Int:=((TC N d).getD ([],0)).1
def Aho {N:Nat} (h:Big N) {d:Bs} (hd:d.length=16):TC N d=some (AfT N d,0)/\Dig (AfT N d):=by obtain⟨⟨l,e⟩,h1,h2,h3⟩:=Aok h hd;have h2:e=0:=h2;subst h2;unfold AfT;rw[h1];exact⟨rfl,h3⟩
def sgP (N:Nat) (p0 p1:Bs) (p2:Int) (d:Bs) (i:Nat):Bs:=wk (st N p0 p2 (i:Int)) 0 ((AfT N d).getD i 0).toNat (Aqe N p1 p2 i)
def l9 (N:Nat) (p0 p1:Bs) (p2:Int) (d:Bs):Bs:=((List.range 35).map (sgP N p0 p1 p2 d)).flatten
section
variable {N:Nat} (h:Big N) {p0 p1:Bs} (h0:p0.length=16) (hs:p1.length=32) {p2:Int} (h1:0<=p2) (h2:p2<256) {d:Bs} (hd:d.length=16)
include h h0 hs
theorem Abn (p2:Int) (d:Bs) (i:Nat):(sgP N p0 p1 p2 d i).length=16:=AsA (st_len h (by omega) p2 i) _ _ _ (Xa h (by omega) p2 i).2
theorem sO (p2:Int) (d:Bs):(l9 N p0 p1 p2 d).length=560:=by unfold l9;rw[Aeh _ (Yt (Abn h h0 hs p2 d)),D5,DK]
include h1 h2 hd
theorem Avg:rM N p0 p1 p2 d=some (l9 N p0 p1 p2 d,0):=by
 have hn:=h.n;obtain⟨e1,e2,e3⟩:=Aho h hd;unfold rM;try simp -zeta only[Ap]
 rw[xB N h0 hs h1 h2,Jr];rw[show((0:Int) != 0)=false from rfl,cond_false];rw[e1,Jr];show Jz (X:=Int×List Bs) (Y:=List Bs) _ N (0,[]) _=_;refine(Acv 35 (sgP N p0 p1 p2 d) (fun i acc k hi ha=> ?_) (fun acc k ha=> ?_)).trans ?_
 .have e4:=e3 i;dsimp only[U2];rw[Di (by omega:(i:Int)<35),cond_true,KY _ (Di),KY _ (Di),(Xa h (by omega) p2 i).1,Jr,Int.toNat_natCast,walk_eq h (by omega) p2 i (FH 0) e4.1 e4.2 (Xa h (by omega) p2 i).2,Jr,KY _ (Di),w64,Int.sub_zero];rfl
 .rfl
 .rw[join_eq h (by simp) (Yt (Abn h h0 hs p2 d))];rfl
theorem Aoo:YG N p0 p2 d (l9 N p0 p1 p2 d)=some (pkP N p0 p1 p2,0):=by
 have hn:=h.n;obtain⟨e1,e2,e3⟩:=Aho h hd;have hsl:=sO h h0 hs p2 d;unfold YG;try simp -zeta only[Ap]
 rw[xA N h0 h1 h2,Jr];rw[show((0:Int) != 0)=false from rfl,cond_false];rw[e1,Jr];show(bif (((l9 N p0 p1 p2 d).length:Int) != 560)then _ else _)=_;rw[show(((l9 N p0 p1 p2 d).length:Int) != 560)=false by rw[hsl];rfl,cond_false];refine(Acv 35 (Amf N p0 p1 p2) (fun i acc k hi ha=> ?_) (fun acc k ha=> ?_)).trans ?_
 .have e4:=e3 i;have hc:J6 (l9 N p0 p1 p2 d) (16*i) (16*(i+1))=sgP N p0 p1 p2 d i:=by unfold l9;rw[Atm _ _ (Yt (Abn h h0 hs p2 d)) (by simpa using hi),getD_lt _ _ _ (by simpa using hi)];simp
  dsimp only[U2];rw[Di (by omega:(i:Int)<35),cond_true,w64 (x:=(i:Int)*16),w64 (x:=(i:Int)+1),w64];rw[KY _ (Di),KY _ (Di),KY _ (Di),KY _ (Di),KY _ (Di),show((i:Int)*16).toNat=16*i by omega,show(((i:Int)+1)*16).toNat=16*(i+1) by omega,hc,Int.toNat_natCast,walk_eq h (by omega) p2 i e4.1 e4.2 (FH 15) (Abn h h0 hs p2 d i),Jr,KY _ (Di)];congr 3;congr 1;unfold sgP Amf;rw[show(15:Nat)=((AfT N d).getD i 0).toNat+(15 - (AfT N d).getD i 0).toNat by omega,Axj];congr 1;omega
 .rfl
 .rw[(Aai h (by omega) p2 (by simp) (Yt (Adt h (by omega) (by omega) p2))).1];rfl
end
def low (b:Int):Int:=if 65<=b/\b<=90 then b+32 else b
def fP (s:Bool×List Int) (b:Int):Bool×List Int:=if b=32 then(decide (0<s.2.length),s.2)else(false,(if s.1 then s.2++[32]else s.2)++[low b])
def Vy (l:List Int):Int:=l.getD (l.length - 1) 0
def fR (acc:List Int) (c:Int):List Int:=if c≠32\/(0<acc.length/\Vy acc≠32)then acc++[c]else acc
def oK (l:List Int):List Int:=if 0<l.length/\Vy l=32 then l.take (l.length - 1)else l
def zA (l:List Int) (x:Int):Vy (l++[x])=x:=by simp [Vy,Dj]
def Aw5 {b:Int} (h:b≠32) (h0:0<=b):low b≠32:=by unfold low;split<;>omega
def Axx:low 32=32:=by decide
def runs: ∀(l:List Int) (p:Bool) (acc:List Int),(∀ b∈l,0<=b)->(p=true->0<acc.length)->(0<acc.length->Vy acc≠32) ->
 oK ((l.map low).foldl fR (acc++if p then [32]else []))=(l.foldl fP (p,acc)).2:=by
 intro l
 induction l with
 | nil =>
  intro p acc _ hp ha;show oK (acc++if p then [32]else [])=acc;cases p with
  | true =>have:=hp rfl;unfold oK;rw[Dp rfl,zA,Dp ⟨by simp,rfl⟩];simp
  | false =>rw[Dk (by simp),En];unfold oK;rw[Dk fun h=>ha h.1 h.2]
 | cons b r ih =>
  intro p acc h hp ha;have hb:=h b Dv;have hr: ∀ x∈r,0<=x:=fun x hx=>h x (Dw _ hx);rw[Em,List.foldl_cons,List.foldl_cons];by_cases h32:b=32
  .subst h32;have e1:fP (p,acc) 32=(decide (0<acc.length),acc):=by unfold fP;rw[Dp rfl]
   rw[e1,Axx]
   have e2:fR (acc++if p then [32]else []) 32=acc++if decide (0<acc.length)then [32]else []:=by
    by_cases h0:0<acc.length
    .rw[Di h0,Dp rfl];cases p with
     | true=>unfold fR;rw[Dp rfl,zA,Dk (by simp)]
     | false=>unfold fR;rw[Dk (by decide: ¬(false=true)),En,Dp (Or.inr ⟨h0,ha h0⟩)]
    .have:acc=[]:=by cases acc with | nil=>rfl | cons a t=>simp at h0
     subst this;have hf:p=false:=by cases p with | true=>exact absurd (hp rfl) (by simp) | false=>rfl
     subst hf;rfl
   rw[e2];exact ih _ _ hr (fun h=>D9 h) ha
  .have hl:=Aw5 h32 hb;have e1:fP (p,acc) b=(false,(if p then acc++[32]else acc)++[low b]):=by unfold fP;rw[Dk h32]
   have e2:fR (acc++if p then [32]else []) (low b)=((if p then acc++[32]else acc)++[low b])++if false then [32]else []:=by unfold fR;rw[Dp (Or.inl hl)];cases p<;>simp
   rw[e1,e2];exact ih _ _ hr (fun h=>by cases h) (fun _=>by rw[zA];exact hl)
structure FI (n:Nat) (s:Bool×List Int):Prop where
 len:s.2.length<=2*n
 byt:s.2.all Vm.isByte=true
def Yn (b:UInt8):0<=iN b/\iN b<256:=by have:=TP b;unfold iN;omega
def AjS {x:Int} (h:0<=x/\x<256):Vm.isByte x=true:=by unfold Vm.isByte;rw[Di h.1,Di h.2];rfl
def AcK {x:Int} (h:0<=x/\x<256):0<=low x/\low x<256:=by unfold low;split<;>omega
def Axr {n:Nat} {s:Bool×List Int} (h:FI n s) (b:UInt8):FI (n+1) (fP s (iN b)):=by
 obtain⟨h1,h2⟩:=h;unfold fP;split
 .exact⟨by show s.2.length<=_;omega,h2⟩
 .have hb:=AjS (AcK (Yn b));refine⟨?_,?_⟩
  .show((if s.1 then s.2++[32]else s.2)++[low (iN b)]).length<=_;split<;>simp<;>omega
  .show((if s.1 then s.2++[32]else s.2)++[low (iN b)]).all Vm.isByte=true;split<;>simp only[Ha,h2,hb,List.all_cons,List.all_nil,FK]<;>rfl
def AlO {E S ρ :Type} (g:S->E->S) (fin:S->Option ρ): ∀(l:List E) (s:S),PE (fun e s=>(.inr (g s e):Option ρ ⊕ S)) fin l s=fin (l.foldl g s):=by
 intro l
 induction l with
 | nil=>intro s;rfl
 | cons e r ih=>intro s;exact ih _
def Ur (p:Bs):Bs:=((p.foldl (fun s b=>fP s (iN b)) (false,[])).2).map Vm.byteOf
def AaI {N:Nat} {p:Bs} (hN:p.length<N) (hl:p.length<=1000000):Zz N p=some (Ur p):=by
 unfold Zz;try simp -zeta only[Ap]
 rw[KY _ (Di)];refine(NT (X:=Bool×Int×List Int×List Int) (fun i (s:Bool×List Int)=>(s.1,i,p.map iN,s.2)) p 0 (fun i s=>FI i s) (fun e s=>.inr (fP s (iN e))) (fun s=>some (s.2.map Vm.byteOf)) (fun i s hi hI=> ?_) (fun s k hI=> ?_) N (false,[]) ⟨by simp,rfl⟩ hN).trans ?_
 .obtain⟨q,acc⟩:=s;obtain⟨h1,h2⟩:=hI;have h1:acc.length<=2*i:=h1;have hg:(p.map iN).getD i 0=iN (p.getD i 0):=by simp [Dj,hi]
  refine⟨fun k=> ?_,Axr ⟨h1,h2⟩ _⟩;obtain⟨b1,b2⟩:=Yn (p.getD i 0);generalize iN (p.getD i 0)=b at hg b1 b2 ⊢;dsimp only[U4,U3];have hm:(p.map fun(b:UInt8)=>((b.toNat:Int)))=p.map iN:=rfl;rw[hm];simp only[Int.toNat_natCast,D5,hg,Di (by omega:(i:Int)<(p.length:Int)),Di (by omega:(0:Int)<=(i:Int)),Di hi,cond_true,Jv,NU,w64 (x:=(i:Int)+1)];unfold fP;by_cases h32:b=32
  .subst h32;rw[Dp rfl];by_cases h0:0<acc.length
   .rw[Di h0,Di (by omega:(acc.length:Int)>0)];rfl
   .rw[Dn h0,Dn (by omega: ¬(acc.length:Int)>0)];rfl
  .rw[Dk h32,F5.2 h32,cond_false]
   have hlow: ∀(K:Int->Option Bs),(bif bif decide (b>=65)then decide (b<=90)else false then K (u8.wrap (b+32))else K b)=K (low b):=by
    intro K;unfold low;by_cases g1:65<=b
    .by_cases g2:b<=90
     .rw[Di (show b>=65 from g1),Di g2,Dp ⟨g1,g2⟩,w8,show(b+32) % 256=b+32 by omega];rfl
     .rw[Di (show b>=65 from g1),Dn g2,Dk fun h=>g2 h.2];rfl
    .rw[Dn (show ¬ b>=65 from g1),Dk fun h=>g1 h.1];rfl
   cases q with
   | true =>rw[cond_true,KY _ (Di)];dsimp only[U3];rw[Pn,PT,Og];refine(hlow fun v=>chk (decide (((acc++[32]).length+1)*2<=140737488355328)) (k (false,(i:Int)+1,p.map iN,acc++[32]++[v]))).trans ?_;rw[KY _ (Di (by simp;omega))];rfl
   | false =>rw[cond_false];dsimp only[U3];rw[Pn,PT,Og];refine(hlow fun v=>chk (decide ((acc.length+1)*2<=140737488355328)) (k (false,(i:Int)+1,p.map iN,acc++[v]))).trans ?_;rw[KY _ (Di)];rfl
 .obtain⟨h1,h2⟩:=hI;dsimp only[U4];rw[D5,Ay8,cond_false,KY _ h2]
 .rw[AlO];rfl
def zJ (p:Bs):Bs:=((p.map iN).map low).map Vm.byteOf
def AsG {N:Nat} {p:Bs} (hN:p.length<N) (hl:p.length<=1000000):YJ N p=some (zJ p):=by
 unfold YJ;try simp -zeta only[Ap]
 rw[KY _ (Di)];refine MK (X:=Int×List Int) (fun x=>0<=x.1/\x.1<=(p.length:Int)/\x.2=((p.map iN).take x.1.toNat).map low++(p.map iN).drop x.1.toNat) (fun x=>((p.length:Int) - x.1).toNat) (fun _=>some (zJ p)) ?_ N _ ⟨by show(0:Int)<=0;omega,by show(0:Int)<=p.length;omega,rfl⟩ (by show((p.length:Int) - 0).toNat<N;omega);rintro ⟨t,l⟩ ⟨h1,h2,h3⟩ k hk;have h1:0<=t:=h1;have h2:t<=(p.length:Int):=h2;have h3:l=((p.map iN).take t.toNat).map low++(p.map iN).drop t.toNat:=h3;have hlen:l.length=p.length:=by rw[h3];simp;omega
 dsimp only[U2];rw[D5];by_cases hlt:t<(p.length:Int)
 .have hi:t.toNat<(p.map iN).length:=by rw[D5];omega
  have hd:(p.map iN).drop t.toNat=(p.map iN)[t.toNat]::(p.map iN).drop (t.toNat+1):=Ep hi;have ht:(p.map iN).take (t.toNat+1)=(p.map iN).take t.toNat++[(p.map iN)[t.toNat]]:=HY hi;obtain⟨b1,b2⟩:0<=(p.map iN)[t.toNat]/\(p.map iN)[t.toNat]<256:=by rw[FX];exact Yn _
  have hA:(((p.map iN).take t.toNat).map low).length=t.toNat:=by rw[D5,DZ];omega
  rw[hd]at h3;generalize (p.map iN)[t.toNat]=b at h3 ht b1 b2;have hg:l.getD t.toNat 0=b:=by rw[h3,Dj,EC (by omega),hA,Hg];rfl
  have hs: ∀ c,l.set t.toNat c=((p.map iN).take t.toNat).map low++c::(p.map iN).drop (t.toNat+1):=fun c=>by rw[h3,GR _ _ (by omega),hA,Hg];rfl
  have fin: ∀ c,c=low b->k (t+1,l.set t.toNat c)=some (zJ p):=fun c hc=>by
   refine hk _ ⟨by show 0<=t+1;omega,by show t+1<=_;omega,?_⟩ (by show((p.length:Int) - (t+1)).toNat<((p.length:Int) - t).toNat;omega);show l.set t.toNat c=((p.map iN).take (t+1).toNat).map low++(p.map iN).drop (t+1).toNat
   rw[hs,show(t+1).toNat=t.toNat+1 by omega,ht,F7,hc,Ej];rfl
  have hself:l.set t.toNat b=l:=by rw[hs,<- h3]
  simp only[hg,Di hlt,Di h1,Di (by omega:t<(l.length:Int)),Di (by omega:t.toNat<l.length),cond_true,Jv,DR,Pn,PT,Og,w64 (x:=t+1)];by_cases g1:65<=b
  .rw[Di (show b>=65 from g1)];by_cases g2:b<=90
   .rw[Di g2];refine E5 (show _=k (t+1,l.set t.toNat (u8.wrap (b+32)))from rfl) (fin _ ?_);unfold low;rw[w8,Dp ⟨g1,g2⟩];omega
   .rw[Dn g2];refine E5 (show _=k (t+1,l)from rfl) ?_;have:=fin b (by unfold low;rw[Dk fun h=>g2 h.2]);rwa [hself]at this
  .rw[Dn (show ¬ b>=65 from g1)];refine E5 (show _=k (t+1,l)from rfl) ?_;have:=fin b (by unfold low;rw[Dk fun h=>g1 h.1]);rwa [hself]at this
 .rw[Dn hlt,cond_false];have et:t.toNat=(p.map iN).length:=by rw[D5];omega
  rw[et,ES,FY,En]at h3;rw[h3,KY _ ?_]
  .rfl
  .rw[DD];intro x hx;obtain⟨y,hy,rfl⟩:=DF.1 hx;obtain⟨b,_,rfl⟩:=DF.1 hy;exact AjS (AcK (Yn b))
def Axw {x:Int} (h:0<=x/\x<256):iN (Vm.byteOf x)=x:=by unfold iN Vm.byteOf;rw[Fp];have:x.toNat % 2 ^ 8=x.toNat:=FM (by omega);rw[this];omega
def AvB (p:Bs):(zJ p).map iN=(p.map iN).map low:=by unfold zJ;simp only[EW];refine ED fun b _=> ?_;exact Axw (AcK (Yn b))
structure FJ (n:Nat) (s:List Int):Prop where
 len:s.length<=n
 byt:s.all Vm.isByte=true
def Axs {n:Nat} {s:List Int} (h:FJ n s) (b:UInt8):FJ (n+1) (fR s (iN b)):=by
 obtain⟨h1,h2⟩:=h;unfold fR;split
 .refine⟨by simp;omega,?_⟩;simp only[Ha,h2,AjS (Yn b),List.all_cons,List.all_nil,FK]
 .exact⟨by omega,h2⟩
def At7 (g:List Int->Int->List Int): ∀(p:Bs) (s:List Int),p.foldl (fun s b=>g s (iN b)) s=(p.map iN).foldl g s:=by
 intro p
 induction p with
 | nil=>intro s;rfl
 | cons b r ih=>intro s;exact ih _
def At8 (g:Bool×List Int->Int->Bool×List Int): ∀(p:Bs) (s:Bool×List Int),p.foldl (fun s b=>g s (iN b)) s=(p.map iN).foldl g s:=by
 intro p
 induction p with
 | nil=>intro s;rfl
 | cons b r ih=>intro s;exact ih _
def Alz {N:Nat} {p:Bs} (hN:p.length<N) (hl:p.length<=1000000):XG N p=some (Ur p):=by
 unfold XG;try simp -zeta only[Ap]
 rw[AsG hN hl,Jr];have hq:(zJ p).length=p.length:=by simp [zJ]
 generalize hqd:zJ p=q at hq;refine(NT (X:=Int×List Int) (fun i (s:List Int)=>(i,s)) q 0 (fun i s=>FJ i s) (fun e s=>.inr (fR s (iN e))) (fun s=>some ((oK s).map Vm.byteOf)) (fun i s hi hI=> ?_) (fun s k hI=> ?_) N [] ⟨by simp,rfl⟩).trans ?_
 .obtain⟨h1,h2⟩:=hI;refine⟨fun k=> ?_,Axs ⟨h1,h2⟩ _⟩;have hg:(((q.getD i 0).toNat:Nat):Int)=iN (q.getD i 0):=rfl;dsimp only[U2];simp only[Int.toNat_natCast,hg];generalize iN (q.getD i 0)=c;rw[Di (by omega:(i:Int)<(q.length:Int)),Di (by omega:(0:Int)<=(i:Int)),w64 (x:=(i:Int)+1)];unfold fR;by_cases h0:0<s.length
  .have hx:s.getD (i64.wrap ((s.length:Int) - 1)).toNat 0=Vy s:=by rw[w64];unfold Vy;congr 1;omega
   rw[hx,w64 (x:=(s.length:Int) - 1),Di (by omega:(s.length:Int)>0),Di (by omega:(0:Int)<=(s.length:Int) - 1),Di (by omega:(s.length:Int) - 1<(s.length:Int)),Di (by omega:((s.length:Int) - 1).toNat<s.length),Di (by omega:(s.length+1)*2<=140737488355328)];by_cases hc:c=32
   .subst hc;by_cases hL:Vy s=32
    .rw[hL,Dk (by simp)];rfl
    .rw[Dp (Or.inr ⟨h0,hL⟩),show((Vy s) != 32)=true from Ey.2 hL];rfl
   .rw[Dp (Or.inl hc),show(c != 32)=true from Ey.2 hc];rfl
  .rw[Dn (by omega: ¬(s.length:Int)>0),Di (by omega:(s.length+1)*2<=140737488355328)];by_cases hc:c=32
   .subst hc;rw[Dk (by simp;omega)];simp only[Hr,DY,Ew,Jv];rfl
   .rw[Dp (Or.inl hc),show(c != 32)=true from Ey.2 hc];simp only[Hr,DY,Ew,Jv];rfl
 .obtain⟨h1,h2⟩:=hI;dsimp only[U2];rw[Ay8,cond_false];unfold oK;by_cases h0:0<s.length
  .have hx:s.getD (i64.wrap ((s.length:Int) - 1)).toNat 0=Vy s:=by rw[w64];unfold Vy;congr 1;omega
   rw[hx,w64 (x:=(s.length:Int) - 1),Di (by omega:(s.length:Int)>0),Di (by omega:(0:Int)<=(s.length:Int) - 1),Di (by omega:(s.length:Int) - 1<(s.length:Int)),Di (by omega:((s.length:Int) - 1).toNat<s.length),Di (by omega:(s.length:Int) - 1<=(s.length:Int))];have hcut:J6 s 0 ((s.length:Int) - 1).toNat=s.take (s.length - 1):=by unfold J6;rw[show((s.length:Int) - 1).toNat=s.length - 1 by omega];rfl
   rw[hcut];by_cases hL:Vy s=32
   .rw[hL,Dp ⟨h0,rfl⟩];have h3:(s.take (s.length - 1)).all Vm.isByte=true:=DD.2 fun x hx=>DD.1 h2 x (F9 hx);rw[h3];rfl
   .rw[Dk (fun h=>hL h.2),show((Vy s)==32)=false from F5.2 hL,h2];rfl
  .rw[Dn (by omega: ¬(s.length:Int)>0),Dk (fun h=>h0 h.1),h2];simp only[DY,Ew,Jv];rfl
 .rw[AlO,At7 fR,<- hqd,AvB];have:=runs (p.map iN) false [] (fun b hb=>by obtain⟨x,_,rfl⟩:=DF.1 hb;exact(Yn x).1) (fun h=>by cases h) (fun h=>absurd h (by simp));unfold Ur;rw[At8 fP];rw[Dk (by decide: ¬(false=true)),En]at this;rw[this]
abbrev dA:Bs×Int×Bs:=(([]:Bs),0,([]:Bs))
def SmA (N:Nat) (a:Bs×Int×Bs):Prop:=a.2.2.length<N/\a.2.2.length<=1000000
def SmR (N:Nat) (l:Yq0):Prop:=l.length<N/\l.length<=1000000/\ ∀ a∈l,SmA N a
def SmN (N:Nat) (l:List Yq0):Prop:=l.length<N/\l.length<=1000000/\ ∀ r∈l,SmR N r
def AjI {E:Type} (f:E->Bool): ∀(l:List E),PE (fun e (_:Unit)=>if f e then(.inl (some true):Option Bool ⊕ Unit)else .inr ()) (fun _=>some false) l ()=some (l.any f):=by
 intro l
 induction l with
 | nil=>rfl
 | cons e r ih =>
  rw[List.any_cons];unfold PE;cases h:f e with
  | true=>rfl
  | false=>exact ih
def AaN {E:Type} (f:E->Bool): ∀(l:List E),PE (fun e (_:Unit)=>if f e then(.inr ():Option Bool ⊕ Unit)else .inl (some false)) (fun _=>some true) l ()=some (l.all f):=by
 intro l
 induction l with
 | nil=>rfl
 | cons e r ih =>
  rw[List.all_cons];unfold PE;cases h:f e with
  | true=>exact ih
  | false=>rfl
def Ajb {N:Nat} {p q:Bs} (h1:p.length<N/\p.length<=1000000) (h2:q.length<N/\q.length<=1000000):XX N p q=some (Ur p==Ur q):=by unfold XX;rw[AaI h1.1 h1.2,Jr,AaI h2.1 h2.2];rfl
def Asn {N:Nat} {p q:Bs} (h1:p.length<N/\p.length<=1000000) (h2:q.length<N/\q.length<=1000000):Ri N p q=some (Ur p==Ur q):=by unfold Ri;rw[Alz h1.1 h1.2,Jr,Alz h2.1 h2.2];rfl
def atP (a e:Bs×Int×Bs):Bool:=(a.1==e.1)&&(Ur a.2.2==Ur e.2.2)
def ZG (l:Yq0) (a:Bs×Int×Bs):Bool:=l.any (atP a)
def Afl {X:Type} {b:(X->Option Bool)->Option Bool} {nx:Unit->X} {I:Unit->Prop} {c:Bool} (hI:I ()) (h: ∀ k,b k=if c then some true else k (nx ())):gU b nx I (if c then(.inl (some true):Option Bool ⊕ Unit)else .inr ()):=by
 cases c with
 | true=>exact h
 | false=>exact⟨h,hI⟩
def YR {X:Type} {b:(X->Option Bool)->Option Bool} {nx:Unit->X} {I:Unit->Prop} {c:Bool} (hI:I ()) (h: ∀ k,b k=if c then k (nx ())else some false):gU b nx I (if c then(.inr ():Option Bool ⊕ Unit)else .inl (some false)):=by
 cases c with
 | true=>exact⟨h,hI⟩
 | false=>exact h
def has_eq {N:Nat} {l:Yq0} {a:Bs×Int×Bs} (hl:SmR N l) (ha:SmA N a):WR N l a=some (ZG l a):=by
 unfold WR;try simp -zeta only[Ap]
 refine(NT (X:=Int×Bs×Int×Bs) (fun i (_:Unit)=>(i,a.1,a.2.1,a.2.2)) l dA (fun _ _=>True) (fun e (_:Unit)=>if atP a e then(.inl (some true):Option Bool ⊕ Unit)else .inr ()) (fun _=>some false) (fun i s hi _=>Afl trivial fun k=> ?_) (fun s k _=> ?_) N () trivial hl.1).trans (AjI _ l)
 .have he:SmA N (l.getD i dA):=by rw[getD_lt _ _ _ hi];exact hl.2.2 _ (Ef hi)
  have hn:=hl.2.1;dsimp only[U4];simp only[Int.toNat_natCast,Ajb ha he,Di (by omega:(i:Int)<(l.length:Int)),Di (by omega:(0:Int)<=(i:Int)),cond_true,Jv,Pn,PT,Og,Option.isSome_some,DR,Option.getD_some,w64 (x:=(i:Int)+1)];unfold atP;cases (a.1==(l.getD i dA).1)<;>cases (Ur a.2.2==Ur (l.getD i dA).2.2)<;>rfl
 .dsimp only[U4];rw[Ay8];rfl
def Aog {N:Nat} {l:Yq0} {a:Bs×Int×Bs} (hl:SmR N l) (ha:SmA N a):WY N l a=some (ZG l a):=by
 unfold WY;try simp -zeta only[Ap]
 refine(NT (X:=Int×Bs×Int×Bs) (fun i (_:Unit)=>(i,a.1,a.2.1,a.2.2)) l dA (fun _ _=>True) (fun e (_:Unit)=>if atP a e then(.inl (some true):Option Bool ⊕ Unit)else .inr ()) (fun _=>some false) (fun i s hi _=>Afl trivial fun k=> ?_) (fun s k _=> ?_) N () trivial hl.1).trans (AjI _ l)
 .have he:SmA N (l.getD i dA):=by rw[getD_lt _ _ _ hi];exact hl.2.2 _ (Ef hi)
  have hn:=hl.2.1;dsimp only[U4];simp only[Int.toNat_natCast,Asn he ha,Di (by omega:(i:Int)<(l.length:Int)),Di (by omega:(0:Int)<=(i:Int)),cond_true,Jv,Pn,PT,Og,Option.isSome_some,DR,Option.getD_some,w64 (x:=(i:Int)+1)];unfold atP;rw[BEq.comm (a:=(l.getD i dA).1),BEq.comm (a:=Ur (l.getD i dA).2.2)];cases (a.1==(l.getD i dA).1)<;>cases (Ur a.2.2==Ur (l.getD i dA).2.2)<;>rfl
 .dsimp only[U4];rw[Ay8];rfl
def bK (a b:Yq0):Bool:=(a.length==b.length)&&(List.range a.length).all fun i=>ZG b (a.getD i dA)&&ZG a (b.getD i dA)
def Aw4 (a b:Nat):((a:Int) != (b:Int))= !(a==b):=by
 by_cases h:a=b
 .subst h;simp
 .rw[Ey.2 (by omega),F5.2 h];rfl
def Afj {N:Nat} {l:Yq0} (hl:SmR N l) {i:Nat} (hi:i<l.length):SmA N (l.getD i dA):=by rw[getD_lt _ _ _ hi];exact hl.2.2 _ (Ef hi)
def same_eq {N:Nat} {a b:Yq0} (ha:SmR N a) (hb:SmR N b):aT N a b=some (bK a b):=by
 unfold aT bK;try simp -zeta only[Ap]
 rw[Aw4];by_cases hl:a.length=b.length
 .rw[show(a.length==b.length)=true from EI.2 hl,Eh,cond_false,EE];have hn:=ha.2.1;refine(NT (X:=Int) (fun i (_:Unit)=>i) (List.range a.length) 0 (fun _ _=>True) (fun i (_:Unit)=>if ZG b (a.getD i dA)&&ZG a (b.getD i dA)then(.inr ():Option Bool ⊕ Unit)else .inl (some false)) (fun _=>some true) (fun i s hi _=>YR trivial fun k=> ?_) (fun s k _=> ?_) N () trivial (by rw[DK];exact ha.1)).trans (AaN _ _)
  .rw[DK]at hi;have hr:(List.range a.length).getD i 0=i:=by simp [Dj,hi]
   rw[hr];simp only[Int.toNat_natCast,has_eq hb (Afj ha hi),has_eq ha (Afj hb (by omega:i<b.length)),Jr,Di (by omega:(i:Int)<(a.length:Int)),Di (by omega:(i:Int)<(b.length:Int)),Di (by omega:(0:Int)<=(i:Int)),cond_true,Jv,mJ,AaP,Og,Option.isSome_some,DR,Option.getD_some,w64 (x:=(i:Int)+1)];cases ZG b (a.getD i dA)<;>cases ZG a (b.getD i dA)<;>rfl
  .rw[DK,Ay8];rfl
 .rw[show(a.length==b.length)=false from F5.2 hl];rfl
def Aur {N:Nat} {a b:Yq0} (ha:SmR N a) (hb:SmR N b):V7 N a b=some (bK a b):=by
 unfold V7 bK;try simp -zeta only[Ap]
 rw[Aw4];by_cases hl:a.length=b.length
 .rw[show(a.length==b.length)=true from EI.2 hl,Eh,cond_false,EE];have hn:=ha.2.1;refine(NT (X:=Int) (fun i (_:Unit)=>i) (List.range a.length) 0 (fun _ _=>True) (fun i (_:Unit)=>if ZG b (a.getD i dA)&&ZG a (b.getD i dA)then(.inr ():Option Bool ⊕ Unit)else .inl (some false)) (fun _=>some true) (fun i s hi _=>YR trivial fun k=> ?_) (fun s k _=> ?_) N () trivial (by rw[DK];exact ha.1)).trans (AaN _ _)
  .rw[DK]at hi;have hr:(List.range a.length).getD i 0=i:=by simp [Dj,hi]
   rw[hr];simp only[Int.toNat_natCast,Aog hb (Afj ha hi),Aog ha (Afj hb (by omega:i<b.length)),Jr,Di (by omega:(i:Int)<(a.length:Int)),Di (by omega:(i:Int)<(b.length:Int)),Di (by omega:(0:Int)<=(i:Int)),cond_true,Jv,mJ,AaP,Og,Option.isSome_some,DR,Option.getD_some,w64 (x:=(i:Int)+1)];cases ZG b (a.getD i dA)<;>cases ZG a (b.getD i dA)<;>rfl
  .rw[DK,Ay8];rfl
 .rw[show(a.length==b.length)=false from F5.2 hl];rfl
def oO (a b:List Yq0):Bool:=(decide (b.length<=a.length))&&(List.range b.length).all fun i=>bK (a.getD i []) (b.getD i [])
def OW (a b:List Yq0):Bool:=(a.length==b.length)&&oO a b
def Afk {N:Nat} {l:List Yq0} (hl:SmN N l) {i:Nat} (hi:i<l.length):SmR N (l.getD i []):=by rw[getD_lt _ _ _ hi];exact hl.2.2 _ (Ef hi)
def Aqz {N:Nat} {a b:List Yq0} (ha:SmN N a) (hb:SmN N b):UE N a b=some (oO a b):=by
 unfold UE oO;try simp -zeta only[Ap]
 by_cases hl:b.length<=a.length
 .rw[Ay8,Di hl,cond_false,EE];have hn:=hb.2.1;refine(NT (X:=Int×List Yq0×List Yq0) (fun i (_:Unit)=>(i,a,b)) (List.range b.length) 0 (fun _ _=>True) (fun i (_:Unit)=>if bK (a.getD i []) (b.getD i [])then(.inr ():Option Bool ⊕ Unit)else .inl (some false)) (fun _=>some true) (fun i s hi _=>YR trivial fun k=> ?_) (fun s k _=> ?_) N () trivial (by rw[DK];exact hb.1)).trans (AaN _ _)
  .rw[DK]at hi;have hr:(List.range b.length).getD i 0=i:=by simp [Dj,hi]
   rw[hr];dsimp only[U3];simp only[Int.toNat_natCast,same_eq (Afk ha (by omega:i<a.length)) (Afk hb hi),Jr,Di (by omega:(i:Int)<(a.length:Int)),Di (by omega:(i:Int)<(b.length:Int)),Di (by omega:(0:Int)<=(i:Int)),cond_true,Jv,w64 (x:=(i:Int)+1)];cases bK (a.getD i []) (b.getD i [])<;>rfl
  .dsimp only[U3];rw[DK,Ay8];rfl
 .rw[Di,Dn hl];rfl
def Aqc {N:Nat} {a b:List Yq0} (ha:SmN N a) (hb:SmN N b):Qy N a b=some (oO a b):=by
 unfold Qy oO;try simp -zeta only[Ap]
 by_cases hl:b.length<=a.length
 .rw[Ay8,Di hl,cond_false,EE];have hn:=hb.2.1;refine(NT (X:=Int×List Yq0×List Yq0) (fun i (_:Unit)=>(i,a,b)) (List.range b.length) 0 (fun _ _=>True) (fun i (_:Unit)=>if bK (a.getD i []) (b.getD i [])then(.inr ():Option Bool ⊕ Unit)else .inl (some false)) (fun _=>some true) (fun i s hi _=>YR trivial fun k=> ?_) (fun s k _=> ?_) N () trivial (by rw[DK];exact hb.1)).trans (AaN _ _)
  .rw[DK]at hi;have hr:(List.range b.length).getD i 0=i:=by simp [Dj,hi]
   rw[hr];dsimp only[U3];simp only[Int.toNat_natCast,Aur (Afk ha (by omega:i<a.length)) (Afk hb hi),Jr,Di (by omega:(i:Int)<(a.length:Int)),Di (by omega:(i:Int)<(b.length:Int)),Di (by omega:(0:Int)<=(i:Int)),cond_true,Jv,w64 (x:=(i:Int)+1)];cases bK (a.getD i []) (b.getD i [])<;>rfl
  .dsimp only[U3];rw[DK,Ay8];rfl
 .rw[Di,Dn hl];rfl
def Aw3 (a b:Nat):((a:Int)==(b:Int))=(a==b):=by
 by_cases h:a=b
 .subst h;simp
 .rw[F5.2 (by omega: ¬(a:Int)=(b:Int)),F5.2 h]
def AcS {N:Nat} {a b:List Yq0} (ha:SmN N a) (hb:SmN N b):PV N a b=some (OW a b):=by
 unfold PV OW;try simp -zeta only[Ap]
 rw[Aqz ha hb,Aw3];simp only[Pn,PT,Og,Option.isSome_some,DR,Jv,Option.getD_some,AnJ]
def jR {N:Nat} {a b:List Yq0} (ha:SmN N a) (hb:SmN N b):LQ N a b=some (OW a b):=by
 unfold LQ OW;try simp -zeta only[Ap]
 rw[Aqc ha hb,Aw3];simp only[Pn,PT,Og,Option.isSome_some,DR,Jv,Option.getD_some,AnJ]
abbrev Ent:=Int×Int×Int×Int×List (List Att)
abbrev Lst:=Bs×Bs×List (List Att)×Int×Int×Int×Int×Bs×Bool×List Gn×Bool×Bool×Int×Bool×List Pt×List Ent×Bs
def zEn:Ent:=(0,0,0,0,[])
def zrB (gs:List Gn) (ou oc:Bool) (rs:Int) (nd:Bool):Bool:=gs.isEmpty&& !ou&& !oc&&rs==0&& !nd
def scI (hs:Bool) (gs:List Gn) (ou oc:Bool) (rs:Int) (nd:Bool):Int :=
 bif !hs then(bif zrB gs ou oc rs nd then 0 else 7)else bif (ou&&oc)||zrB gs ou oc rs nd then 7 else bif J9 .andNot .i64 rs 510 != 0 then 1 else bif decide (16<gs.length)then 2 else QZ gs false
def Y1 (r:Int):Bool:=(decide (0<=r)&&decide (r<=6))||(decide (8<=r)&&decide (r<=10))
def etB (t i:Int):Bool:=decide (t<0)||decide (t>254033452799)||decide (i< -1)||decide (i>254033452799)
def Agg (au:List (List Att)) (ba:Int) (nd:Bool) (e:Ent):Int :=
 bif decide (e.1<1)||decide (e.1>4611686018427387904)then 21 else bif etB e.2.1 e.2.2.2.1 then 12 else bif !Y1 e.2.2.1||(e.2.2.1==8&&ba== -1)then 7
 else bif e.2.2.2.2.isEmpty then 14 else bif MN e.2.2.2.2 != 0 then MN e.2.2.2.2 else bif !nd&& !OW e.2.2.2.2 au then 31 else 0
def ZE (e f:Ent):Bool:=f.1==e.1&&OW f.2.2.2.2 e.2.2.2.2
def y7 (au:List (List Att)) (ba:Int) (nd:Bool) (l:List Ent) (i:Nat):Int :=
 bif Agg au ba nd (l.getD i zEn) != 0 then Agg au ba nd (l.getD i zEn)else bif (l.take i).any (ZE (l.getD i zEn))then 10 else 0
def Aeq (au:List (List Att)) (th ne nu ba:Int) (ak:Bs) (sc:Int) (fr:List Pt):Int :=
 bif au.isEmpty then 14 else bif MN au != 0 then MN au else bif decide (th<0)||decide (th>254033452799)||decide (ne<0)||decide (ne>254033452799)||decide (th>ne)then 12
 else bif decide (nu<0)||decide (nu>4611686018427387904)||decide (ba< -1)||decide (ba>4611686018427387904)||(ba != -1&&decide (ba>=nu))then 1
 else bif decide (32<ak.length)then 2 else bif sc != 0 then sc else bif ba != -1&& !fr.isEmpty then 7 else VH fr
def Ajr (au:List (List Att)) (ba:Int) (nd:Bool) (l:List Ent):Int:=bif decide (256<l.length)then 2 else KP (y7 au ba nd l) (List.range l.length)
def fB:Lst->Int
 | (_,_,au,th,ne,nu,ba,ak,hs,gs,ou,oc,rs,nd,fr,en,_)=>bif Aeq au th ne nu ba ak (scI hs gs ou oc rs nd) fr != 0 then Aeq au th ne nu ba ak (scI hs gs ou oc rs nd) fr else Ajr au ba nd en
structure wL (N:Nat) (au:List (List Att)) (gs:List Gn) (fr:List Pt) (en:List Ent):Prop where
 s1:LX au
 s2:LZ gs
 s3: ∀ p∈fr,Nu p
 s4: ∀ e∈en,LX e.2.2.2.2
 s5:SmN N au
 s6: ∀ e∈en,SmN N e.2.2.2.2
def SmL (N:Nat):Lst->Prop
 | (_,_,au,_,_,_,_,_,_,gs,_,_,_,_,fr,en,_)=>wL N au gs fr en
section
variable (N:Nat) (hN:1048578<N)
omit hN in
def AkW (x a b:Int):OE N x a b=some (!(decide (x<a)||decide (x>b))):=by
 unfold OE;try simp only[clR]
 have h1:decide (x>=a)= !decide (x<a):=by by_cases h:x<a<;>simp [h]<;>omega
 have h2:decide (x<=b)= !decide (x>b):=by by_cases h:x>b<;>simp [h]<;>omega
 rw[h1,h2];cases decide (x<a)<;>cases decide (x>b)<;>rfl
def AuF (g:List Gn) (ou oc:Bool) (rs:Int) (nd:Bool):P6 N (g,ou,oc,rs,nd)=some (zrB g ou oc rs nd):=by
 unfold P6 zrB;try simp only[clR]
 rw[len0]
def AqK: ∀ r:Fin 11,Xo 0 (r.val:Int)=some (Y1 (r.val:Int)):=by decide +kernel
def Asq (r:Int):Xo N r=some (Y1 r):=by
 by_cases h:0<=r/\r<=10
 .have:=AqK ⟨r.toNat,by omega⟩;rw[show(((⟨r.toNat,by omega⟩:Fin 11).val:Nat):Int)=r from GY h.1]at this;exact this
 .unfold Xo Uc Y1;try simp only[clR]
  have h1:(decide (r>=1)&&decide (r<=6))=false:=by rw[EX,Ec,Ec];omega
  have h2:(decide (0<=r)&&decide (r<=6))=false:=by rw[EX,Ec,Ec];omega
  have h3:(decide (8<=r)&&decide (r<=10))=false:=by rw[EX,Ec,Ec];omega
  rw[h1,h2,h3,NP (show r≠9 by omega),NP (show r≠10 by omega),NP (show r≠0 by omega),NP (show r≠8 by omega)];rfl
def ApZ (r:Int):XP N r=some (Y1 r):=by
 unfold XP Y1;try simp only[clR]
 cases decide (r>=0)<;>cases decide (r<=6)<;>cases decide (r>=8)<;>cases decide (r<=10)<;>rfl
def AmL (x:Lst):Xm N x=some (x.2.2.2.2.2.2.2.2.1&&x.2.2.2.2.2.2.2.2.2.2.2.2.2.1):=by
 unfold Xm;try simp only[clR]
 first | done | (generalize x.2.2.2.2.2.2.2.2.1=a;cases a<;>rfl)
include hN in
theorem Auw (raw tb:Bs) (au:List (List Att)) (th ne nu ba:Int) (ak:Bs) (hs:Bool) (gs:List Gn) (ou oc:Bool) (rs:Int) (nd:Bool) (fr:List Pt) (en:List Ent) (sg:Bs) (hg:LZ gs) :
 Vl N (raw,tb,au,th,ne,nu,ba,ak,hs,gs,ou,oc,rs,nd,fr,en,sg)=some (scI hs gs ou oc rs nd):=by
 have loop:(bif decide ((gs.length:Int)>16)then some 2 else Jz (X:=Int) (Y:=Unit) (fun t68b k16 x17 =>
  bif decide (t68b<(gs.length:Int))then(chk (decide ((0:Int)<=t68b)) <|
  chk (decide (t68b<(gs.length:Int))) <|
  Jq (PW N (gs.getD t68b.toNat (0,([]:Bs),([]:List Yq0))) false) fun r73 =>
  bif (r73 != (0:Int))then(some r73)
  else(k16 (i64.wrap (t68b+(1:Int)))))
  else(x17 ()))
  N 0 (fun _=>some 0))=some (bif decide (16<gs.length)then 2 else QZ gs false):=by
  rw[show decide ((gs.length:Int)>16)=decide (16<gs.length)from S9 _ 16];by_cases h16:16<gs.length
  .rw[Di h16];rfl
  .rw[Dn h16,cond_false,cond_false];refine(WT (mk:=fun i=>(i:Int)) gs (0,[],[]) (fun g=>N8 g false) some (some 0) ?_ ?_ N).trans (first_some _)
   .intro i hi k;have h:=Yk N (gs.getD i (0,[],[])) false hN (hg _ (getD_mem _ hi));simp (disch:=omega) only[JZ,h,KU]
   .intro k;simp (disch:=omega) only[JZ]
 unfold Vl scI;try simp only[clR]
 dsimp only[JX,U6];rw[len0,loop];rw[show(gs.isEmpty&& !ou&& !oc&&rs==0&& !nd)=zrB gs ou oc rs nd from rfl];cases hz:zrB gs ou oc rs nd with
 | false =>generalize (J9 .andNot .i64 rs 510 != 0)=b;generalize decide (16<gs.length)=d;cases hs<;>cases ou<;>cases oc<;>cases b<;>cases d<;>rfl
 | true =>
  cases hs with
  | true =>generalize (J9 .andNot .i64 rs 510 != 0)=b;cases ou<;>cases oc<;>cases b<;>rfl
  | false =>unfold zrB at hz;simp only[Du,Gz,EI]at hz;obtain⟨⟨⟨⟨rfl,_⟩,_⟩,rfl⟩,_⟩:=hz;cases ou<;>cases oc<;>rfl
theorem Ass (raw tb:Bs) (au:List (List Att)) (th ne nu ba:Int) (ak:Bs) (hs:Bool) (gs:List Gn) (ou oc:Bool) (rs:Int) (nd:Bool) (fr:List Pt) (en:List Ent) (sg:Bs) (hN:1048578<N) (hg:LZ gs) :
 TG N (raw,tb,au,th,ne,nu,ba,ak,hs,gs,ou,oc,rs,nd,fr,en,sg)=some (scI hs gs ou oc rs nd):=by
 unfold TG scI;try simp only[clR]
 rw[AuF,Yd N gs hN hg];simp only[Jr,Option.isSome_some,Option.getD_some,DR,Jv];generalize zrB gs ou oc rs nd=z;generalize (J9 .andNot .i64 rs 510 != 0)=b;cases hs<;>cases ou<;>cases oc<;>cases b<;>cases z<;>rfl
def plI (l:List Ent) (e:Ent) (i:Nat):Int:=bif (l.drop i).any (ZE e)then((i+(l.drop i).findIdx (ZE e):Nat):Int)else -1
theorem Asj (l:List Ent) (e:Ent) (hl: ∀ f∈l,SmN N f.2.2.2.2) (he:SmN N e.2.2.2.2) (hn:l.length<N) (hm:l.length<=1048576):Zb N l e.2.2.2.2 e.1=some (plI l e 0):=by
 unfold Zb;try simp -zeta only[Ap]
 refine MK (F:=fun(x:Int×List Yq0)=>some (plI l e x.1.toNat)) (fun x=>0<=x.1/\x.1<=(l.length:Int)/\x.2=e.2.2.2.2) (fun x=>l.length - x.1.toNat) ?_ N (0,e.2.2.2.2) ⟨FH _,by dsimp only;omega,rfl⟩ (by dsimp only;omega);rintro ⟨t,n⟩ ⟨h0,h1,rfl⟩ k hk;dsimp only at h0 h1 hk;dsimp only[U2];by_cases h:t<l.length
 .have hi:t.toNat<l.length:=by omega
  have hd:l.drop t.toNat=l.getD t.toNat zEn::l.drop (t.toNat+1):=by rw[Ep hi,getD_lt _ _ _ hi]
  rw[Di h,cond_true,Di h0,Jv,Jv];have hf:=hl _ (getD_mem zEn hi);rw[show l.getD t.toNat (0,0,0,0,([]:List Yq0))=l.getD t.toNat zEn from rfl,AcS hf he];simp only[Option.isSome_some,Option.getD_some,DR,GV,GL,G8,Gt,Jv]
  have hp:plI l e t.toNat=bif ZE e (l.getD t.toNat zEn)then t else plI l e (t.toNat+1):=by
   unfold plI;rw[hd,List.any_cons,Gp];cases ZE e (l.getD t.toNat zEn)with
   | true=>show(((t.toNat+0:Nat):Int))=t;omega
   | false =>
    rw[EN,cond_false,cond_false];cases ((l.drop (t.toNat+1)).any (ZE e))with
    | false=>rfl
    | true=>show(((t.toNat+(_+1):Nat):Int))=((t.toNat+1+_:Nat):Int);omega
  rw[hp];have hk':=hk (t+1,e.2.2.2.2) ⟨by dsimp only;omega,by dsimp only;omega,rfl⟩ (by dsimp only;omega);rw[w64 (x:=t+1),hk',show(t+1).toNat=t.toNat+1 by omega];unfold ZE;rw[Bool.and_comm];cases ((l.getD t.toNat zEn).1==e.1)<;>cases (OW (l.getD t.toNat zEn).2.2.2.2 e.2.2.2.2)<;>rfl
 .rw[Dn h,cond_false];unfold plI;rw[FZ (by omega)];rfl
theorem AwF (l:List Ent) (e:Ent):decide (plI l e 0>=0)=l.any (ZE e):=by
 unfold plI;rw[FP];cases l.any (ZE e)with
 | true=>exact Di (by rw[cond_true];omega)
 | false=>rfl
theorem st0 {b c:Bool} {x y z:Int} {A:Option Int} (e:b=c) (hx:c=true->x≠0) (h:c=false->A=some (bif y != 0 then y else z)):(bif b then some x else A)=some (bif (bif c then x else y) != 0 then(bif c then x else y)else z):=by
 subst e;cases b with
 | true=>rw[cond_true,cond_true,show(x != 0)=true from Ey.2 (hx rfl)];rfl
 | false=>rw[cond_false,cond_false];exact h rfl
include hN in
theorem AhU (raw tb:Bs) (au:List (List Att)) (th ne nu ba:Int) (ak:Bs) (hs:Bool) (gs:List Gn) (ou oc:Bool) (rs:Int) (nd:Bool) (fr:List Pt) (en:List Ent) (sg:Bs) (h:wL N au gs fr en) (i:Nat) (hi:i<en.length) (h256:en.length<=256) :
 Vk N (raw,tb,au,th,ne,nu,ba,ak,hs,gs,ou,oc,rs,nd,fr,en,sg) (i:Int)=some (y7 au ba (hs&&nd) en i):=by
 unfold Vk y7;try simp only[clR]
 have hm:=getD_mem zEn hi;have hv:=TS N _ hN (h.s4 _ hm);have hq:=AcS (h.s6 _ hm) h.s5;have hp:=Asj N (en.take i) (en.getD i zEn) (fun f hf=>h.s6 _ (F9 hf)) (h.s6 _ hm) (by rw[DZ];omega) (by rw[DZ];omega);rw[<- xQ]at hp;have hg:decide (plI (J6 en 0 i) (en.getD i zEn) 0>=0)=(en.take i).any (ZE (en.getD i zEn)):=by rw[xQ];exact AwF (en.take i) (en.getD i zEn)
 rw[show(0,0,0,0,([]:List Yq0))=zEn from rfl,Int.toNat_natCast,Di (show(0:Int)<=(i:Int) by omega),Jv,Di (show(i:Int)<(en.length:Int) by omega),Jv,Di (show(i:Int)<=(en.length:Int) by omega),Jv];simp only[AkW,Asq,AmL,hv,hq,hp,hg,Jr,Option.isSome_some,Option.getD_some,DR,Ew,Jv,len0];generalize (en.take i).any _=D;generalize en.getD i zEn=e;unfold Agg;refine st0 (Jc _) (fun _=>by decide) fun _=> ?_;refine st0 (c:=etB e.2.1 e.2.2.2.1) ?_ (fun _=>by decide) fun _=> ?_
 .unfold etB;generalize decide (e.2.1<0)=a;generalize decide (e.2.1>254033452799)=b;generalize decide (e.2.2.2.1< -1)=c;generalize decide (e.2.2.2.1>254033452799)=d;cases a<;>cases b<;>cases c<;>cases d<;>rfl
 have hc:(!e.2.2.1==8||Y1 e.2.2.1&&e.2.2.1==8|| !Y1 e.2.2.1)=true:=by generalize (e.2.2.1==8)=a;generalize Y1 e.2.2.1=b;cases a<;>cases b<;>rfl
 rw[hc,Jv];refine st0 rfl (fun _=>by decide) fun _=>st0 rfl (fun _=>by decide) fun _=>st0 rfl (fun h=>Ey.1 h) fun _=>st0 rfl (fun _=>by decide) fun _=> ?_;cases D<;>rfl
include hN in
theorem AgA (raw tb:Bs) (au:List (List Att)) (th ne nu ba:Int) (ak:Bs) (hs:Bool) (gs:List Gn) (ou oc:Bool) (rs:Int) (nd:Bool) (fr:List Pt) (en:List Ent) (sg:Bs) (h:wL N au gs fr en) (i:Nat) (hi:i<en.length) (h256:en.length<=256) :
 TF N (raw,tb,au,th,ne,nu,ba,ak,hs,gs,ou,oc,rs,nd,fr,en,sg) (i:Int)=some (y7 au ba nd en i):=by
 unfold TF y7;try simp only[clR]
 have hm:=getD_mem zEn hi;have hv:=VJ N _ hN (h.s4 _ hm);have hq:=jR (h.s6 _ hm) h.s5;rw[show(0,0,0,0,([]:List Yq0))=zEn from rfl,Int.toNat_natCast,Di (show(0:Int)<=(i:Int) by omega),Jv,Di (show(i:Int)<(en.length:Int) by omega),Jv];simp only[ApZ,hv,hq,Jr,Option.isSome_some,Option.getD_some,DR,Ew,Jv,len0];have hc:(!(en.getD i zEn).2.2.1==8||Y1 (en.getD i zEn).2.2.1&&(en.getD i zEn).2.2.1==8|| !Y1 (en.getD i zEn).2.2.1)=true:=by generalize ((en.getD i zEn).2.2.1==8)=a;generalize Y1 (en.getD i zEn).2.2.1=b;cases a<;>cases b<;>rfl
 rw[hc,Jv];unfold Agg;refine st0 rfl (fun _=>by decide) fun _=> ?_;refine st0 rfl (fun _=>by decide) fun _=> ?_;refine st0 rfl (fun _=>by decide) fun _=>st0 rfl (fun _=>by decide) fun _=>st0 rfl (fun h=>Ey.1 h) fun _=>st0 rfl (fun _=>by decide) fun _=> ?_;refine(bV (fun j=>((j:Int),raw,tb,au,th,ne,nu,ba,ak,hs,gs,ou,oc,rs,nd,fr,en,sg,(en.getD i zEn).1,(en.getD i zEn).2.1,(en.getD i zEn).2.2.1,(en.getD i zEn).2.2.2.1,(en.getD i zEn).2.2.2.2)) (en.take i) zEn (ZE (en.getD i zEn)) (some 10) (some 0) ?_ ?_ N (by rw[DZ];omega)).trans ?_
 .intro j hj k;rw[DZ]at hj;have hji:j<i:=by omega
  have hg:(en.take i).getD j zEn=en.getD j zEn:=by simp [Dj,Gg,hji]
  have hf:=h.s6 _ (getD_mem zEn (show j<en.length by omega));rw[hg];dsimp only[U23];rw[Di (show(j:Int)<(i:Int) by omega),cond_true,Di (show(0:Int)<=(j:Int) by omega),Jv,Di (show(j:Int)<(en.length:Int) by omega),Jv,Int.toNat_natCast,jR hf (h.s6 _ hm)];simp only[Option.isSome_some,Option.getD_some,DR,Ew,GV,GL,G8,Gt,Jv];rw[w64];unfold ZE;generalize en.getD j zEn=f;generalize en.getD i zEn=e;rfl
 .intro k;rw[DZ];dsimp only[U23];rw[Ay8,cond_false]
 .cases (en.take i).any _<;>rfl
theorem AwQ {hs:Bool} {gs:List Gn} {ou oc:Bool} {rs:Int} {nd:Bool} (h:scI hs gs ou oc rs nd=0):(hs&&nd)=nd:=by
 cases hs with
 | true=>rfl
 | false =>
  unfold scI at h;cases hz:zrB gs ou oc rs nd with
  | false=>rw[hz]at h;cases h
  | true=>unfold zrB at hz;cases nd with
   | false=>rfl
   | true=>simp at hz
theorem Avr (N:Nat) (l:List Pt) (hN:1048578<N) (hs: ∀ p∈l,Nu p):MJ N l=some (VH l):=VM N l hN hs
theorem AvP (N:Nat) (l:List Pt) (hN:1048578<N) (hs: ∀ p∈l,Nu p):Oz N l=some (VH l):=XM N l hN hs
include hN in
theorem xG (x:Lst) (hx:SmL N x):WL N x=some (fB x):=by
 obtain⟨raw,tb,au,th,ne,nu,ba,ak,hs,gs,ou,oc,rs,nd,fr,en,sg⟩:=x;have h:wL N au gs fr en:=hx;unfold WL fB Aeq;try simp only[clR]
 rw[TS N au hN h.s1,Avr N fr hN h.s3,Auw N hN _ _ _ _ _ _ _ _ _ _ _ _ _ _ _ _ _ h.s2,len0,SE];simp only[AkW,Jr,Option.isSome_some,Option.getD_some,DR,Ew,Jv];refine st0 rfl (fun _=>by decide) fun _=>st0 rfl (fun h=>Ey.1 h) fun _=> ?_;refine st0 (c:=decide (th<0)||decide (th>254033452799)||decide (ne<0)||decide (ne>254033452799)||decide (th>ne)) ?_ (fun _=>by decide) fun _=> ?_
 .generalize decide (th<0)=a;generalize decide (th>254033452799)=b;generalize decide (ne<0)=c;generalize decide (ne>254033452799)=d;cases a<;>cases b<;>cases c<;>cases d<;>rfl
 have hc:(!ba != -1|| !(!!(decide (nu<0)||decide (nu>4611686018427387904))|| !!(decide (ba< -1)||decide (ba>4611686018427387904)))&&ba != -1||(!!(decide (nu<0)||decide (nu>4611686018427387904))|| !!(decide (ba< -1)||decide (ba>4611686018427387904))))=true:=by generalize (ba != -1)=a;generalize (!!(decide (nu<0)||decide (nu>4611686018427387904))|| !!(decide (ba< -1)||decide (ba>4611686018427387904)))=b;cases a<;>cases b<;>rfl
 rw[hc,Jv];refine st0 (c:=decide (nu<0)||decide (nu>4611686018427387904)||decide (ba< -1)||decide (ba>4611686018427387904)||(ba != -1&&decide (ba>=nu))) ?_ (fun _=>by decide) fun _=> ?_
 .generalize decide (nu<0)=a;generalize decide (nu>4611686018427387904)=b;generalize decide (ba< -1)=c;generalize decide (ba>4611686018427387904)=d;cases a<;>cases b<;>cases c<;>cases d<;>rfl
 refine st0 (show decide ((ak.length:Int)>32)=decide (32<ak.length)from S9 _ 32) (fun _=>by decide) fun _=> ?_;refine st0 rfl (fun h=>Ey.1 h) fun hsc=> ?_;have hsc:scI hs gs ou oc rs nd=0:=by simpa using hsc
 refine st0 rfl (fun _=>by decide) fun _=> ?_;generalize VH fr=P;by_cases hP:P=0
 .subst hP;rw[show((0:Int) != 0)=false from rfl,cond_false,cond_false];unfold Ajr;rw[show decide ((en.length:Int)>256)=decide (256<en.length)from S9 _ 256];by_cases h256:256<en.length
  .rw[Di h256];rfl
  rw[Dn h256,cond_false,cond_false];refine(aV (mk:=fun i=>((i:Int),raw,tb,au,th,ne,nu,ba,ak,hs,gs,ou,oc,rs,nd,fr,en,sg)) en.length (y7 au ba nd en) some (some 0) ?_ ?_ N).trans (first_some _)
  .intro i hi k;dsimp only[U18];rw[Di,cond_true,AhU N hN _ _ _ _ _ _ _ _ _ _ _ _ _ _ _ _ _ h i hi (by omega),AwQ hsc,Jr,w64];rfl
  .intro k;dsimp only[U18];rw[Ay8,cond_false]
 .rw[show(P != 0)=true from Ey.2 hP];rfl
include hN in
theorem wH (x:Lst) (hx:SmL N x):Rl N x=some (fB x):=by
 obtain⟨raw,tb,au,th,ne,nu,ba,ak,hs,gs,ou,oc,rs,nd,fr,en,sg⟩:=x;have h:wL N au gs fr en:=hx;unfold Rl fB Aeq;try simp only[clR]
 rw[VJ N au hN h.s1,AvP N fr hN h.s3,Ass N _ _ _ _ _ _ _ _ _ _ _ _ _ _ _ _ _ hN h.s2,len0,SE];simp only[Jr];refine st0 rfl (fun _=>by decide) fun _=>st0 rfl (fun h=>Ey.1 h) fun _=> ?_;refine st0 rfl (fun _=>by decide) fun _=> ?_;have hc:(!ba != -1|| !(decide (nu<0)||decide (nu>4611686018427387904)||decide (ba< -1)||decide (ba>4611686018427387904))&&ba != -1||(decide (nu<0)||decide (nu>4611686018427387904)||decide (ba< -1)||decide (ba>4611686018427387904)))=true:=by generalize (ba != -1)=a;generalize (decide (nu<0)||decide (nu>4611686018427387904)||decide (ba< -1)||decide (ba>4611686018427387904))=b;cases a<;>cases b<;>rfl
 rw[hc,Jv];refine st0 rfl (fun _=>by decide) fun _=> ?_;refine st0 (show decide ((ak.length:Int)>32)=decide (32<ak.length)from S9 _ 32) (fun _=>by decide) fun _=> ?_;refine st0 rfl (fun h=>Ey.1 h) fun hsc=> ?_;have hsc:scI hs gs ou oc rs nd=0:=by simpa using hsc
 refine st0 rfl (fun _=>by decide) fun _=> ?_;generalize VH fr=P;by_cases hP:P=0
 .subst hP;rw[show((0:Int) != 0)=false from rfl,cond_false,cond_false];unfold Ajr;rw[show decide ((en.length:Int)>256)=decide (256<en.length)from S9 _ 256];by_cases h256:256<en.length
  .rw[Di h256];rfl
  rw[Dn h256,cond_false,cond_false];refine(aV (mk:=fun i=>((i:Int),raw,tb,au,th,ne,nu,ba,ak,hs,gs,ou,oc,rs,nd,fr,en,sg)) en.length (y7 au ba nd en) some (some 0) ?_ ?_ N).trans (first_some _)
  .intro i hi k;dsimp only[U18];rw[Di,cond_true,AgA N hN _ _ _ _ _ _ _ _ _ _ _ _ _ _ _ _ _ h i hi (by omega),Jr,w64];rfl
  .intro k;dsimp only[U18];rw[Ay8,cond_false]
 .rw[show(P != 0)=true from Ey.2 hP];rfl
end
def u8n {n:Nat} (h:n<256):(UInt8.ofNat n).toNat=n:=by rw[Fp];omega
def u8m (n:Nat):(UInt8.ofNat n).toNat=n % 256:=Fp
def Ar1 (t n:Nat) (s:Bs) (ht:t<256) (h31:t % 32≠31) (hn:n<=131072):Sp.head (UInt8.ofNat t::(Sp.OM n++s))=(0,1+(Sp.OM n).length,n):=by
 have h1: ¬(UInt8.ofNat t).toNat % 32=31:=by rw[u8n ht];exact h31
 unfold Sp.OM;by_cases a1:n<128
 .rw[Dp a1];have e:=u8n (show n<256 by omega);unfold Sp.head;dsimp only[List.cons_append,List.nil_append];rw[Dk h1,e,Dp a1];rfl
 .rw[Dk a1];by_cases a2:n<256
  .rw[Dp a2];have e:=u8n a2;have hb:Sp.beNat (((UInt8.ofNat n)::s).take 1)=n:=by show 0*256+(UInt8.ofNat n).toNat=n;omega
   unfold Sp.head;dsimp only[List.cons_append,List.nil_append];rw[Dk h1,Dk (by decide),Dk (by decide),show(129:UInt8).toNat - 128=1 from rfl];rw[hb,Dk (by simp),Dk (by rw[show Sp.leastOf 1=128 from rfl];omega)];rfl
  .rw[Dk a2];by_cases a3:n<65536
   .rw[Dp a3];have e1:=u8m (n / 256);have e2:=u8m n;have hb:Sp.beNat (((UInt8.ofNat (n / 256))::UInt8.ofNat n::s).take 2)=n:=by show(0*256+(UInt8.ofNat (n / 256)).toNat)*256+(UInt8.ofNat n).toNat=n;omega
    unfold Sp.head;dsimp only[List.cons_append,List.nil_append];rw[Dk h1,Dk (by decide),Dk (by decide),show(130:UInt8).toNat - 128=2 from rfl];rw[hb,Dk (by simp),Dk (by rw[show Sp.leastOf 2=256 from rfl];omega)];rfl
   .rw[Dk a3];have e0:=u8m (n / 65536);have e1:=u8m (n / 256);have e2:=u8m n;have hb:Sp.beNat (((UInt8.ofNat (n / 65536))::(UInt8.ofNat (n / 256))::UInt8.ofNat n::s).take 3)=n:=by show((0*256+(UInt8.ofNat (n / 65536)).toNat)*256+(UInt8.ofNat (n / 256)).toNat)*256+(UInt8.ofNat n).toNat=n;omega
    unfold Sp.head;dsimp only[List.cons_append,List.nil_append];rw[Dk h1,Dk (by decide),Dk (by decide),show(131:UInt8).toNat - 128=3 from rfl];rw[hb,Dk (by simp),Dk (by rw[show Sp.leastOf 3=65536 from rfl];omega)];rfl
section
variable (t:Nat) (c r:Bs) (ht:t<256) (h31:t % 32≠31) (hc:c.length<=131072)
include ht h31 hc
theorem AvK:Sp.rd (Sp.elem t c++r)=(0,1+(Sp.OM c.length).length,c.length):=by
 have h:Sp.elem t c++r=UInt8.ofNat t::(Sp.OM c.length++(c++r)):=by unfold Sp.elem;simp
 unfold Sp.rd;rw[h,Ar1 t c.length (c++r) ht h31 hc];rw[Dk];rintro ⟨_,h2⟩;simp only[List.length_cons,Dx]at h2;omega
theorem Asp:Sp.err (Sp.elem t c++r)=0/\PO (Sp.elem t c++r)=((t:Int),c,Sp.elem t c)/\Sp.rest (Sp.elem t c++r)=r:=by
 have h:=AvK t c r ht h31 hc;have hl:(Sp.elem t c).length=1+(Sp.OM c.length).length+c.length:=by unfold Sp.elem;simp;omega
 have hd:(Sp.elem t c++r).drop (1+(Sp.OM c.length).length)=c++r:=by
  have h2:Sp.elem t c++r=(UInt8.ofNat t::Sp.OM c.length)++(c++r):=by unfold Sp.elem;simp
  rw[h2];exact List.drop_left' (by simp;omega)
 refine⟨by unfold Sp.err;rw[h],?_,?_⟩
 .unfold PO Sp.content Sp.raw;rw[h];dsimp only;rw[hd,GN,<- hl,GN];rw[show Sp.tag (Sp.elem t c++r)=t from u8n ht]
 .unfold Sp.rest;rw[h];dsimp only;rw[<- hl,Gx]
end
structure Fine (p:Nat×Bs):Prop where
 lt:p.1<256
 low:p.1 % 32≠31
 len:p.2.length<=131072
def Z9 {b:Bool} {x y:Int} (h:(bif b then x else y)=0) (hx:x≠0):b=false/\y=0:=by
 cases b with
 | true=>exact absurd h hx
 | false=>exact⟨rfl,h⟩
def AjO {e y:Int} (h:(bif e != 0 then e else y)=0):e=0/\y=0:=by
 by_cases he:e=0
 .subst he;exact⟨rfl,h⟩
 .rw[show(e != 0)=true from Ey.2 he]at h;exact absurd h he
def Adu (d:Nat) (s:Bs):Prop:=Sp.within (s.length+1) d s=0
def Akp (t:Nat) (c:Bs):c.length<(Sp.elem t c).length:=by unfold Sp.elem;simp;omega
def AhD {t:Nat} {c r:Bs} (h:Fine (t,c)):Sp.err (Sp.elem t c++r)=0/\Sp.tag (Sp.elem t c++r)=t/\Sp.content (Sp.elem t c++r)=c/\Sp.rest (Sp.elem t c++r)=r:=by obtain⟨h1,h2,h3⟩:=Asp t c r h.lt h.low h.len;unfold PO at h2;injection h2 with h4 h5;injection h5 with h5 h6;exact⟨h1,by exact_mod_cast h4,h5,h3⟩
def OkE (d:Nat) (s:Bs):Prop:= ∃ t c,s=Sp.elem t c/\Fine (t,c)/\(Sp.cons t=true->Adu (d+1) c)
def jH {d:Nat} (hd:d<16): ∀ l:List Bs,(∀ s∈l,OkE d s)->Adu d l.flatten:=by
 intro l
 induction l with
 | nil=>intro _;exact Sp.Aq1 _ _
 | cons s l ih =>
  intro hl;obtain⟨t,c,rfl,h,hc⟩:=hl s Dv;have hr:=ih fun s hs=>hl s (Dw _ hs);rw[List.flatten_cons];generalize l.flatten=r at hr ⊢;obtain⟨h1,h2,h3,h4⟩:=AhD (r:=r) h;have hl:=Akp t c;have hlen:(Sp.elem t c++r).length=(Sp.elem t c).length+r.length:=Dx;unfold Adu;rw[Sp.Aco _ d _ (by unfold Sp.elem;simp) h1 (by omega),h4]
  .rw[Vx _ (r.length+1) d r (by omega) (by omega)];exact hr
  .rw[h2,h3];unfold Sp.inner;by_cases hq:Sp.cons t=true
   .rw[Dp hq,Vx _ (c.length+1) (d+1) c (by omega) (by omega)];exact hc hq
   .rw[Dk hq]
def Aoa {s:Bs} (h:OkE 0 s):Sp.chk s=0:=by
 obtain⟨t,c,rfl,h,hc⟩:=h;obtain⟨h1,h2,h3,h4⟩:=AhD (r:=[]) h;rw[En]at h1 h2 h3 h4;have hl:=Akp t c;have ho:Sp.Qq (Sp.elem t c)=0:=by unfold Sp.Qq;rw[h1,h4,Dk (by decide),Dp rfl]
 unfold Sp.chk;rw[ho,Dk (by decide),h2,h3];unfold Sp.inner;by_cases hq:Sp.cons t=true
 .rw[Dp hq,Vx _ (c.length+1) 1 c (by omega) (by omega)];exact hc hq
 .rw[Dk hq]
def AcW {d t:Nat} {c:Bs} (ht:t<256) (h31:t % 32≠31) (hc:Sp.cons t=false) (hl:c.length<=131072):OkE d (Sp.elem t c):=⟨t,c,rfl,⟨ht,h31,hl⟩,fun h=>by rw[hc]at h;cases h⟩
def nT {d t:Nat} {c:Bs} (ht:t<256) (h31:t % 32≠31) (hl:c.length<=131072) (h:Adu (d+1) c):OkE d (Sp.elem t c):=⟨t,c,rfl,⟨ht,h31,hl⟩,fun _=>h⟩
def AuX {d:Nat} (hd:d<16) {s:Bs} (h:OkE d s):Adu d s:=by have:=jH hd [s] (fun x hx=>by rw[DT.1 hx];exact h);rwa [List.flatten_cons,List.flatten_nil,En]at this
def Avn {d:Nat} (hd:d<10) {e:Att} (h:AaO e):OkE d (Uh e):=by
 have h1:=(WX h.1).2;have h2:=h.2.2;obtain⟨k1,k2,k3⟩:=AcH h.2.1;have l1:=Sp.JO 6 (NJ e.1);have l2:=Sp.JO e.2.1.toNat e.2.2;refine nT (by omega) (by omega) (by rw[Dx];omega) ?_
 have:=jH (d:=d+1) (by omega) [Sp.elem 6 (NJ e.1),Sp.elem e.2.1.toNat e.2.2] (fun x hx=>by
  rcases D6.1 hx with rfl | hx
  .exact AcW (by omega) (by omega) (by decide) (by omega)
  .rw[DT.1 hx];refine AcW k2 k3 ?_ (by omega);rcases h.2.1 with h | h | h<;>rw[h]<;>decide)
 rwa [Aei]at this
def AvL {d:Nat} (hd:d<9) {r:List Att} (h:Ul r=0):OkE d (XF r):=by obtain⟨_,h4,ha⟩:=AeZ h;have hl:=(rX h).2;refine nT (by omega) (by omega) (by rw[jJ];omega) ?_;refine jH (by omega) _ fun s hs=> ?_;rw[List.mem_mergeSort]at hs;obtain⟨e,he,rfl⟩:=DF.1 hs;exact Avn (by omega) (ha e he)
def AwA {d:Nat} (hd:d<8) {n:List (List Att)} (h:MN n=0):OkE d (nmB n):=by obtain⟨h8,hr⟩:=rC h;refine nT (by omega) (by omega) (by have:=(WW h).2;omega) ?_;refine jH (by omega) _ fun s hs=> ?_;obtain⟨r,hr',rfl⟩:=DF.1 hs;exact AvL (by omega) (hr r hr')
def AnO {n:List (List Att)} (h:MN n=0):Sp.chk (Sp.elem 48 (Ol (4,[],n)))=0/\(Sp.elem 48 (Ol (4,[],n))).length<=4503:=by have hl:=Yj (dN h);have hn:=(WW h).1;refine⟨Aoa (nT (by omega) (by omega) (by omega) (AuX (by omega) ?_)),by have:=Sp.JO 48 (Ol (4,[],n));omega⟩;exact nT (t:=164) (c:=nmB n) (by omega) (by omega) (by omega) (AuX (by omega) (AwA (by omega) h))
def Ada {t:Nat} {c:Bs} (ht:t<256) (h31:t % 32≠31) (hc:Sp.cons t=false) (hl:c.length<=131072:=by omega):Sp.chk (Sp.elem t c)=0:=Aoa (AcW ht h31 hc hl)
section
variable (N:Nat) (hN:1048578<N)
def Rx (t:Int):Bs:=((MF N t).getD ([],0)).1
include hN
theorem PG {t:Int} (h0:0<=t) (h1:t<=254033452799):MF N t=some (Rx N t,0)/\Lc N t=some (Rx N t,0)/\(Rx N t).length<=30/\Sp.chk (Rx N t)=0:=by
 obtain⟨b,e1,e2,e3,k,c,e4,e5,e6⟩:=As6 N hN t h0 h1;unfold Rx;rw[e1];refine⟨rfl,e2,e3,?_⟩;show Sp.chk b=0;rw[e4];rcases e5 with rfl | rfl
 .exact Ada (by omega) (by omega) (by decide)
 .exact Ada (by omega) (by omega) (by decide)
omit hN in
theorem AuN {x:Ex} (h1:SX x.1=true) (h2:x.2.2.length<=5000): ∃ b,OO x=some b/\b.length<=x.2.2.length+90:=by
 have a1:=(WX h1).2;have a2:=Sp.JO 6 (NJ x.1);have a3:(bif x.2.1 then Sp.elem 1 [255]else([]:Bs)).length<=6:=by cases x.2.1<;>decide
 have a4:=Sp.JO 4 x.2.2;have a5:=Sp.JO 48 (XB x (Sp.elem 4 x.2.2));have a6:(XB x (Sp.elem 4 x.2.2)).length<=x.2.2.length+80:=by unfold XB;rw[Dx,Dx];omega
 refine⟨Sp.elem 48 (XB x (Sp.elem 4 x.2.2)),?_,by omega⟩;unfold OO;rw[RY];show KJ 48 (XB x (Sp.elem 4 x.2.2))=_;rw[RY]
omit hN in
theorem Arp {l:List Ex} (h0:l≠ []) (h24:l.length<=24) (hn:(l.map (·.1)).Nodup) (h: ∀ x∈l,SX x.1=true/\Sp.chk x.2.2=0):UG l=0:=by
 unfold UG;rw[show l.isEmpty=false by cases l with | nil=>exact absurd rfl h0 | cons _ _=>rfl,cond_false,Ay8,cond_false];refine Art fun i hi=> ?_;have hi:=GK.1 hi;obtain⟨h1,h2⟩:=h _ (getD_mem zE hi);unfold exI;rw[h1,h2]
 have hd:(l.take i).any (Q8 (l.getD i zE).1)=false:=by
  rw[Fe];intro x hx hk;obtain⟨j,hj,rfl⟩:=List.mem_take_iff_getElem.1 hx;unfold Q8 at hk;rw[EI,getD_lt _ _ _ hi]at hk;have hji:j<i:=by omega
  have:=List.pairwise_iff_getElem.1 hn j i (by rw[D5];omega) (by rw[D5];omega) hji;rw[FX,FX]at this;exact this hk
 rw[hd];rfl
omit hN in
theorem Avz {l:List Ex} (h0:UG l=0) (h3:l.length<=3) (h: ∀ x∈l,x.2.2.length<=5000):(Oi l).2=0/\(Oi l).1.length<=16000:=by
 obtain⟨_,_,hv⟩:=Agi h0;have ha:l.any (fun x=>(OO x).isNone)=false:=by rw[Fe];intro x hx hn;obtain⟨b,hb,_⟩:=AuN (hv x hx) (h x hx);rw[hb]at hn;cases hn
 have hl:=Oa (g:=fun x=>(OO x).getD []) (M:=5090) (l:=l) (fun x hx=>by obtain⟨b,hb,hb2⟩:=AuN (hv x hx) (h x hx);have:=h x hx;rw[hb];show b.length<=5090;omega);unfold Oi kN;rw[h0,ha,RY];have:=Sp.JO 48 (l.map fun x=>(OO x).getD []).flatten;exact⟨rfl,by show(Sp.elem 48 _).length<=16000;omega⟩
def idR:Bs:=[50,46,53,46,50,57,46,50,49]
def idV:Bs:=[50,46,53,46,50,57,46,50,52]
def idC:Bs:=[50,46,53,46,50,57,46,50,57]
structure iQ (e:Ent):Prop where
 se:1<=e.1/\e.1<=4611686018427387904
 tm:0<=e.2.1/\e.2.1<=254033452799
 iv: -1<=e.2.2.2.1/\e.2.2.2.1<=254033452799
 re:0<=e.2.2.1/\e.2.2.1<=10
 nm:MN e.2.2.2.2=0
omit hN in
theorem Avy {au:List (List Att)} {ba:Int} {nd:Bool} {e:Ent} (h:Agg au ba nd e=0):iQ e:=by unfold Agg at h;obtain⟨h1,h⟩:=Z9 h (by decide);obtain⟨h2,h⟩:=Z9 h (by decide);obtain⟨h3,h⟩:=Z9 h (by decide);obtain⟨_,h⟩:=Z9 h (by decide);obtain⟨h4,h⟩:=AjO h;unfold etB at h2;unfold Y1 at h3;simp only[Gv,Ec,Jh,Eo,Du,Dz]at h1 h2 h3;exact⟨by omega,by omega,by omega,by omega,h4⟩
def OI (e:Ent) (cur:List (List Att)):List Ex :=
 (bif e.2.2.1 != 0 then [(idR,false,Sp.elem 10 (Sp.LC e.2.2.1))]else [])++((bif e.2.2.2.1 != -1 then [(idV,false,Rx N e.2.2.2.1)]else [])++bif OW e.2.2.2.2 cur then []else [(idC,true,Sp.elem 48 (Ol (4,[],e.2.2.2.2)))])
def dV (e:Ent) (cur:List (List Att)):Bs:=bif (OI N e cur).isEmpty then []else(Oi (OI N e cur)).1
def dS (e:Ent) (cur:List (List Att)):Bs:=Sp.elem 48 (ZI e.1++(Rx N e.2.1++dV N e cur))
theorem Agh {e:Ent} (h:iQ e) (cur:List (List Att)):(∀ x∈OI N e cur,VT x)/\(OI N e cur≠ []->(Oi (OI N e cur)).2=0)/\(dV N e cur).length<=16000:=by
 have p1:=Abh e.2.2.1 (by have:=h.re;omega) (by have:=h.re;omega);have p2:=Sp.JO 10 (Sp.LC e.2.2.1);have hd:=AnO h.nm;have o1:SX idR=true:=by kernel_rfl
 have o2:SX idV=true:=by kernel_rfl
 have o3:SX idC=true:=by kernel_rfl
 have hx: ∀ x∈OI N e cur,(SX x.1=true/\Sp.chk x.2.2=0)/\x.2.2.length<=5000/\x.1.length=9:=by
  intro x hx;unfold OI at hx;rcases DJ.1 hx with hx | hx
  .cases hq:e.2.2.1 != 0 with
   | false=>rw[hq]at hx;cases hx
   | true =>rw[hq,cond_true,DT]at hx;rw[hx];exact⟨⟨o1,Ada (by omega) (by omega) (by decide)⟩,by dsimp only;omega,rfl⟩
  .rcases DJ.1 hx with hx | hx
   .cases hq:e.2.2.2.1 != -1 with
    | false=>rw[hq]at hx;cases hx
    | true =>have hne:=Ey.1 hq;have ht:=PG N hN (t:=e.2.2.2.1) (by have:=h.iv;omega) h.iv.2;rw[hq,cond_true,DT]at hx;rw[hx];exact⟨⟨o2,ht.2.2.2⟩,by have:=ht.2.2.1;dsimp only;omega,rfl⟩
   .cases hq:OW e.2.2.2.2 cur with
    | true=>rw[hq]at hx;cases hx
    | false =>rw[hq,cond_false,DT]at hx;rw[hx];exact⟨⟨o3,hd.1⟩,by have:=hd.2;dsimp only;omega,rfl⟩
 have hl:(OI N e cur).length<=3:=by unfold OI;cases e.2.2.1 != 0<;>cases e.2.2.2.1 != -1<;>cases OW e.2.2.2.2 cur<;>simp
 have hn:((OI N e cur).map (·.1)).Nodup:=by unfold OI;cases e.2.2.1 != 0<;>cases e.2.2.2.1 != -1<;>cases OW e.2.2.2.2 cur<;>simp only[cond_true,cond_false,List.nil_append,En,Fg,Em,List.cons_append]<;>decide
 have key:OI N e cur≠ []->(Oi (OI N e cur)).2=0/\(Oi (OI N e cur)).1.length<=16000:=fun h0=>Avz (Arp h0 (by omega) hn fun x hx'=>(hx x hx').1) hl fun x hx'=>(hx x hx').2.1;refine⟨fun x hx'=>⟨?_,?_⟩,fun h0=>(key h0).1,?_⟩
 .have:=(hx x hx').2.2;unfold PL;omega
 .have:=(hx x hx').2.1;unfold PL;omega
 .unfold dV;cases hq:(OI N e cur).isEmpty with
  | true=>exact EG _
  | false=>exact(key (fun h=>by rw[h]at hq;cases hq)).2
theorem dU {e:Ent} (h:iQ e) (cur:List (List Att)):(dS N e cur).length<=16100/\(ZI e.1++(Rx N e.2.1++dV N e cur)).length<=16090:=by
 have a1:=(QD N hN e.1 (by have:=h.se;omega) (by have:=h.se;omega)).2.2;have a2:=(PG N hN h.tm.1 h.tm.2).2.2.1;have a3:=(Agh N hN h cur).2.2;have a4:=Sp.JO 48 (ZI e.1++(Rx N e.2.1++dV N e cur));have a5:(ZI e.1++(Rx N e.2.1++dV N e cur)).length<=16090:=by rw[Dx,Dx];omega
 exact⟨by unfold dS;omega,a5⟩
end
def takeB (N:Nat) (b:Bool) (s:Bs) (e:Int):JV N b s e=some (s,b||(e != 0)):=by
 rw[lM];by_cases h:e=0
 .subst h;rfl
 .rw[Di h,dF h]
section
variable (N:Nat) (hN:1048578<N)
include hN
theorem Avd (b:Bool) (s:Bs) (h:s.length<=131072):Ko N b [s]=some (Sp.elem 48 s,b):=by rw[lK N b _ (by simp;omega),JR,RY h];show some (Sp.elem 48 s,b||false)=_;rw[ET]
theorem Ank (b:Bool) (e:Ent) (cur:List (List Att)) (h:iQ e) (hs:LX e.2.2.2.2) (h1:SmN N e.2.2.2.2) (h2:SmN N cur):Xn N b e cur=some (dS N e cur,b):=by
 obtain⟨hx,hz,hl⟩:=Agh N hN h cur;have hB:=dU N hN h cur;obtain⟨se,tm,re,iv,nm⟩:=e;obtain⟨q1,q2,q3,q4,q5⟩:=h;dsimp only at q1 q2 q3 q4 q5 hs h1;have hd:=AnO q5;have hg:=Yj (dN q5);have p1:=Abh re (by omega) (by omega);have w1: ∀ b,JJ N b 10 [Sp.LC re]=some (Sp.elem 10 (Sp.LC re),b):=fun b=>by have:=ZT N 10 b [Sp.LC re] (by omega) (by omega) hN (by simp) (by rw[JR];omega);rw[JR]at this;exact this
 have w2: ∀ b,Ko N b [Ol (4,[],nm)]=_:=fun b=>Avd N hN b _ (by omega);have g1:Om N (4,[],nm) false=some (Ol (4,[],nm),0):=by rw[Xu N (4,[],nm) false hN (qC hs)];unfold qL;rw[dN q5];rfl
 have hm:=AcS h1 h2;have hX:=uJ N hN (OI N (se,tm,re,iv,nm) cur) hx
 have fin: ∀ b,(Jq (MX N b se) fun r71=>Jq (MF N tm) fun r75=>Jq (JV N r71.2 r75.1 r75.2) fun r78 =>
  Jq (Ko N r78.2 ([r71.1,r78.1,dV N (se,tm,re,iv,nm) cur]:List Bs)) fun r81=>some (r81.1,r81.2))=some (dS N (se,tm,re,iv,nm) cur,b):=by
  intro b;rw[(QD N hN se).1 b,Jr,(PG N hN q2.1 q2.2).1,Jr,takeB,Jr];dsimp only;rw[lK N _ _ (by simp;omega),flat3,RY (by have:=hB.2;dsimp only at this;omega),Jr];show some (_,(b||false)||false)=some (_,b);rw[ET,ET];rfl
 have last: ∀ b l,l=OI N (se,tm,re,iv,nm) cur->(JX (α :=Bs×Bool×Int×Int×Int×Int×List Yq0) (fun j4 =>
  bif decide ((l.length:Int)>(0:Int))then(Jq (Vr N l) fun r63 =>
  Jq (JV N b r63.1 r63.2) fun r66 =>
  j4 (r66.1,r66.2,se,tm,re,iv,nm))
  else(j4 (([]:Bs),b,se,tm,re,iv,nm)))
  (U7 fun t9d b0_0d b33792_0d b33792_1d b33792_2d b33792_3d b33792_4d =>
  Jq (MX N b0_0d b33792_0d) fun r71 =>
  Jq (MF N b33792_1d) fun r75 =>
  Jq (JV N r71.2 r75.1 r75.2) fun r78 =>
  Jq (Ko N r78.2 ([r71.1,r78.1,t9d]:List Bs)) fun r81 =>
  some (r81.1,r81.2)))=some (dS N (se,tm,re,iv,nm) cur,b):=by
  intro b l hl';rw[NU,SE,hl',hX];have hE:dV N (se,tm,re,iv,nm) cur=bif (OI N (se,tm,re,iv,nm) cur).isEmpty then []else(Oi (OI N (se,tm,re,iv,nm) cur)).1:=rfl;cases hq:(OI N (se,tm,re,iv,nm) cur).isEmpty with
  | true =>rw[hq,cond_true]at hE;rw[Eh,cond_false,<- hE];exact fin b
  | false =>rw[hq,cond_false]at hE;rw[DY,cond_true,Jr,takeB,Jr,hz (fun h=>by rw[h]at hq;cases hq),<- hE];refine(fin _).trans ?_;rw[show((0:Int) != 0)=false from rfl,ET]
 have hE2:OI N (se,tm,re,iv,nm) cur=(bif re != 0 then [(idR,false,Sp.elem 10 (Sp.LC re))]else [])++((bif iv != -1 then [(idV,false,Rx N iv)]else [])++bif OW nm cur then []else [(idC,true,Sp.elem 48 (Ol (4,[],nm)))]):=rfl;rw[hE2]at last;clear hX hx hz hl hB hE2;unfold Xn;try simp -zeta only[Ap]
 try dsimp only
 have tE: ∀ b:Bool,(b||((0:Int) != 0))=b:=fun b=>by rw[show((0:Int) != 0)=false from rfl,ET]
 simp only[JX,U7,takeB,Jr]at last;have n4: ∀ l:List Ex,l.length<=100->decide ((l.length+1)*41<=140737488355328)=true:=fun l h=>Di;have pI:Pz N re=some (Sp.LC re):=Zo N re (by omega) (by omega) (by omega);cases hc2:iv != -1 with
 | false =>
  cases hc1:re != 0<;>cases hc3:OW nm cur <;>
   (simp (disch:=simp) only[JX,U8,U7,cond_true,cond_false,hm,hc1,hc2,hc3,Jr,Eh,DY,pI,w1,takeB,tE,g1,w2,n4,Jv]
    refine last b _ ?_;rw[hc1,hc2,hc3];rfl)
 | true =>
  have tI:MF N iv=some (Rx N iv,0):=(PG N hN (t:=iv) (by have:=Ey.1 hc2;omega) q3.2).1
  cases hc1:re != 0<;>cases hc3:OW nm cur <;>
   (simp (disch:=simp) only[JX,U8,U7,cond_true,cond_false,hm,hc1,hc2,hc3,Jr,Eh,DY,pI,w1,takeB,tE,g1,w2,n4,Jv,tI]
    refine last b _ ?_;rw[hc1,hc2,hc3];rfl)
theorem AvO (t:Nat) (v:Int) (ht:t<256) (h31:t % 32≠31) (h1: -9223372036854775808<=v) (h2:v<=9223372036854775807):LH N (t:Int) v=some (Sp.elem t (Sp.LC v)):=by have hl:=Abh v h1 h2;unfold LH;rw[aI N v (by omega),Jr,RX N t _ ht h31 hN (by simp) (by rw[JR];omega),Jr,JR]
theorem Asr (e:Ent) (cur:List (List Att)) (h:iQ e) (hs:LX e.2.2.2.2) (h1:SmN N e.2.2.2.2) (h2:SmN N cur):YO N e cur=some (dS N e cur):=by
 obtain⟨hx,hz,hl⟩:=Agh N hN h cur;have hB:=dU N hN h cur;obtain⟨se,tm,re,iv,nm⟩:=e;obtain⟨q1,q2,q3,q4,q5⟩:=h;dsimp only at q1 q2 q3 q4 q5 hs h1;have hg:=Yj (dN q5);have w1:LH N 10 re=_:=AvO N hN 10 re (by omega) (by omega) (by omega) (by omega);have w2:JP N 48 [Ol (4,[],nm)]=some (Sp.elem 48 (Ol (4,[],nm))):=by have:=RX N 48 [Ol (4,[],nm)] (by omega) (by omega) hN (by simp) (by rw[JR];omega);rw[JR]at this;exact this
 have g1:=xY N nm hN hs q5;have hm:=jR h1 h2;have hX:=tK N hN (OI N (se,tm,re,iv,nm) cur) hx;have hE:dV N (se,tm,re,iv,nm) cur=bif (OI N (se,tm,re,iv,nm) cur).isEmpty then []else(Oi (OI N (se,tm,re,iv,nm) cur)).1:=rfl;have fin:(Jq (Lc N tm) fun r60=>Jq (LH N 2 se) fun r65=>Jq (JP N 48 ([r65,r60.1,dV N (se,tm,re,iv,nm) cur]:List Bs)) fun r69=>some r69)=some (dS N (se,tm,re,iv,nm) cur):=by rw[(QD N hN se).2.1,(PG N hN q2.1 q2.2).2.1,Jr,Jr];have:=RX N 48 [ZI se,Rx N tm,dV N (se,tm,re,iv,nm) cur] (by omega) (by omega) hN (by simp) (by rw[flat3];have:=hB.2;dsimp only at this;omega);rw[flat3]at this;exact(congrArg (fun o=>Jq o fun r69=>some r69) this).trans rfl
 have last: ∀ l,l=OI N (se,tm,re,iv,nm) cur->(JX (α :=Bs×Int×Int×Int×Int×List Yq0) (fun j4 =>
  bif decide ((l.length:Int)>(0:Int))then(Jq (MH N l) fun r54 =>
  j4 (r54.1,se,tm,re,iv,nm))
  else(j4 (([]:Bs),se,tm,re,iv,nm)))
  (U6 fun t8d b33280_0d b33280_1d b33280_2d b33280_3d b33280_4d =>
  Jq (Lc N b33280_1d) fun r60 =>
  Jq (LH N 2 b33280_0d) fun r65 =>
  Jq (JP N 48 ([r65,r60.1,t8d]:List Bs)) fun r69 =>
  some r69))=some (dS N (se,tm,re,iv,nm) cur):=by
  intro l hl';rw[NU,SE,hl',hX];cases hq:(OI N (se,tm,re,iv,nm) cur).isEmpty with
  | true =>rw[hq,cond_true]at hE;rw[Eh,cond_false,<- hE];exact fin
  | false =>rw[hq,cond_false]at hE;rw[DY,cond_true,Jr,<- hE];exact fin
 have hE2:OI N (se,tm,re,iv,nm) cur=(bif re != 0 then [(idR,false,Sp.elem 10 (Sp.LC re))]else [])++((bif iv != -1 then [(idV,false,Rx N iv)]else [])++bif OW nm cur then []else [(idC,true,Sp.elem 48 (Ol (4,[],nm)))]):=rfl;rw[hE2]at last;clear hX hx hz hl hB hE2 hE fin;unfold YO;try simp -zeta only[Ap]
 try dsimp only
 simp only[JX,U6]at last;have n4: ∀ l:List Ex,l.length<=100->decide ((l.length+1)*41<=140737488355328)=true:=fun l h=>Di;cases hc2:iv != -1 with
 | false =>
  cases hc1:re != 0<;>cases hc3:OW nm cur <;>
   (simp (disch:=simp) only[JX,U7,U6,cond_true,cond_false,hm,hc1,hc2,hc3,Jr,Eh,DY,w1,g1,w2,n4,Jv]
    refine last _ ?_;rw[hc1,hc2,hc3];rfl)
 | true =>
  have tI:Lc N iv=some (Rx N iv,0):=(PG N hN (t:=iv) (by have:=Ey.1 hc2;omega) q3.2).2.1
  cases hc1:re != 0<;>cases hc3:OW nm cur <;>
   (simp (disch:=simp) only[JX,U7,U6,cond_true,cond_false,hm,hc1,hc2,hc3,Jr,Eh,DY,w1,g1,w2,n4,Jv,tI]
    refine last _ ?_;rw[hc1,hc2,hc3];rfl)
end
end Go.Proofs.YtehkhflpjkokeaaGreatDoor.Pl
