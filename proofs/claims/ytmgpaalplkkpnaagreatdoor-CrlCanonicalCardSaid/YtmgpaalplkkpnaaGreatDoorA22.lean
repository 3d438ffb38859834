import Derived.Test.YtmgpaalplkkpnaaGreatDoorA21
import Derived.ChangeArms
import Derived.SliceStrings
import Derived.Test.YtmgpaalplkkpnaaGreatDoorRows
import Derived.Test.YtmgpaalplkkpnaaGreatDoorChecked
import Derived.Lib.LaidU8
import Derived.Shelf.Vars
import Derived.HandedShaped
import Derived.LaidLaws
set_option linter.all false
namespace Go.Proofs.YtmgpaalplkkpnaaGreatDoor.Pl
open IntKind (i64 u8 u32 u64)
open Go Vm
def b4P (p:Int):Bs:=List.map Vm.byteOf ([u8.wrap (p.fdiv (16777216)),u8.wrap (p.fdiv (65536)),u8.wrap (p.fdiv (256)),u8.wrap p]:List Int)
def b1P (p:Int):Bs:=List.map Vm.byteOf ([u8.wrap p]:List Int)
def Aom (N:Nat) (p:Int):Aa3 N p=some (b4P p):=by
 unfold Aa3;try simp -zeta only[Ap]
 rw[LZ _ (by simp [PY])];rfl
def At3 (N:Nat) (p:Int):Aa2 N p=some (b1P p):=by
 unfold Aa2;try simp -zeta only[Ap]
 rw[LZ _ (by simp [PY])];rfl
def Axu (N:Nat) (p:Int):iG N p=some (b4P p):=Aom N p
def hS (N:Nat) (l:List Bs):Bs:=(Nr N l).getD []
structure Hok (N:Nat) (l:List Bs):Prop where
 n:150<=N
 m:N<=1000000000
 len:l.length<N
 each: ∀ s∈l,s.length+64<N
def Aji {N:Nat} {l:List Bs} (h:Hok N l):Nr N l=some (hS N l)/\(hS N l).length=16:=by obtain⟨v,e,hv⟩:=AvU h.n h.m h.len h.each;unfold hS;rw[e];exact⟨rfl,hv⟩
def wk (f:Int->Bs->Bs) (a:Int):Nat->Bs->Bs
 | 0,x=>x
 | n+1,x=>wk f (a+1) n (f a x)
def A3X (f:Int->Bs->Bs): ∀(n:Nat) (a:Int) (m:Nat) (x:Bs),wk f a (n+m) x=wk f (a+n) m (wk f a n x):=by
 intro n
 induction n with
 | zero=>intro a m x;simp [wk]
 | succ n ih =>intro a m x;rw[show n+1+m=(n+m)+1 by omega];show wk f (a+1) (n+m) (f a x)=wk f (a+((n+1:Nat):Int)) m (wk f (a+1) n (f a x));rw[ih];congr 1;omega
def Ayh {f:Int->Bs->Bs} (hf: ∀ t x,x.length=16->(f t x).length=16): ∀(n:Nat) (a:Int) (x:Bs),x.length=16->(wk f a n x).length=16:=by
 intro n
 induction n with
 | zero=>intro a x h;exact h
 | succ n ih=>intro a x h;exact ih _ _ (hf _ _ h)
def st (N:Nat) (p0:Bs) (p1 p2 t:Int) (x:Bs):Bs:=hS N [[67],p0,b4P p1,b1P p2,b1P t,x]
structure Big (N:Nat):Prop where
 n:2000<=N
 m:N<=1000000000
def hok {N:Nat} (h:Big N) {l:List Bs} (hl:l.length<=100) (hs:l.all (fun s=>decide (s.length<=1000))=true):Hok N l:=by have h1:=h.n;refine⟨by omega,h.m,by omega,fun s hm=> ?_⟩;have:=D6 (D8.1 hs s hm);omega
def A0Q {N:Nat} (h:Big N) {p0:Bs} (h0:p0.length<=1000) (p1 p2 t:Int) {x:Bs} (hx:x.length=16):Nr N [[67],p0,b4P p1,b1P p2,b1P t,x]=some (st N p0 p1 p2 t x)/\(st N p0 p1 p2 t x).length=16 :=
 Aji (hok h (by simp) (by simp [h0,hx,b4P,b1P]))
def walk_eq {N:Nat} (h:Big N) {p0:Bs} (h0:p0.length<=1000) (p1 p2:Int) {a b:Int} (ha:0<=a) (hab:a<=b) (hb:b<=15) {x:Bs} (hx:x.length=16):dD N p0 p1 p2 a b x=some (wk (st N p0 p1 p2) a (b - a).toNat x):=by
 unfold dD;have hn:=h.n;refine NU (X:=Bs×Int) (fun x=>x.1.length=16/\0<=x.2/\x.2<=b) (fun x=>(b - x.2).toNat) (fun x=>some (wk (st N p0 p1 p2) x.2 (b - x.2).toNat x.1)) ?_ N _ ⟨hx,ha,hab⟩ (by show(b - a).toNat<N;omega);rintro ⟨x,t⟩ ⟨h1,h2,h3⟩ k hk;have h1:x.length=16:=h1;have h2:0<=t:=h2;have h3:t<=b:=h3;dsimp only[U2];by_cases hlt:t<b
 .rw[Di hlt,cond_true,Aom,Jt,At3,Jt,At3,Jt];obtain⟨e1,e2⟩:=A0Q h h0 p1 p2 t h1;rw[e1,Jt,w64];refine(hk _ ⟨e2,by show 0<=t+1;omega,by show t+1<=b;omega⟩ (by show(b - (t+1)).toNat<(b - t).toNat;omega)).trans ?_;show some (wk _ (t+1) (b - (t+1)).toNat _)=some (wk _ t (b - t).toNat x);rw[show(b - t).toNat=(b - (t+1)).toNat+1 by omega];rfl
 .rw[Dw hlt,cond_false];rw[show(b - t).toNat=0 by omega];rfl
def Ahd {ρ :Type} {B:Int×List Bs->(Int×List Bs->Option ρ)->(List Bs->Option ρ)->Option ρ} {kx:List Bs->Option ρ} (n:Nat) (g:Nat->Bs)
 (h: ∀(i:Nat) (acc:List Bs) (k:Int×List Bs->Option ρ),i<n->acc.length=i->B ((i:Int),acc) k kx=k ((i:Int)+1,acc++[g i]))
 (hend: ∀(acc:List Bs) (k:Int×List Bs->Option ρ),acc.length=n->B ((n:Int),acc) k kx=kx acc) {N:Nat} (hN:n<N:=by omega):JB B N (0,[]) kx=kx ((List.range n).map g):=by
 refine NU (fun x=>x.1=(x.2.length:Int)/\x.2.length<=n/\x.2=(List.range x.2.length).map g) (fun x=>n - x.2.length) (fun _=>kx ((List.range n).map g)) ?_ N _ ⟨rfl,DN _,rfl⟩ (by show n - 0<N;omega);rintro ⟨t,acc⟩ ⟨h1,h2,h3⟩ k hk;have h1:t=(acc.length:Int):=h1;have h2:acc.length<=n:=h2;have h3:acc=(List.range acc.length).map g:=h3;subst h1;by_cases hl:acc.length<n
 .rw[h acc.length acc k hl rfl];refine hk _ ⟨by show(acc.length:Int)+1=((acc++[g acc.length]).length:Int);simp,by show(acc++[g acc.length]).length<=n;simp;omega,?_⟩ (by show n - (acc++[g acc.length]).length<n - acc.length;simp;omega);show acc++[g acc.length]=(List.range (acc++[g acc.length]).length).map g;rw[Dp,List.length_singleton,List.range_succ,EX,<- h3];rfl
 .have e:acc.length=n:=by omega
  have h4:=hend acc k e;rw[<- e]at h4;rw[h4,<- e];exact congrArg kx h3
def Av1 (N:Nat) (p1:Bs) (p2:Int) (i:Nat):Bs:=hS N [[83],p1,b4P p2,b1P (i:Int)]
def YI {N:Nat} (h:Big N) {p1:Bs} (h1:p1.length<=1000) (p2:Int) (i:Nat):ZK N p1 p2 (i:Int)=some (Av1 N p1 p2 i)/\(Av1 N p1 p2 i).length=16:=by obtain⟨e1,e2⟩:=Aji (N:=N) (l:=[[83],p1,b4P p2,b1P (i:Int)]) (hok h (by simp) (by simp [h1,b4P,b1P]));refine⟨?_,e2⟩;unfold ZK;rw[Aom,Jt,At3,Jt,e1];rfl
def AqZ (N:Nat) (p0 p1:Bs) (p2:Int) (i:Nat):Bs:=wk (st N p0 p2 (i:Int)) 0 15 (Av1 N p1 p2 i)
def st_len {N:Nat} (h:Big N) {p0:Bs} (h0:p0.length<=1000) (p1 p2:Int): ∀ t x,x.length=16->(st N p0 p1 p2 t x).length=16:=fun t _ hx=>(A0Q h h0 p1 p2 t hx).2
def Ajb: ∀(l:List Bs),(∀ s∈l,s.length=16)->l.flatten.length=16*l.length:=by
 intro l
 induction l with
 | nil=>intro _;rfl
 | cons a r ih =>intro h;rw[List.flatten_cons,Dp,h a Dv,ih fun s hs=>h s (Dx _ hs),List.length_cons];omega
def iN (b:UInt8):Int:=(b.toNat:Int)
def Awi (l:Bs):(l.map iN).map Vm.byteOf=l:=by
 rw[Fh]
 conv=>rhs;rw[<- Gp l]
 refine E5 fun b _=> ?_;show UInt8.ofNat ((b.toNat:Int)).toNat=b;simp
def Axa (l:Bs):(l.map iN).all Vm.isByte=true:=by rw[D8];intro x hx;obtain⟨b,_,rfl⟩:=DI.1 hx;have:=o6 b;unfold Vm.isByte iN;rw[Di,Di];rfl
def join_eq {N:Nat} (h:Big N) {l:List Bs} (hl:l.length<=1000) (h16: ∀ s∈l,s.length=16):qW N l=some l.flatten:=by
 have hn:=h.n;have hf:=Ajb l h16;unfold qW;try simp -zeta only[Ap]
 rw[w64 (x:=(l.length:Int)*16),LZ _ (Di),LZ _ (Di),LZ _ (Di)];refine(NU (X:=Int×List Int) (fun x=>0<=x.1/\x.1<=(l.length:Int)/\x.2.length=16*l.length/\x.2.take (16*x.1.toNat)=((l.take x.1.toNat).flatten).map iN) (fun x=>((l.length:Int) - x.1).toNat) (fun _=>some l.flatten) ?_ N _ ⟨by show(0:Int)<=0;omega,by show(0:Int)<=l.length;omega,by show(List.replicate _ _).length=_;rw[EH];omega,by simp⟩ (by show((l.length:Int) - 0).toNat<N;omega));rintro ⟨t,y⟩ ⟨h1,h2,h3,h4⟩ k hk;have h1:0<=t:=h1;have h2:t<=(l.length:Int):=h2;have h3:y.length=16*l.length:=h3;have h4:y.take (16*t.toNat)=((l.take t.toNat).flatten).map iN:=h4;dsimp only[U2];by_cases hlt:t<(l.length:Int)
 .have hi:t.toNat<l.length:=by omega
  have hg:l.getD t.toNat []=l[t.toNat]:=getD_lt _ _ _ hi;have h5:(l.getD t.toNat []).length=16:=by rw[hg];exact h16 _ (Eo hi)
  have h6:l.take (t.toNat+1)=l.take t.toNat++[l.getD t.toNat []]:=by rw[hg,List.take_succ_eq_append_getElem hi]
  have h7:((l.take t.toNat).flatten).length=16*t.toNat:=by rw[Ajb _ fun s hs=>h16 s (Gi hs),Eb];omega
  generalize l.getD t.toNat []=s at h5 h6 ⊢;rw[Di hlt,cond_true,LZ _ (Di h1),LZ _ rfl,w64 (x:=t*16),w64 (x:=t+1),LZ _ (Di),LZ _ (Di),LZ _ (Di),LZ _ (Di)];have e16:(t*16).toNat=16*t.toNat:=by omega
  rw[e16];have h8:(y.take (16*t.toNat)).length=16*t.toNat:=by rw[Eb];omega
  refine hk _ ⟨by show 0<=t+1;omega,by show t+1<=_;omega,?_,?_⟩ (by show((l.length:Int) - (t+1)).toNat<((l.length:Int) - t).toNat;omega)
  .show(yF y (16*t.toNat) s).length=_;unfold yF;simp only[Dp,Dz,Ew,h8];omega
  .show(yF y (16*t.toNat) s).take (16*(t+1).toNat)=((l.take (t+1).toNat).flatten).map iN;rw[show(t+1).toNat=t.toNat+1 by omega,h6,EZ,EX,<- h4];unfold yF;rw[G6 (by simp only[Dp,Dz,h8];omega)];rw[Fq (by simp only[Dp,Dz,h8];omega)];simp [iN]
 .have et:t.toNat=l.length:=by omega
  rw[Dw hlt,cond_false];rw[et,<- h3,ED,ED]at h4;rw[h4];show chk _ _=_;rw[LZ _ (Axa _),Awi]
def cZ {n:Nat} {g:Nat->Bs} (h: ∀ i,(g i).length=16): ∀ s∈(List.range n).map g,s.length=16:=by intro s hs;obtain⟨i,_,rfl⟩:=DI.1 hs;exact h i
def AzK (N:Nat) (p0:Bs) (p1:Int) (l:List Bs):Bs:=hS N [[76],p0,b4P p1,l.flatten]
def Ae8 {N:Nat} (h:Big N) {p0:Bs} (h0:p0.length<=1000) (p1:Int) {l:List Bs} (hl:l.length<=60) (h16: ∀ s∈l,s.length=16):ZJ N p0 p1 l=some (AzK N p0 p1 l)/\(AzK N p0 p1 l).length=16:=by have hf:=Ajb l h16;obtain⟨e1,e2⟩:=Aji (N:=N) (l:=[[76],p0,b4P p1,l.flatten]) (hok h (by simp) (by simp only[List.all_cons,List.all_nil,hf,GN,Di h0];rw[Di (by omega:16*l.length<=1000)];simp [b4P]));refine⟨?_,e2⟩;unfold ZJ;rw[Aom,Jt,join_eq h (by omega) h16,Jt,e1];rfl
def Ady (N:Nat) {p0:Bs} (h0:p0.length=16) {p:Int} (h1:0<=p) (h2:p<256):Sv N p0 p=some 0:=by
 unfold Sv;try simp -zeta only[Ap]
 rw[show((p0.length:Int) != 16)=false by rw[h0];rfl,Dw (by omega: ¬ p<0),Dw (by omega: ¬ p>=256)];rfl
def Adz (N:Nat) {p0 p1:Bs} (h0:p0.length=16) (hs:p1.length=32) {p:Int} (h1:0<=p) (h2:p<256):Va N p0 p1 p=some 0:=by
 unfold Va;try simp -zeta only[Ap]
 rw[show((p0.length:Int) != 16)=false by rw[h0];rfl,show((p1.length:Int) != 32)=false by rw[hs];rfl];show Jr (Sv N p0 p) _=_;rw[Ady N h0 h1 h2];rfl
def Aio {N:Nat} (h:Big N) {p0 p1:Bs} (h0:p0.length<=1000) (hs:p1.length<=1000) (p2:Int) (i:Nat):(AqZ N p0 p1 p2 i).length=16:=Ayh (st_len h h0 p2 i) _ _ _ (YI h hs p2 i).2
def pkP (N:Nat) (p0 p1:Bs) (p2:Int):Bs:=AzK N p0 p2 ((List.range 35).map (AqZ N p0 p1 p2))
def AvR {N:Nat} (h:Big N) {p0 p1:Bs} (h0:p0.length=16) (hs:p1.length=32) {p2:Int} (h1:0<=p2) (h2:p2<256):nC N p0 p1 p2=some (pkP N p0 p1 p2,0):=by
 have hn:=h.n;unfold nC;try simp -zeta only[Ap]
 rw[Adz N h0 hs h1 h2];show JB (X:=Int×List Bs) (Y:=List Bs) _ N (0,[]) _=_;refine(Ahd 35 (AqZ N p0 p1 p2) (fun i acc k hi ha=> ?_) (fun acc k ha=> ?_)).trans ?_
 .dsimp only[U2];rw[Di (by omega:(i:Int)<35),cond_true,(YI h (by omega) p2 i).1,Jt,walk_eq h (by omega) p2 i (Gq 0) (by omega) (Gq 15) (YI h (by omega) p2 i).2,Jt,LZ _ (Di),w64];rfl
 .rfl
 .rw[(Ae8 h (by omega) p2 (by simp) (cZ (Aio h (by omega) (by omega) p2))).1];rfl
def pk_len {N:Nat} (h:Big N) {p0 p1:Bs} (h0:p0.length=16) (hs:p1.length=32) (p2:Int):(pkP N p0 p1 p2).length=16:=(Ae8 h (by omega) p2 (by simp) (cZ (Aio h (by omega) (by omega) p2))).2
def Dig (l:List Int):Prop:=l.length=35/\ ∀ i,0<=l.getD i 0/\l.getD i 0<=15
def A4c (a:Nat) (h:a<256):0<=JF .and .u8 (a:Int) 15/\JF .and .u8 (a:Int) 15<=15:=by
 have: ∀ a:Fin 256,0<=JF .and .u8 ((a.val:Nat):Int) 15/\JF .and .u8 ((a.val:Nat):Int) 15<=15:=by decide +kernel
 exact this ⟨a,h⟩
def AvY (a:Nat) (h:a<1024):0<=JF .and .i64 (a:Int) 15/\JF .and .i64 (a:Int) 15<=15:=by
 have: ∀ a:Fin 1024,0<=JF .and .i64 ((a.val:Nat):Int) 15/\JF .and .i64 ((a.val:Nat):Int) 15<=15:=by decide +kernel
 exact this ⟨a,h⟩
def Azg {l:List Int} (h: ∀ x∈l,0<=x/\x<=15) (i:Nat):0<=l.getD i 0/\l.getD i 0<=15:=by
 by_cases hi:i<l.length
 .rw[getD_lt _ _ _ hi];exact h _ (Eo hi)
 .rw[Dj,Ed (by omega)];simp
def Aun (a b:Nat):(a:Int).fdiv (b:Int)=((a / b:Nat):Int):=by rw[GR _ (Int.natCast_nonneg b)];rfl
def Atp {N:Nat} (h:Big N) {p:Bs} (hp:p.length=16):Tot (fun r=>r.2=0/\Dig r.1) (UD N p):=by
 have hn:=h.n;unfold UD;try simp -zeta only[Ap]
 rw[show((p.length:Int) != 16)=false by rw[hp];rfl];refine Tot.chk (Di) ?_;show Tot _ (JB (X:=Int×Int×List Int×List Int) _ N (0,0,p.map iN,[]) _);refine QE (fun x=>0<=x.2.1/\x.2.1<=16/\x.2.2.1=p.map iN/\(x.2.2.2.length:Int)=2*x.2.1/\(∀ d∈x.2.2.2,0<=d/\d<=15)/\0<=x.1/\x.1<=30*x.2.1) (fun x=>(16 - x.2.1).toNat) (Tot _) ?_ N _ ⟨by show(0:Int)<=0;omega,by show(0:Int)<=16;omega,rfl,rfl,(fun _ h=>by cases h),by show(0:Int)<=0;omega,by show(0:Int)<=30*0;omega⟩ (by show((16:Int) - 0).toNat<N;omega);rintro ⟨c,t,l,acc⟩ ⟨h1,h2,h3,h4,h5,h6,h7⟩ k hk;have h1:0<=t:=h1;have h2:t<=16:=h2;have h3:l=p.map iN:=h3;have h4:(acc.length:Int)=2*t:=h4;have h5: ∀ d∈acc,0<=d/\d<=15:=h5;have h6:0<=c:=h6;have h7:c<=30*t:=h7;dsimp only[U4];refine Tot.bif (fun hb=> ?_) fun hb=> ?_
 .have hb:=D6 hb;rw[Dz,hp]at hb;have hl:t.toNat<l.length:=by rw[h3,Dz];omega
  obtain⟨a,ha,hlt⟩: ∃ a:Nat,l.getD t.toNat 0=(a:Int)/\a<256:=by rw[getD_lt _ _ _ hl];have hm:l[t.toNat]∈p.map iN:=h3▸Eo hl;obtain⟨b,_,hb⟩:=DI.1 hm;exact⟨b.toNat,hb.symm,o6 b⟩
  obtain⟨q1,q2⟩:=A4c a hlt;have hd:(a:Int).fdiv 16=((a / 16:Nat):Int):=Aun a 16;rw[ha,hd];generalize JF .and .u8 (a:Int) 15=y at q1 q2 ⊢;rw[w64 (x:=((a / 16:Nat):Int)),w64 (x:=y),w64 (x:=15 - ((a / 16:Nat):Int)),w64 (x:=15 - ((a / 16:Nat):Int)+15),w64 (x:=15 - ((a / 16:Nat):Int)+15 - y),w64 (x:=t+1),w64];refine Tot.chk (Di h1) (Tot.chk (Di) (Tot.chk (Di) (Tot.chk (Di) (hk _ ⟨by show 0<=t+1;omega,by show t+1<=16;omega,h3,?_,?_,?_,?_⟩ ?_))))
  .show((acc++[_,_]).length:Int)=2*(t+1);simp;omega
  .intro d hd;have hd:d∈acc++[((a / 16:Nat):Int),y]:=hd;rcases DK.1 hd with hd | hd
   .exact h5 d hd
   .simp only[D7,Fp,GK]at hd;rcases hd with rfl | rfl<;>omega
  .show 0<=c+(15 - ((a / 16:Nat):Int)+15 - y);omega
  .show c+(15 - ((a / 16:Nat):Int)+15 - y)<=30*(t+1);omega
  .show(16 - (t+1)).toNat<(16 - t).toNat
   omega
 .have hb:=DY hb;rw[Dz,hp]at hb;dsimp only[U2];refine Tot.chk (Di) (Tot.some ⟨rfl,?_,?_⟩)
  .show(acc++[_,_,_]).length=35;simp;omega
  .obtain⟨n,hn,hn2⟩: ∃ n:Nat,c=(n:Int)/\n<=480:=⟨c.toNat,by omega,by omega⟩
   refine Azg fun x hx=> ?_;have hx:x∈acc++[c.fdiv 256,JF .and .i64 (c.fdiv 16) 15,JF .and .i64 c 15]:=hx;rcases DK.1 hx with hx | hx
   .exact h5 x hx
   .simp only[D7,Fp,GK]at hx;subst hn;have e1:(n:Int).fdiv 256=((n / 256:Nat):Int):=Aun n 256;have e2:(n:Int).fdiv 16=((n / 16:Nat):Int):=Aun n 16;rcases hx with rfl | rfl | rfl
    .rw[e1];omega
    .rw[e2];exact AvY _ (by omega)
    .exact AvY _ (by omega)
def AyI: ∀(l:List Bs) (i:Nat),(∀ s∈l,s.length=16)->i<l.length->JD l.flatten (16*i) (16*(i+1))=l.getD i []:=by
 intro l
 induction l with
 | nil=>intro i _ h;simp at h
 | cons a r ih =>
  intro i h hi;have ha:a.length=16:=h a Dv;cases i with
  | zero =>show((a++r.flatten).take (16*(0+1))).drop (16*0)=a;rw[G6 (by omega),Fq (by omega)];rfl
  | succ i =>have:=ih i (fun s hs=>h s (Dx _ hs)) (by simpa using hi);show((a++r.flatten).take (16*(i+1+1))).drop (16*(i+1))=r.getD i [];rw[<- this];rw[show 16*(i+1+1)=a.length+16*(i+1) by omega,Ii,show 16*(i+1)=a.length+16*i by omega,List.drop_length_add_append];rw[ha,show 16+16*i=16*(i+1) by omega];rfl
def AkP (N:Nat) (d:Bs):List Int:=((UD N d).getD ([],0)).1
def Am0 {N:Nat} (h:Big N) {d:Bs} (hd:d.length=16):UD N d=some (AkP N d,0)/\Dig (AkP N d):=by obtain⟨⟨l,e⟩,h1,h2,h3⟩:=Atp h hd;have h2:e=0:=h2;subst h2;unfold AkP;rw[h1];exact⟨rfl,h3⟩
def sgP (N:Nat) (p0 p1:Bs) (p2:Int) (d:Bs) (i:Nat):Bs:=wk (st N p0 p2 (i:Int)) 0 ((AkP N d).getD i 0).toNat (Av1 N p1 p2 i)
def yM (N:Nat) (p0 p1:Bs) (p2:Int) (d:Bs):Bs:=((List.range 35).map (sgP N p0 p1 p2 d)).flatten
section
variable {N:Nat} (h:Big N) {p0 p1:Bs} (h0:p0.length=16) (hs:p1.length=32) {p2:Int} (h1:0<=p2) (h2:p2<256) {d:Bs} (hd:d.length=16)
include h h0 hs
theorem AfH (p2:Int) (d:Bs) (i:Nat):(sgP N p0 p1 p2 d i).length=16:=Ayh (st_len h (by omega) p2 i) _ _ _ (YI h (by omega) p2 i).2
theorem Acb (p2:Int) (d:Bs):(yM N p0 p1 p2 d).length=560:=by unfold yM;rw[Ajb _ (cZ (AfH h h0 hs p2 d)),Dz,Ef]
include h1 h2 hd
theorem A0V:AbD N p0 p1 p2 d=some (yM N p0 p1 p2 d,0):=by
 have hn:=h.n;obtain⟨e1,e2,e3⟩:=Am0 h hd;unfold AbD;try simp -zeta only[Ap]
 rw[Adz N h0 hs h1 h2,Jt];rw[show((0:Int) != 0)=false from rfl,cond_false];rw[e1,Jt];show JB (X:=Int×List Bs) (Y:=List Bs) _ N (0,[]) _=_;refine(Ahd 35 (sgP N p0 p1 p2 d) (fun i acc k hi ha=> ?_) (fun acc k ha=> ?_)).trans ?_
 .have e4:=e3 i;dsimp only[U2];rw[Di (by omega:(i:Int)<35),cond_true,LZ _ (Di),LZ _ (Di),(YI h (by omega) p2 i).1,Jt,Int.toNat_natCast,walk_eq h (by omega) p2 i (Gq 0) e4.1 e4.2 (YI h (by omega) p2 i).2,Jt,LZ _ (Di),w64,Int.sub_zero];rfl
 .rfl
 .rw[join_eq h (by simp) (cZ (AfH h h0 hs p2 d))];rfl
theorem Ats:fB N p0 p2 d (yM N p0 p1 p2 d)=some (pkP N p0 p1 p2,0):=by
 have hn:=h.n;obtain⟨e1,e2,e3⟩:=Am0 h hd;have hsl:=Acb h h0 hs p2 d;unfold fB;try simp -zeta only[Ap]
 rw[Ady N h0 h1 h2,Jt];rw[show((0:Int) != 0)=false from rfl,cond_false];rw[e1,Jt];show(bif (((yM N p0 p1 p2 d).length:Int) != 560)then _ else _)=_;rw[show(((yM N p0 p1 p2 d).length:Int) != 560)=false by rw[hsl];rfl,cond_false];refine(Ahd 35 (AqZ N p0 p1 p2) (fun i acc k hi ha=> ?_) (fun acc k ha=> ?_)).trans ?_
 .have e4:=e3 i;have hc:JD (yM N p0 p1 p2 d) (16*i) (16*(i+1))=sgP N p0 p1 p2 d i:=by unfold yM;rw[AyI _ _ (cZ (AfH h h0 hs p2 d)) (by simpa using hi),getD_lt _ _ _ (by simpa using hi)];simp
  dsimp only[U2];rw[Di (by omega:(i:Int)<35),cond_true,w64 (x:=(i:Int)*16),w64 (x:=(i:Int)+1),w64];rw[LZ _ (Di),LZ _ (Di),LZ _ (Di),LZ _ (Di),LZ _ (Di),show((i:Int)*16).toNat=16*i by omega,show(((i:Int)+1)*16).toNat=16*(i+1) by omega,hc,Int.toNat_natCast,walk_eq h (by omega) p2 i e4.1 e4.2 (Gq 15) (AfH h h0 hs p2 d i),Jt,LZ _ (Di)];congr 3;congr 1;unfold sgP AqZ;rw[show(15:Nat)=((AkP N d).getD i 0).toNat+(15 - (AkP N d).getD i 0).toNat by omega,A3X];congr 1;omega
 .rfl
 .rw[(Ae8 h (by omega) p2 (by simp) (cZ (Aio h (by omega) (by omega) p2))).1];rfl
end
set_option linter.unusedSectionVars false
def ne_nil {s:Bs} (h:0<s.length):(s==([]:Bs))=false:=by cases s with | nil=>simp at h | cons a r=>rfl
def idP (N:Nat) (sd:Bs):Bs:=hS N [[73],sd]
def Ack (N:Nat) (sd:Bs):TrT:=([],sd,idP N sd,0)
def y8 (N:Nat) (sd:Bs):Bs:=pkP N (idP N sd) sd 0
def fO (N:Nat) (sd:Bs):TrT:=([[y8 N sd]],sd,idP N sd,0)
def AqJ (N:Nat) (sd:Bs):SgT:=(sd,0,0,[Ack N sd])
def AqK (N:Nat) (sd:Bs):SgT:=(sd,0,1,[fO N sd])
def Ae7 (N:Nat) (sd:Bs):Int×Bs×Bs:=(0,idP N sd,y8 N sd)
def Ahk (N:Nat) (sd m:Bs):Bs:=hS N [[77],idP N sd,y8 N sd,b4P 0,m]
def aH (N:Nat) (sd m:Bs):Bs:=b4P 0++yM N (idP N sd) sd 0 (Ahk N sd m)
section
variable {N:Nat} (h:Big N) {sd:Bs} (hs:sd.length=32)
include h hs
theorem id_eq:Nr N [[73],sd]=some (idP N sd)/\(idP N sd).length=16:=Aji (hok h (by simp) (by simp [hs]))
theorem AsU:(y8 N sd).length=16:=pk_len h (id_eq h hs).2 hs 0
theorem Arh:V6 N sd 0=some (.inl (Ack N sd,0)):=by
 unfold V6;try simp -zeta only[Ap]
 rw[show((sd.length:Int) != 32)=false by rw[hs];rfl,cond_false,(id_eq h hs).1];rfl
theorem Adh (l:List (List Bs)) (k:Bs):MX N (l,sd,k,0)=some (1,(l,sd,k,0)):=by
 unfold MX NW;try simp -zeta only[Ap]
 rw[Jt,ne_nil (by rw[hs];decide)];rfl
theorem A20:aI N sd 0=some (.inl (AqJ N sd,0)):=by
 have e:=Adh h hs [] (idP N sd);unfold aI Afg;try simp -zeta only[Ap]
 rw[Arh h hs,Uf];unfold Ack;dsimp only;rw[e];rfl
theorem A4g:O5 N (Ack N sd)=some (fO N sd):=by
 obtain⟨M,rfl⟩: ∃ M,N=M+10:=⟨N - 10,by have:=h.n;omega⟩
 unfold O5;try simp -zeta only[Ap]
 have e:=AvR h (id_eq h hs).2 hs (Gq 0) (by omega:(0:Int)<256);unfold Ack;rw[bY];dsimp only[U6];rw[e];rfl
theorem A4h:O5 N (fO N sd)=some (fO N sd):=rfl
theorem AvQ (t:TrT) (ht:O5 N t=some (fO N sd)) (hv:t.2.1=sd):SQ N t=some (Ae7 N sd,fO N sd):=by unfold SQ NW;rw[Jt,hv,ne_nil (by rw[hs];decide)];dsimp only;rw[Et,EI,cond_false,ht];rfl
theorem Awu {m:Bs} (hm:m.length+64<N):Sm N (Ae7 N sd) 0 m=some (Ahk N sd m)/\(Ahk N sd m).length=16:=by
 have hn:=h.n
 obtain⟨e1,e2⟩:=Aji (N:=N) (l:=[[77],idP N sd,y8 N sd,b4P 0,m]) ⟨by omega,h.m,by simp;omega,fun s hs'=>by
  have i1:=(id_eq h hs).2;have i2:=AsU h hs;simp only[D7,Fp,GK]at hs';rcases hs' with rfl | rfl | rfl | rfl | rfl
  .simp;omega
  .omega
  .omega
  .simp [b4P];omega
  .exact hm⟩
 refine⟨?_,e2⟩;unfold Sm;rw[Axu,Jt];show Jr (Nr N [[77],idP N sd,y8 N sd,b4P 0,m]) _=_;rw[e1];rfl
theorem Ayr {m:Bs} (hm:m.length+64<N) (l:List (List Bs)) (ht:O5 N (l,sd,idP N sd,0)=some (fO N sd)):UB N (l,sd,idP N sd,0) 0 m=some (aH N sd m,0,fO N sd):=by
 have hn:=h.n;have e1:=Adh h hs l (idP N sd);have e2:=AvQ h hs (l,sd,idP N sd,0) ht rfl;obtain⟨e3,e4⟩:=Awu h hs hm;have e5:=A0V h (id_eq h hs).2 hs (Gq 0) (by omega) e4;have hl:=Acb h (id_eq h hs).2 hs 0 (Ahk N sd m);unfold UB NW;try simp -zeta only[Ap]
 rw[Jt,ne_nil (by rw[hs];decide)];dsimp only;rw[e1];simp (decide:=true) only[Et,EI,cond_false,cond_true,Option.isSome_some,DU,EF,JI,Option.getD_some,Int.lt_irrefl,IU];rw[e2,Jt];dsimp only[fO];rw[ET,ET,JI,JI];refine(LZ _ rfl).trans ?_;rw[e3,Jt,e5,Jt];dsimp only;rw[show((0:Int) != 0)=false from rfl,cond_false,Axu,Jt,LZ _ (Di (by rw[hl];simp [b4P]))];obtain⟨M,rfl⟩: ∃ M,N=M+10:=⟨N - 10,by omega⟩
 rfl
theorem Aym {m:Bs} (hm:m.length+64<N):Qb N (AqJ N sd) m=some (aH N sd m,0,AqK N sd):=by
 have e1:=Adh h hs [] (idP N sd);have e2:=Ayr h hs hm [] (A4g h hs);unfold Qb Wn OD;try simp -zeta only[Ap]
 dsimp only[AqJ,Ack,Jt,List.headD_cons];rw[ne_nil (by rw[hs];decide),G9,cond_false,cond_false,e1,Jt];dsimp only;rw[show(i64.wrap (1 - 0))=1 from rfl,Jt];dsimp only;rw[show((1:Int)==0)=false from rfl,cond_false,List.headD_cons,e2,Jt];rfl
theorem A0U:Q9 N (AqK N sd)=some (Ae7 N sd,AqK N sd):=by
 have e:=AvQ h hs (fO N sd) (A4h h hs) rfl;unfold Q9 OD;try simp -zeta only[Ap]
 dsimp only[AqK,List.headD_cons];rw[ne_nil (by rw[hs];decide),G9,Jt];dsimp only;rw[cond_false,List.headD_cons,e,Jt];dsimp only;rw[ET,ET,JI,JI];rfl
theorem Atq {m:Bs} (hm:m.length+64<N):XW N (Ae7 N sd) m (aH N sd m)=some 0:=by
 have hn:=h.n;obtain⟨e3,e4⟩:=Awu h hs hm;have e5:=Ats h (id_eq h hs).2 hs (Gq 0) (by omega) e4;have hl:=Acb h (id_eq h hs).2 hs 0 (Ahk N sd m);have hk:=AsU h hs;have hi:=(id_eq h hs).2;have h4:(b4P 0).length=4:=rfl
 have hc:Zy N (Ae7 N sd)=some 0:=by
  unfold Zy Ae7;try simp -zeta only[Ap]
  try dsimp only
  rw[show((List.length (idP N sd):Int) != 16)=false by rw[hi];rfl,show((List.length (y8 N sd):Int) != 16)=false by rw[hk];rfl];rfl
 have hsl:(aH N sd m).length=564:=by unfold aH;rw[Dp,hl,h4]
 have c1:JD (aH N sd m) 0 4=b4P 0:=by unfold JD aH;rw[G6 (by omega)];rfl
 have c2:JD (aH N sd m) 4 564=yM N (idP N sd) sd 0 (Ahk N sd m):=by unfold JD;rw[Fq (by omega)];unfold aH;exact List.drop_left' h4
 have hf:eU N (aH N sd m)=some (0,true):=by
  unfold eU;try simp -zeta only[Ap]
  rw[c1,hsl];obtain⟨M,rfl⟩: ∃ M,N=M+10:=⟨N - 10,by omega⟩
  rfl
 unfold XW;try simp -zeta only[Ap]
 rw[hc,Jt,show((0:Int) != 0)=false from rfl,cond_false,hsl,hf,Jt];dsimp only[Ae7];rw[show((((564:Nat):Int)) != i64.wrap (564+i64.wrap (0*16)))=false from rfl,cond_false];refine(LZ _ rfl).trans ?_;rw[Dw (by decide: ¬(0:Int)>=i64.wrap (1*2 ^ min (u64.wrap 0).toNat 64)),cond_false];have e3':Sm N (0,idP N sd,y8 N sd) 0 m=_:=e3;rw[e3',Jt];refine(LZ _ rfl).trans ?_;rw[c2,e5,Jt];dsimp only;rw[show((0:Int) != 0)=false from rfl,cond_false];refine(LZ _ rfl).trans ?_;obtain⟨M,rfl⟩: ∃ M,N=M+10:=⟨N - 10,by omega⟩
 rw[bY];dsimp only[U6,U4];rw[Dw (by decide: ¬(0:Int)<0),cond_false];show(bif !(y8 (M+10) sd==y8 (M+10) sd)then _ else _)=_;rw[ET];rfl
end
def N0:Nat:=2097152
def AoT:Big N0:=⟨by decide,by decide⟩
def au0:List RnT:=(KN N0 0).getD []
def A2A:KN N0 0=some au0:=by kernel_rfl
def liA:LsT:=(([]:Bs),([]:Bs),au0,0,0,1,(-1),([]:Bs),false,([]:List GnT),false,false,0,false,([]:List PtT),([(7,0,6,(-1),au0)]:List EnT),([]:Bs))
def sN:Bs:=((Vg N0 liA).getD default).1
def A2m:Vg N0 liA=some (sN,0):=by kernel_rfl
def A0n:(decide (sN.length<=1000))=true:=by kernel_rfl
def sgF (f:Nat->UInt8):Bs:=(List.range 564).map f
def outA (f:Nat->UInt8):Bs:=((Ul N0 sN (sgF f)).getD default).1
def A1T (f:Nat->UInt8):Ul N0 sN (sgF f)=some (outA f,0):=by kernel_rfl
def Ahj (f:Nat->UInt8):LsT:=((PS N0 (outA f)).getD default).1
def A1n (f:Nat->UInt8):PS N0 (outA f)=some (Ahj f,0):=by kernel_rfl
def AyM (f:Nat->UInt8):(Ahj f).2.1=sN:=by kernel_rfl
def AyN (f:Nat->UInt8):(Ahj f).2.2.2.2.2.2.2.2.2.2.2.2.2.2.2.2=sgF f:=by kernel_rfl
def au8:List RnT:=(KN N0 8).getD []
def A2B:KN N0 8=some au8:=by kernel_rfl
def Azd (f:Nat->UInt8):EnT:=((oP N0 (Ahj f) au8 7).getD default).1
def A1x (f:Nat->UInt8):oP N0 (Ahj f) au8 7=some (Azd f,true):=by kernel_rfl
def A2U (f:Nat->UInt8):(Azd f).2.2.1=6:=by kernel_rfl
def A48:TN N0 9=some 128:=by kernel_rfl
def sd1:Bs:=(iC N0 1).getD []
def A37:iC N0 1=some sd1:=by kernel_rfl
def AaJ:sd1.length=32:=by kernel_rfl
def A3A {l:Bs} (h:l.length=564):sgF (fun i=>l.getD i 0)=l:=by
 unfold sgF;rw[<- h];apply Iy
 .simp
 .intro i h1 h2;simp [Dj,h2]
def A0d {N:Nat} (h:Big N) {sd:Bs} (hs:sd.length=32) (m:Bs):(aH N sd m).length=564:=by unfold aH;rw[Dp,Acb h (id_eq h hs).2 hs 0 (Ahk N sd m)];rfl
def fA:Nat->UInt8:=fun i=>(aH N0 sd1 sN).getD i 0
def A0H:sgF fA=aH N0 sd1 sN:=A3A (A0d AoT AaJ sN)
def Atj:sN.length+64<N0:=by have:=D6 A0n;show _<2097152;omega
attribute [irreducible] N0 au0 sN outA Ahj au8 Azd sd1
def Ayk:gI N0 liA (AqJ N0 sd1)=some (outA fA,0,AqK N0 sd1):=by
 have e1:=Aym AoT AaJ Atj;have e2:=A1T fA;rw[A0H]at e2;unfold gI;try simp -zeta only[Ap]
 rw[A2m,Jt];dsimp only;rw[show((0:Int) != 0)=false from rfl,cond_false];have e1':Qb N0 (sd1,0,0,[Ack N0 sd1]) sN=_:=e1;dsimp only[AqJ,List.headD_cons];rw[e1',Jt];dsimp only;rw[show((0:Int) != 0)=false from rfl,cond_false,e2,Jt];rfl
def AvV:YU N0 (Ahj fA) (Ae7 N0 sd1)=some 0:=by
 unfold YU;try simp -zeta only[Ap]
 rw[AyM,AyN,A0H,Atq AoT AaJ Atj];rfl
def Awc {N:Nat} {sd out:Bs} {au au':List RnT} {t0 t1:TrT} {dec:LsT} {fin:EnT} {k:Int×Bs×Bs} (h1:iC N 1=some sd) (h2:aI N sd 0=some (.inl ((sd,0,0,[t0]),0))) (h3:KN N 0=some au)
 (h4:gI N (([]:Bs),([]:Bs),au,0,0,1,(-1),([]:Bs),false,([]:List GnT),false,false,0,false,([]:List PtT),([(7,0,6,(-1),au)]:List EnT),([]:Bs)) (sd,0,0,[t0])=some (out,0,(sd,0,1,[t1])))
 (h5:PS N out=some (dec,0)) (h6:KN N 8=some au') (h7:oP N dec au' 7=some (fin,true)) (h8:Q9 N (sd,0,1,[t1])=some (k,(sd,0,1,[t1]))) (h9:YU N dec k=some 0) (h10:fin.2.2.1=6) (h11:TN N 9=some 128):Tt N=some true:=by
 unfold Tt;try simp -zeta only[Ap]
 rw[h1,Jt,h2,Uf];dsimp only;simp (decide:=true) only[cond_true,cond_false,JI,EI,Et,EF,DU,Gh];rw[h3,Jt,Jt];dsimp only[List.headD_cons];rw[h4,Jt];dsimp only;rw[h5,Jt,h6,Jt];dsimp only;rw[h7,Jt];dsimp only[List.headD_cons];simp (decide:=true) only[cond_true,cond_false,JI,o8,ET];rw[h8,Jt];dsimp only;rw[h9,Jt,h10,h11];rfl
def Ay2:Tt N0=some true:=Awc A37 (A20 AoT AaJ) A2A Ayk (A1n fA) A2B (A1x fA) (A0U AoT AaJ) AvV (A2U fA) A48
def AxR {N:Nat} (hN:1048578<N) {x:Li} (h:OkL x):V5 N (x.y [] [] [])=some (Ao7 (Xv x) Aff):=by have h1:=A38 hN h (sig:=Aff) (by decide);unfold Aff at h1;unfold V5;rw[A4a hN h,Jt];dsimp only;rw[h1];rfl
def AsG {L:List Int} {n:Nat} {o:Option (Bs×List Int×Int)} (h:Dam L n o):Ends (fun r=>r.1.length<=n/\KY L r.2) o:=by obtain⟨r,d,h1,h2,h3⟩:=h;exact⟨(r,d),h1,h3,h2⟩
def Arv (N:Nat) (p0:Bs) (p1:List Int) (hN:1048578<N) (hL:p1.length<=9223372036854775807) (haw:Tt N=some true):NF N p0 p1=some true:=by
 refine(fun h=>by obtain⟨w,h1,rfl⟩:=h;exact h1:Ends (fun r=>r=true) (NF N p0 p1)->_) ?_;unfold NF;try simp -zeta only[Ap]
 refine Jv (fun _=>by rw[haw,Jt];exact Ju rfl) (fun h0=> ?_);have h0: ¬(p0.length:Int)>300:=DY h0;rw[show Ah6 N p1=some (p1,0)from rfl,Jt];refine Jz (A1I N hN hL (d:=(p1,0)) ⟨0,rfl,DN _⟩) ?_;rintro ⟨l,d⟩ ⟨⟨x,hx,hl⟩,hd⟩;dsimp only at hl hd ⊢;subst hl;rw[AxR hN hx,Jt]
 have hs:(Ao7 (Xv x) Aff).length<=130000:=by
  have h1:=AqR hN hx;have h2:Xd.length<=100:=by decide +kernel
  have h3:=Sp.JM 48 (Av0 (Xv x) Aff);have h4:=Sp.JM 3 (0::Aff);have h5:(0::Aff).length=13:=rfl;unfold Ao7;unfold Av0 at h3 ⊢;rw[Dp,Dp]at h3;omega
 generalize Ao7 (Xv x) Aff=s at hs ⊢;refine Jz (AsG (Amo N hL hd s (by omega))) ?_;rintro ⟨s1,d1⟩ ⟨hs1,hd1⟩;dsimp only at hs1 hd1 ⊢;refine Jz (AsG (AvS N hL (by omega) N s (by omega) (by omega) (by omega) d1 hd1)) ?_;rintro ⟨s2,d2⟩ ⟨hs2,_⟩;dsimp only at hs2 ⊢;have hall: ∀ y∈ [p0,s,s1,s2],y.length<=1048576:=by intro y hy;simp only[D7,Fp,GK]at hy;rcases hy with rfl | rfl | rfl | rfl<;>omega
 have hlen: [p0,s,s1,s2].length=4:=rfl;generalize [p0,s,s1,s2]=A at hall hlen ⊢;refine KP (fun(x:Int×List Bs)=>0<=x.1/\x.1<=4/\x.2=A) (fun x=>(4 - x.1).toNat) ?_ N _ ⟨by dsimp only;omega,by dsimp only;omega,rfl⟩ (by dsimp only;omega);rintro ⟨t,B⟩ ⟨g0,g1,rfl⟩ k hk;dsimp only at g0 g1 hk hall hlen;dsimp only[U2];refine Jv (fun ht=> ?_) (fun _=>by rw[haw,Jt];exact Ju rfl);have ht:t<4:=D6 ht;have hti:t.toNat<B.length:=by rw[hlen];omega
 refine J9 (Di g0) (J9 (Di (by rw[hlen];omega)) (J9 (Di hti) ?_));have hy:=hall _ (getD_mem ([]:Bs) hti);generalize B.getD t.toNat []=y at hy ⊢;obtain⟨⟨l,e⟩,hD,_⟩:=Ato hN y hy;rw[hD,Jt,w64 (x:=t+1)];dsimp only;by_cases he:e=0
 .subst he;obtain⟨q1,⟨x2,q2,q3⟩,q4⟩:=Awt hN hy hD;subst q3;rw[show((0:Int) != 0)=false from rfl,cond_false,q2,Jt];dsimp only;rw[q4,Jt,q1];simp only[o8,ET,Gh,EI,Et,EF,DU,cond_true,cond_false,JI,FM,GG];exact hk _ ⟨by dsimp only;omega,by dsimp only;omega,rfl⟩ (by dsimp only;omega)
 .rw[UU he,cond_true];exact hk _ ⟨by dsimp only;omega,by dsimp only;omega,rfl⟩ (by dsimp only;omega)
def Ai8 (p0:Bs) (p1:List Int) (hL:p1.length<=9223372036854775807):NF 2097152 p0 p1=some true:=by have h:=Ay2;unfold N0 at h;exact Arv 2097152 p0 p1 (by omega) hL h
end Go.Proofs.YtmgpaalplkkpnaaGreatDoor.Pl
namespace Go.Proofs.YtmgpaalplkkpnaaGreatDoor.Vm
open Go.RowKit
def Moves.below {T:Nat->Prop} {w w':World} (h:Moves (fun _ _=>none) T w w'):Below w.heap.size w w' :=
 ⟨h.os,h.tape,h.output,h.size,fun b hb=>by
   rcases h.blk b hb with e | ⟨c,c',e,fr,_,_,_,_,k,o,_,ho,_⟩ | ⟨_,_,_,_,o,_,_,ho,_⟩
   .exact e
   .cases ho
   .cases ho⟩
def Sig.A4E {J7 JP:List Sh} {f:ShT J7->Option (ShT (MV J7 JP))} {xs:List A} {a:ShT J7} {o:ShT (MV J7 JP)} (hd:bP J7 xs=some a) (hf:f a=some o):(Sig.of J7 JP f).F xs=some (encs (MV J7 JP) o):=by unfold Sig.F Sig.of;dsimp only;rw[hd];dsimp only;rw[hf];rfl
def Axi {P:Program} {f:FuncId} {sg:Sig} (h:Spec P f sg) {xs:List A} {vs:Array Value} {W:World} (hF:sg.F xs=some [.bool true]) (hress:sg.JP=[.cell false .bool]) (hv:vs.size=xs.length) (hl:xs.length=sg.J7.length) (h100:xs.length<=100)
 (hx: ∀ j,j<xs.length->IR (fun _ _=>none) W (256*j) (vs.getD j undef) (xs.getD j .undef)) (hI:Inv (fun _ _=>none) W):Calls P f vs W fun e w'=>e= .returned (.bool true)/\Below W.heap.size W w':=by
 refine(h.2 (fun _ _=>none) W vs xs _ hI hv hl h100 hx hF).mono fun e w' hq=> ?_;obtain⟨v,O',he,hc⟩:=hq;obtain⟨us,h1,h2,h3⟩:=hc.res;rw[hress]at h1;have h1':us.size=1:=h1;have h4:JC O' w' (us.getD 0 undef) (.bool true):=h3 0 (by omega);have h5:us.getD 0 undef= .bool true:=by generalize us.getD 0 undef=z at h4;cases h4;rfl
 have h6:v= .bool true:=by rw[h2,Iq h1',<- h5];simp [Du,h1']
 exact⟨by rw[he,h6],hc.moves.below⟩
open Go.ChangeShapes Go.WideShapes
def nobody:Own:=fun _ _=>none
def AzE:A->Prop
 | .int k n=>k.min<=n/\n<=k.max
 | .str s=>s.length<=9223372036854775807
 | _=>True
def okN:Nat->A->Prop
 | 0,_=>False
 | n+1,.sl l=>l.xs.length<=9223372036854775807/\ ∀ c∈l.es,∀ a∈c,okN n a
 | _+1,a=>AzE a
structure Opened (n:Nat) (w:World) (ks:List CK) (cs:List Value) (aa:List A):Prop where
 lc:cs.length=ks.length
 la:aa.length=ks.length
 rel: ∀ j,j<ks.length->JC nobody w (cs.getD j undef) (aa.getD j .undef)
 made:((tyl ks).mk aa).1=true
 ok: ∀ a∈aa,okN n a
def A3n: ∀(n:Nat) (a:A),okN n a->okN (n+1) a:=by
 intro n
 induction n with
 | zero=>intro a h;exact h.elim
 | succ n ih =>intro a h;cases a<;>first | exact h | exact⟨h.1,fun c hc z hz=>ih z (h.2 c hc z hz)⟩
def Opened.up {n:Nat} {w:World} {ks:List CK} {cs:List Value} {aa:List A} (h:Opened n w ks cs aa):Opened (n+1) w ks cs aa:=⟨h.lc,h.la,h.rel,h.made,fun a ha=>A3n n a (h.ok a ha)⟩
def Axv: ∀(a:List CK) {b:List CK} {x y:List A},((tyl a).mk x).1=true->((tyl b).mk y).1=true->((tyl (a++b)).mk (x++y)).1=true:=by
 intro a
 induction a with
 | nil =>
  intro b x y hx hy;cases x with
  | nil=>exact hy
  | cons _ _=>cases hx
 | cons k a ih =>
  intro b x y hx hy;cases k with
  | bool =>
   cases x with
   | nil=>cases hx
   | cons c x=>cases c<;>first | exact ih (x:=x) hx hy | cases hx
  | int k =>
   cases x with
   | nil=>cases hx
   | cons c x =>
    cases c<;>first
     | (simp only[tyl,Ty.mk,Dq]at hx
        simp only[List.cons_append,tyl,Ty.mk,Dq];exact⟨hx.1,ih hx.2 hy⟩)
     | cases hx
  | str =>
   cases x with
   | nil=>cases hx
   | cons c x=>cases c<;>first | exact ih (x:=x) hx hy | cases hx
  | sl e t =>
   cases x with
   | nil=>cases hx
   | cons c x =>
    cases c with
    | sl l =>
     simp only[tyl,Ty.mk]at hx;simp only[List.cons_append,tyl,Ty.mk];cases hc:l.cast t with
     | none=>rw[hc]at hx;cases hx
     | some xs=>rw[hc]at hx;exact ih (x:=x) hx hy
    | _=>cases hx
  | sln e t =>
   cases x with
   | nil=>cases hx
   | cons c x =>
    cases c with
    | sl l =>
     simp only[tyl,Ty.mk]at hx;simp only[List.cons_append,tyl,Ty.mk];cases hc:l.cast t with
     | none=>rw[hc]at hx;cases hx
     | some xs=>rw[hc]at hx;exact ih (x:=x) hx hy
    | _=>cases hx
  | ptr =>
   cases x with
   | nil=>cases hx
   | cons c x=>cases c<;>first | exact ih (x:=x) hx hy | cases hx
  | fn =>
   cases x with
   | nil=>cases hx
   | cons c x=>cases c<;>first | exact ih (x:=x) hx hy | cases hx
  | mp kt vt =>
   cases x with
   | nil=>cases hx
   | cons c x =>
    cases c with
    | ump l =>
     simp only[tyl,Ty.mk]at hx;simp only[List.cons_append,tyl,Ty.mk];cases hc:l.cast kt vt with
     | none=>rw[hc]at hx;cases hx
     | some xs=>rw[hc]at hx;exact ih (x:=x) hx hy
    | _=>cases hx
  | bx t =>
   cases x with
   | nil=>cases hx
   | cons c x =>
    cases c with
    | sl l =>
     simp only[tyl,Ty.mk]at hx;simp only[List.cons_append,tyl,Ty.mk];cases hc:l.cast t with
     | none=>rw[hc]at hx;cases hx
     | some xs=>rw[hc]at hx;exact ih (x:=x) hx hy
    | _=>cases hx
  | oth =>
   cases x with
   | nil=>cases hx
   | cons c x=>cases c<;>first | exact ih (x:=x) hx hy | cases hx
theorem Opened.nil {n:Nat} {w:World}:Opened n w [] [] []:=⟨rfl,rfl,fun j hj=>absurd hj (Hy j),rfl,fun a ha=>(by cases ha)⟩
def Opened.append {n:Nat} {w:World} {a b:List CK} {x y:List Value} {p q:List A} (h1:Opened n w a x p) (h2:Opened n w b y q):Opened n w (a++b) (x++y) (p++q):=by
 refine⟨by simp [h1.lc,h2.lc],by simp [h1.la,h2.la],fun j hj=> ?_,Axv a h1.made h2.made,fun z hz=> ?_⟩
 .rw[Dp]at hj;by_cases h:j<a.length
  .have:=h1.rel j h;rw[Dj,Es (by rw[h1.lc];exact h),<- Dj,Dj (l:=p++q),Es (by rw[h1.la];exact h),<- Dj];exact this
  .have:=h2.rel (j - a.length) (by omega);rw[Dj,EJ (by rw[h1.lc];omega),<- Dj,Dj (l:=p++q),EJ (by rw[h1.la];omega),<- Dj,h1.lc,h1.la];exact this
 .rcases DK.1 hz with hz | hz
  .exact h1.ok z hz
  .exact h2.ok z hz
def Opened.one {n:Nat} {w:World} {k:CK} {v:Value} {a:A} (hr:JC nobody w v a) (hm:((tyl [k]).mk [a]).1=true) (ho:okN n a):Opened n w [k] [v] [a] :=
 ⟨rfl,rfl,fun j hj=>by
   have:j=0:=by simp at hj;omega
   subst this;exact hr,hm,fun z hz=>by rw[DR.1 hz];exact ho⟩
def dW (P:Program) (n t:Nat):Nat:=match P5 P n t with | some cs=>cs.length | none=>0
def AjH (P:Program) (n:Nat):List Field->Nat->Bool
 | [],_=>true
 | f::r,o=>Nat.beq f.offset o&&Nat.beq (P.cellsOf f.type) (dW P n f.type)&&AjH P n r (o+dW P n f.type)
def Aa1 (P:Program):Nat->Nat->Bool
 | 0,_=>false
 | n+1,t=>match P.underlying t with
  | some .bool=>true
  | some (.int _)=>true
  | some .string=>true
  | some (.slice e)=>Aa1 P n e&&Nat.beq (P.cellsOf e) (dW P n e)&&Nat.blt 0 (dW P n e)&&(match P5 P n e with | some cs=>cs.all CK.plain | none=>false)
  | some (.struct fs)=>Nat.beq (P.cellsOf t) (dW P (n+1) t)&&AjH P n fs.toList 0&&fs.toList.all (fun f=>Aa1 P n f.type)
  | _=>false
section
variable {H:Type} {enc:TypeId×Value->H} {P:Program} {w:World} {base:Nat} {spare:Nat->Bool} {held:Bool}
theorem Adw {a:Addr} {n:Nat} {cs:List Value} (h:w.cells? base a n=some cs):cs.length=n/\ ∀ j,j<n->w.cell? (a.add j)=some (cs.getD j undef):=by
 unfold World.cells? at h;split at h
 .have key: ∀(l:List Nat) (cs:List Value),l.mapM (fun i=>w.cell? (a.add i))=some cs->cs.length=l.length/\ ∀ j (hj:j<l.length),w.cell? (a.add l[j])=some (cs.getD j undef):=by
   intro l
   induction l with
   | nil=>grind
   | cons i l ih =>
    intro cs h;rw[I9]at h;cases h1:w.cell? (a.add i)with
    | none=>rw[h1]at h;cases h
    | some v =>
     rw[h1]at h;cases h2:l.mapM (fun i=>w.cell? (a.add i))with
     | none=>rw[h2]at h;cases h
     | some r =>
      rw[h2]at h;injection h with h;subst h;obtain⟨k1,k2⟩:=ih r h2;refine⟨by simp [k1],fun j hj=> ?_⟩;cases j with
      | zero=>exact h1
      | succ j=>grind
  all_goals grind
 .cases h
theorem A0j {l:List Value} {o a b:Nat}:(l.drop o).take (a+b)=(l.drop o).take a++(l.drop (o+a)).take b:=by rw[List.take_add,FU]
theorem Acd (e:Nat) (t:Ty) (xs:List t.Val):((tyl [.sl e t]).mk [.sl ⟨t,xs⟩]).1=true:=by simp only[tyl,Ty.mk];rw[Sl.gB];rfl
theorem Asz (hspare: ∀ b,spare b=true): ∀(n:Nat) (t:TypeId) (ks:List CK) (fuel:Nat) (cs:List Value) (x:DataW H×List MemPlace),P5 P n t=some ks->Aa1 P n t=true->DataW.trod enc P w base spare held fuel t cs=some x ->
 ∃ aa,Opened n w ks cs aa:=by
 intro n
 induction n with
 | zero=>intro t ks fuel cs x h;cases h
 | succ n ih =>
  intro t ks fuel cs x hck hok h;unfold P5 at hck;unfold Aa1 at hok;cases hu:P.underlying t with
  | none=>rw[hu]at hck;cases hck
  | some d =>
   rw[hu]at hck hok;cases d with
   | bool =>injection hck with hck;subst hck;obtain⟨b,rfl,_⟩:=DataW.trod_bool hu h;exact⟨[.bool b],Opened.one (.bool b) rfl trivial⟩
   | int k =>
    injection hck with hck;subst hck;obtain⟨v,rfl,_,hw⟩:=DataW.trod_int hu h;have hk:AzE (.int k v):=by unfold Lit.wf at hw;rw[Dq,D5,D5]at hw;exact hw
    exact⟨[.int k v],Opened.one (.int k v) (by cases k<;>rfl) hk⟩
   | string =>
    injection hck with hck;subst hck;obtain⟨v,rfl,_,hw⟩:=DataW.trod_string hu h
    have hk:AzE (.str v.data.toList):=by
     show v.data.toList.length<=_;have e:v.data.toList.length=v.size:=by rw[Array.length_toList];rfl
     have:maxLen=9223372036854775807:=rfl;omega
    exact⟨[.str v.data.toList],Opened.one (.str v) rfl hk⟩
   | slice e =>
    dsimp only at hck hok;simp only[Dq]at hok;obtain⟨⟨⟨hoe,hce⟩,hc0⟩,hpl⟩:=hok;cases hke:P5 P n e with
    | none=>rw[hke]at hpl;cases hpl
    | some ke =>
     rw[hke]at hck hpl;dsimp only at hck hpl;rw[hpl]at hck;injection hck with hck;subst hck;have hlen:P.cellsOf e=ke.length:=by have:=Dy hce;unfold dW at this;rw[hke]at this;exact this
     rcases DataW.trod_slice hu h with ⟨rfl,_⟩ | ⟨a,len,cap,elems,rest,m,_,rfl,_,hb,hl,hm,hel,hels,hsp,_⟩
     .exact⟨[.sl ⟨tyl ke,[]⟩],Opened.one (.nil _) (Acd _ _ _) ⟨DN _,fun c hc=>(by cases hc)⟩⟩
     .by_cases hcap:cap=0
      .have hlen0:len=0:=by omega
       subst hcap;subst hlen0;exact⟨[.sl ⟨tyl ke,[]⟩],Opened.one (.sl0 a _) (Acd _ _ _) ⟨DN _,fun c hc=>(by cases hc)⟩⟩
      have hk0:0<P.cellsOf e:=by have h2:=Dy hce;rw[h2];simpa using hc0
      have hread: ∃ u,w.cell? a=some u:=by
       by_cases h0:0<len
       .have he:=hels 0 h0;rw[DD (by omega:0<elems.length),Hm]at he;obtain⟨q,hq,_⟩:=he;obtain⟨_,k2⟩:=Adw hq;have:=k2 0 hk0;rw[Iu]at this;exact⟨_,this⟩
       .have hz:len=0:=by omega
        obtain⟨hr1,hr2⟩:=hsp (hspare _);have he:=hr2 0 (by omega);rw[DD (by omega:0<rest.length),Hm]at he;obtain⟨q,hq,_⟩:=he;obtain⟨_,k2⟩:=Adw hq;have:=k2 0 hk0;rw[hz,Iu]at this;exact⟨_,this⟩
      have hspot:a.spot=none:=by
       obtain⟨u,hu⟩:=hread;unfold World.cell? at hu;split at hu
       .cases hs:a.spot with
        | none=>rfl
        | some z=>rw[hs]at hu;cases hu
       .cases hu
      have ha:a=at' a.block a.off:=by obtain⟨b,o,sp⟩:=a;dsimp only at hspot;rw[hspot]
      have each: ∀ i,∃(q:List Value) (aa:List A),i<len->(∀ j,j<ke.length->w.cell? (at' a.block (a.off+(i*ke.length+j)))=some (q.getD j undef))/\Opened n w ke q aa:=by
       intro i;by_cases hi:i<len
       .have he:=hels i hi;have hei:elems[i]? =some (elems[i]'(by omega)):=DD (by omega);rw[hei,Hm]at he;obtain⟨q,hq,hq2⟩:=he;obtain⟨k1,k2⟩:=Adw hq;rw[hlen]at k1 k2;obtain⟨aa,h1⟩:=ih e ke m q _ hke hoe hq2;refine⟨q,aa,fun _=>⟨fun j hj=> ?_,h1⟩⟩;have:=k2 j hj;rw[ha,SA,SA]at this;rw[<- this];congr 2;omega
       .exact⟨[],[],fun h=>absurd h hi⟩
      obtain⟨q,hq⟩:=Hl each;obtain⟨aa,haa⟩:=Hl hq;let l:Sl:=⟨tyl ke,(List.range len).map fun i=>((tyl ke).mk (aa i)).2⟩
      have hes:l.es=(List.range len).map aa:=by show((List.range len).map fun i=>((tyl ke).mk (aa i)).2).map (tyl ke).cells=_;rw[Fh];refine E5 fun i hi=> ?_;exact Ty.UC _ _ (haa i (Fe.1 hi)).2.made
      have hesl:l.es.length=len:=by rw[hes,Dz,Ef]
      have hsz:l.sz=ke.length:=WU ke;have hget: ∀ i,i<len->l.es.getD i []=aa i:=fun i hi=>by rw[hes,Dj,EC,IQ hi];rfl
      have hrel:JC nobody w (.slice (some a) len cap) (.sl l):=by
       rw[ha,<- hesl];refine JC.sl (fun i j=>(q i).getD j undef) (by rw[hesl];exact hl) (fun i j hi hj=> ?_) (fun i j hi hj=> ?_)
       .rw[hsz]at hj ⊢;exact⟨rfl,(haa i (by rw[<- hesl];exact hi)).1 j hj⟩
       .rw[hsz]at hj;have hi':i<len:=by rw[<- hesl];exact hi
        rw[hget i hi'];exact(haa i hi').2.rel j hj
      refine⟨[.sl l],Opened.one hrel (Acd _ _ _) ⟨?_,fun c hc z hz=> ?_⟩⟩
      .show((List.range len).map _).length<=_;rw[Dz,Ef];have:maxLen=9223372036854775807:=rfl;omega
      .rw[hes]at hc;obtain⟨i,hi,rfl⟩:=DI.1 hc;exact(haa i (Fe.1 hi)).2.ok z hz
   | struct fs =>
    dsimp only at hck hok;simp only[Dq]at hok;obtain⟨⟨hcl,hoff⟩,hall⟩:=hok;obtain⟨xs,m,_,_,hl,hxl,hxs⟩:=DataW.trod_struct hu h
    have fields: ∀(l:List Field) (o:Nat) (ks:List CK),l.foldr (fun f acc=>match P5 P n f.type,acc with | some a,some b=>some (a++b) | _,_=>none) (some [])=some ks->AjH P n l o=true->(∀ f∈l,Aa1 P n f.type=true) ->
     (∀ f∈l,∃ y,DataW.trod enc P w base spare held m f.type ((cs.drop f.offset).take (P.cellsOf f.type))=some y)-> ∃ aa,Opened n w ks ((cs.drop o).take ks.length) aa:=by
     intro l
     induction l with
     | nil =>intro o ks hk _ _ _;injection hk with hk;subst hk;exact⟨[],Opened.nil⟩
     | cons f r ihr =>
      intro o ks hk ho hf hy;rw[List.foldr_cons]at hk;cases ha:P5 P n f.type with
      | none=>rw[ha]at hk;cases hk
      | some a =>
       rw[ha]at hk;cases hb:r.foldr (fun f acc=>match P5 P n f.type,acc with | some a,some b=>some (a++b) | _,_=>none) (some [])with
       | none=>rw[hb]at hk;cases hk
       | some b =>
        rw[hb]at hk;injection hk with hk;subst hk;have hal:dW P n f.type=a.length:=by unfold dW;rw[ha]
        unfold AjH at ho;simp only[Dq]at ho;obtain⟨⟨h1,h2⟩,h3⟩:=ho;have h1:=Dy h1;have h2:=Dy h2;rw[hal]at h2 h3;obtain⟨y,hy1⟩:=hy f Dv;rw[h1,h2]at hy1;obtain⟨pa,p1⟩:=ih f.type a m _ y ha (hf f Dv) hy1;obtain⟨pb,q1⟩:=ihr (o+a.length) b hb h3 (fun g hg=>hf g (Dx _ hg)) (fun g hg=>hy g (Dx _ hg));refine⟨pa++pb,?_⟩;rw[Dp,A0j];exact p1.append q1
    obtain⟨aa,h1⟩:=fields fs.toList 0 ks hck hoff (fun f hf=>D8.1 hall f hf) (fun f hf=>by
     obtain⟨i,hi⟩:=List.getElem?_of_mem hf;have hi':fs[i]? =some f:=by rw[<- Eg];exact hi
     have:=hxs i f hi';have hlt:i<xs.length:=by rw[hxl];exact(Ea.1 hi').1
     rw[DD hlt]at this;exact⟨_,this⟩)
    have hcs:(cs.drop 0).take ks.length=cs:=by
     rw[Ic];refine Fq ?_;have h3:=Dy hcl;have h4:dW P (n+1) t=ks.length:=by unfold dW P5;rw[hu];dsimp only;rw[hck]
     omega
    rw[hcs]at h1;exact⟨aa,h1.up⟩
   | _=>cases hok
theorem AtQ {r:Reach} {b0:Nat} {u:TypeId} {cs:Array Value} (h:Cell.okWide P w r b0 u (.agg cs)):False:=by
 have h':Cell.ok P w r b0 u (.agg cs):=by unfold Cell.okWide at h;all_goals grind
 unfold Cell.ok at h';all_goals grind
def A24 (P:Program) (t:TypeId):Bool:=match P.underlying t with
 | some (.struct _)=>true
 | some (.array _ _)=>true
 | _=>false
theorem open_cell {r:Reach} {b0 n:Nat} {t:TypeId} {v:Value} {d:DataW H} {ps:List MemPlace} {k:CK} (hck:P5 P n t=some [k]) (hspare: ∀ b,spare b=true) (hok:Aa1 P n t=true) (ha:A24 P t=false) (hval:Value.okWide P w r b0 t v) (hd:DataW.Trod enc P w base spare held t v d ps) :
 ∃ a,JC nobody w v a/\((tyl [k]).mk [a]).1=true/\okN n a:=by
 have hc:Cell.okWide P w r b0 t v:=by unfold Value.okWide at hval;all_goals grind[A24]
 have hcells:v.cells.toList=[v]:=by
  cases v with
  | agg cs=>exact(AtQ hc).elim
  | _=>rfl
 obtain⟨fuel,h⟩:=hd;rw[hcells]at h;obtain⟨aa,h1⟩:=Asz hspare n t [k] fuel [v] _ hck hok h;obtain⟨a,rfl⟩: ∃ a,aa=[a]:=FC.1 h1.la;exact⟨a,h1.rel 0 (by show 0<1;omega),h1.made,h1.ok a Dv⟩
theorem Opened.ir {n:Nat} {ks:List CK} {cs:Array Value} {aa:List A} (h:Opened n w ks cs.toList aa) (id:Nat):IR nobody w id (.agg cs) (.agg aa):=by
 refine⟨cs,rfl,?_,fun j hj=>JC.ic ?_⟩
 .rw[<- Array.length_toList,h.lc,h.la]
 .have:=h.rel j (by rw[<- h.la];exact hj);all_goals simp_all[CK,IR,nobody]
theorem JC.ir {id:Nat} {v:Value} {a:A} (h:JC nobody w v a):IR nobody w id v a:=by have:=h.ic (id:=id);cases h<;>exact this
end
open Go Go.Lib
abbrev tabs:List (String×DataW Unit):=[("math/bits.deBruijn32tab",Rows.laid_math_bits_deBruijn32tab),("math/bits.deBruijn64tab",Rows.laid_math_bits_deBruijn64tab),("internal/strconv.uint64pow10",Rows.laid_internal_strconv_uint64pow10),("unicode/utf8.acceptRanges",Rows.laid_unicode_utf8_acceptRanges),("certpath/date.lengths",Rows.laid_certpath_date_lengths),("unicode/utf8.first",Rows.laid_unicode_utf8_first)]
def A4C:DataW Unit->Value
 | .lit (.int k n)=>.int k n
 | _=>undef
def Ama:DataW Unit->List Value
 | .agg l=>l.map A4C
 | _=>[]
def A4H:DataW Unit->List Value
 | .agg l=>l.flatMap Ama
 | _=>[]
noncomputable def laidWorld (os:Os):World :=
 let w0:=World.holding Tryz.prog os ⟨#[],#[],[]⟩
 {w0 with heap:=(((((w0.heap.modify 2 fun
  | .cells _ t frozen=>.cells (Ama Rows.laid_internal_strconv_uint64pow10).toArray t frozen
  | o=>o).modify 3 fun
  | .cells _ t frozen=>.cells (Ama Rows.laid_unicode_utf8_first).toArray t frozen
  | o=>o).modify 4 fun
  | .cells _ t frozen=>.cells (A4H Rows.laid_unicode_utf8_acceptRanges).toArray t frozen
  | o=>o).modify 5 fun
  | .cells _ t frozen=>.cells (Ama Rows.laid_math_bits_deBruijn32tab).toArray t frozen
  | o=>o).modify 0 fun
  | .cells _ t frozen=>.cells (Ama Rows.laid_certpath_date_lengths).toArray t frozen
  | o=>o).modify 6 fun
  | .cells _ t frozen=>.cells (Ama Rows.laid_math_bits_deBruijn64tab).toArray t frozen
  | o=>o}
def laid_met (os:Os) (args:Array Value):laidMet Tryz.prog tabs ((laidWorld os).forCall (fun _ _=>0) ⟨#[],args,[]⟩).memory :=
 laidMet_of_run' 8 (by kernel_rfl) (by kernel_rfl)
set_option maxRecDepth 1000000 in
def AoO {W:World} (h:laidMet Tryz.prog tabs W) {nm:String} {D:DataW Unit} (hm:(nm,D)∈tabs) {g tA tE n:Nat} {k:IntKind} {f:Nat->Int} (hg0:Tryz.prog.globalNamed nm=some g) (ht0:(Tryz.prog.globals[g]?).map (·.type)=some tA) (hu:Tryz.prog.underlying tA=some (.array n tE)) (hu2:Tryz.prog.underlying tE=some (.int k)) (hc:Tryz.prog.cellsOf tE=1)
 (hds:D= .agg ((List.range n).map fun j=>.lit (.int k (f j)))) (j:Nat) (hj:j<n):W.cell? ⟨g,j,none⟩=some (.int k (f j)):=by
 obtain⟨g',t,cs,fuel,p,hg,ht,hvar,hd⟩:=laidMet.reads h (n:=nm) (d:=D) hm;obtain rfl:=Ei (hg0.symm.trans hg);obtain rfl:=Ei (ht0.symm.trans ht);rw[hds]at hd;obtain⟨fuel',d,q,h1,h2⟩:=array_elem hu hd j hj;rw[EC,IQ hj]at h1;have h1:=Ei h1;subst h1;rw[hc,Fj]at h2;obtain⟨m,h3,h4,_⟩:=DataW.trod_int hu2 h2;have hn:f j=m:=by have:=congrArg Prod.fst h4;injection this with this;injection this with _ this
 rw[World.var?_cell hg hvar j]
 have h5:(cs.toList.drop j)[0]? =some (.int k m):=by
  have:((cs.toList.drop j).take 1)[0]? =some (.int k m):=by rw[h3];rfl
  rwa [GY (by omega)]at this
 rw[FZ,Nat.add_zero,Eg]at h5;rw[h5,hn]
set_option maxRecDepth 1000000 in
def AzJ {W:World} (h:laidMet Tryz.prog tabs W) (j:Nat) (hj:j<20):W.cell? ⟨2,j,none⟩=some (.int .u64 ((10 ^ j:Nat):Int)):=by
 have hds:(Rows.laid_internal_strconv_uint64pow10:DataW Unit)= .agg ((List.range 20).map fun j=>.lit (.int .u64 ((10 ^ j:Nat):Int))):=by kernel_rfl
 have hm:(("internal/strconv.uint64pow10",Rows.laid_internal_strconv_uint64pow10):String×DataW Unit)∈tabs:=Dx _ (Dx _ Dv);generalize (Rows.laid_internal_strconv_uint64pow10:DataW Unit)=D at hds hm;exact AoO h (nm:= "internal/strconv.uint64pow10") (D:=D) hm (g:=2) (tA:=332) (tE:=223) (n:=20) (k:=.u64) (f:=fun j=>((10 ^ j:Nat):Int)) (by kernel_rfl) (by kernel_rfl) (by kernel_rfl) (by kernel_rfl) (by kernel_rfl) hds j hj
set_option maxRecDepth 1000000 in
def Azy {W:World} (h:laidMet Tryz.prog tabs W) (j:Nat) (hj:j<12):W.cell? ⟨0,j,none⟩=some (.int .i64 (([31,28,31,30,31,30,31,31,30,31,30,31]:List Int).getD j 0)) :=
 AoO h (nm:= "certpath/date.lengths") (D:=Rows.laid_certpath_date_lengths) (Dx _ (Dx _ (Dx _ (Dx _ Dv)))) (g:=0) (tA:=255) (tE:=3) (n:=12) (k:=.i64) (f:=fun j=>([31,28,31,30,31,30,31,31,30,31,30,31]:List Int).getD j 0) (by kernel_rfl) (by kernel_rfl) (by kernel_rfl) (by kernel_rfl) (by kernel_rfl) (by kernel_rfl) j hj
def inv_of {W:World} (hs:W.ShapedOpen Tryz.prog) (hl:laidMet Tryz.prog tabs W):Inv nobody W:=by
 refine⟨fun g j p h=> ?_,fun g n h=> ?_⟩
 .unfold yS at h;split at h
  .injection h with h;subst h;obtain⟨m,hm⟩:=cell_of_shapedOpen_int (P:=Tryz.prog) (g:=1) (t:=3) (zero:= #[.int .i64 0]) (k:=.i64) hs (D6 (by kernel_rfl)) (by kernel_rfl) rfl (by kernel_rfl) (by kernel_rfl) (by kernel_rfl);exact⟨rfl,_,hm,m,rfl⟩
  .split at h
   .rename_i hj;injection h with h;subst h;exact⟨rfl,_,AzJ hl _ hj,rfl⟩
   .cases h
  .unfold Afm at h;split at h
   .have h:(if j<12 then some (fun v=>v=Value.int .i64 (([31,28,31,30,31,30,31,31,30,31,30,31]:List Int).getD j 0))else none)=some p:=h;split at h
    .rename_i hj;injection h with h;subst h;exact⟨rfl,_,Azy hl _ hj,rfl⟩
    .cases h
   .cases h
 .unfold A0l at h;split at h
  .injection h with h;subst h;obtain⟨cs,h1,h2,_⟩:=hs.1 2 (Array.replicate 20 (.int .u64 0)) 332 (D6 (by kernel_rfl)) (by kernel_rfl);exact⟨cs,_,_,h1,h2⟩
  .cases h
section
variable {H:Type} {enc:TypeId×Value->H}
theorem AqD {a:Assume} {C:Checked} {os:Os} {f:FuncId} {fn:Func} {s:ChangeSpec} {conds:List PathCond} {apart fresh handsOn again:Bool} {X:World->Array Value->Prop}
 (hX: ∀(w w':World) (args:Array Value),w.heap=w'.heap->X w args->X w' args)
 (own:ownKnob C.prog.godebug=none) (started:os.Started) (noInit:C.prog.inits.idxOf? f=none) (hfn:C.prog.funcs[f]? =some fn)
 (witness: ∃(w:World) (tape:Tape) (i:Input),w.os=os/\(w.forCall tape i).Shaped C.prog/\i.vars=[]/\Input.okWide C.prog (w.forCall tape i) .any w.heap.size f i /\
   ((s.pre enc C.prog fn conds apart (w.forCall tape i).memory i.args/\X (w.forCall tape i).memory i.args)/\sizedMet enc C.prog fn (OpenSpec.ofChange s) apart (w.forCall tape i).memory i.args)/\a.holds C.prog (lone (Frame.enter C.prog f i.args .normal) [] (w.forCall tape i)))
 (contract: ∀(W:World) (base:Nat) (args:Array Value) (ds gs:List (DataW H)) (before:List MemPlace),
   (∀(j:Nat) t v,fn.params[j]? =some t->args[j]? =some v->Value.okWide C.prog W .any base t v) ->
   DataW.Whole enc C.prog fn.params.toList s.vars apart W args.toList ds gs before->W.ShapedOpen C.prog->X W args ->
   Calls C.prog f args W fun e W'=> ∃ v,e= .returned v/\s.post enc C.prog fn apart fresh handsOn again W args v W') :
 ReturnsInHanded a C os f .any (fun w args=>(s.pre enc C.prog fn conds apart w args/\X w args)/\sizedMet enc C.prog fn (OpenSpec.ofChange s) apart w args) (s.post enc C.prog fn apart fresh handsOn again):=by
 refine returnsInHanded_of_calls own started noInit witness ?_;intro w tape i _ hsh _ hok hpre _;obtain⟨_,_,_,fn',hfn',_,_,_,_,hval⟩:=hok;obtain rfl:=Ei (hfn'.symm.trans hfn);obtain⟨⟨⟨ds,gs,before,hw,_⟩,hx⟩,_⟩:=hpre;refine(contract (w.forCall tape i) w.heap.size i.args ds gs before hval (DataW.Whole.of_heap (w':=w.forCall tape i) (by rfl) hw) hsh (hX _ _ _ (by rfl) hx)).mono fun e W' ⟨v,he,hp⟩=> ?_;subst he;exact ChangeSpec.post_blind hp
end
end Go.Proofs.YtmgpaalplkkpnaaGreatDoor.Vm
