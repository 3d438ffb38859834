import Derived.Test.YtbgjmioccbacdaaGreatDoorA21
set_option linter.all false
namespace Go.Proofs.YtbgjmioccbacdaaGreatDoor.Pl
open IntKind (i64 u8 u32 u64)
open Go Vm
def b4P (p:Int):Bs:=List.map Vm.byteOf ([u8.wrap (p.fdiv (16777216)),u8.wrap (p.fdiv (65536)),u8.wrap (p.fdiv (256)),u8.wrap p]:List Int)
def b1P (p:Int):Bs:=List.map Vm.byteOf ([u8.wrap p]:List Int)
def Agf (N:Nat) (p:Int):lF N p=some (b4P p):=by
 unfold lF;try simp -zeta only[Aq]
 rw[JR _ (by simp [O9])];rfl
def Agd (N:Nat) (p:Int):lD N p=some (b1P p):=by
 unfold lD;try simp -zeta only[Aq]
 rw[JR _ (by simp [O9])];rfl
def wB (N:Nat) (p:Int):YQ N p=some (b4P p):=Agf N p
def hS (N:Nat) (l:List Bs):Bs:=(MO N l).getD []
structure Hok (N:Nat) (l:List Bs):Prop where
 n:150<=N
 m:N<=1000000000
 len:l.length<N
 each: ∀ s∈l,s.length+64<N
def nP {N:Nat} {l:List Bs} (h:Hok N l):MO N l=some (hS N l)/\(hS N l).length=16:=by obtain⟨v,e,hv⟩:=Am7 h.n h.m h.len h.each;unfold hS;rw[e];exact⟨rfl,hv⟩
def wk (f:Int->Bs->Bs) (a:Int):Nat->Bs->Bs
 | 0,x=>x
 | n+1,x=>wk f (a+1) n (f a x)
def Aur (f:Int->Bs->Bs): ∀(n:Nat) (a:Int) (m:Nat) (x:Bs),wk f a (n+m) x=wk f (a+n) m (wk f a n x):=by
 intro n
 induction n with
 | zero=>intro a m x;simp [wk]
 | succ n ih =>intro a m x;rw[show n+1+m=(n+m)+1 by omega];show wk f (a+1) (n+m) (f a x)=wk f (a+((n+1:Nat):Int)) m (wk f (a+1) n (f a x));rw[ih];congr 1;omega
def AoD {f:Int->Bs->Bs} (hf: ∀ t x,x.length=16->(f t x).length=16): ∀(n:Nat) (a:Int) (x:Bs),x.length=16->(wk f a n x).length=16:=by
 intro n
 induction n with
 | zero=>intro a x h;exact h
 | succ n ih=>intro a x h;exact ih _ _ (hf _ _ h)
def st (N:Nat) (p0:Bs) (p1 p2 t:Int) (x:Bs):Bs:=hS N [[67],p0,b4P p1,b1P p2,b1P t,x]
structure Big (N:Nat):Prop where
 n:2000<=N
 m:N<=1000000000
def hok {N:Nat} (h:Big N) {l:List Bs} (hl:l.length<=100) (hs:l.all (fun s=>decide (s.length<=1000))=true):Hok N l:=by have h1:=h.n;refine⟨by omega,h.m,by omega,fun s hm=> ?_⟩;have:=D5 (D7.1 hs s hm);omega
def Ard {N:Nat} (h:Big N) {p0:Bs} (h0:p0.length<=1000) (p1 p2 t:Int) {x:Bs} (hx:x.length=16):MO N [[67],p0,b4P p1,b1P p2,b1P t,x]=some (st N p0 p1 p2 t x)/\(st N p0 p1 p2 t x).length=16 :=
 nP (hok h (by simp) (by simp [h0,hx,b4P,b1P]))
def walk_eq {N:Nat} (h:Big N) {p0:Bs} (h0:p0.length<=1000) (p1 p2:Int) {a b:Int} (ha:0<=a) (hab:a<=b) (hb:b<=15) {x:Bs} (hx:x.length=16):Yq N p0 p1 p2 a b x=some (wk (st N p0 p1 p2) a (b - a).toNat x):=by
 unfold Yq;have hn:=h.n;refine Yl (X:=Bs×Int) (fun x=>x.1.length=16/\0<=x.2/\x.2<=b) (fun x=>(b - x.2).toNat) (fun x=>some (wk (st N p0 p1 p2) x.2 (b - x.2).toNat x.1)) ?_ N _ ⟨hx,ha,hab⟩ (by show(b - a).toNat<N;omega);rintro ⟨x,t⟩ ⟨h1,h2,h3⟩ k hk;have h1:x.length=16:=h1;have h2:0<=t:=h2;have h3:t<=b:=h3;dsimp only[U2];by_cases hlt:t<b
 .rw[Dk hlt,cond_true,Agf,Jr,Agd,Jr,Agd,Jr];obtain⟨e1,e2⟩:=Ard h h0 p1 p2 t h1;rw[e1,Jr,w64];refine(hk _ ⟨e2,by show 0<=t+1;omega,by show t+1<=b;omega⟩ (by show(b - (t+1)).toNat<(b - t).toNat;omega)).trans ?_;show some (wk _ (t+1) (b - (t+1)).toNat _)=some (wk _ t (b - t).toNat x);rw[show(b - t).toNat=(b - (t+1)).toNat+1 by omega];rfl
 .rw[DV hlt,cond_false];rw[show(b - t).toNat=0 by omega];rfl
def Aa3 {ρ :Type} {B:Int×List Bs->(Int×List Bs->Option ρ)->(List Bs->Option ρ)->Option ρ} {kx:List Bs->Option ρ} (n:Nat) (g:Nat->Bs)
 (h: ∀(i:Nat) (acc:List Bs) (k:Int×List Bs->Option ρ),i<n->acc.length=i->B ((i:Int),acc) k kx=k ((i:Int)+1,acc++[g i]))
 (hend: ∀(acc:List Bs) (k:Int×List Bs->Option ρ),acc.length=n->B ((n:Int),acc) k kx=kx acc) {N:Nat} (hN:n<N:=by omega):J4 B N (0,[]) kx=kx ((List.range n).map g):=by
 refine Yl (fun x=>x.1=(x.2.length:Int)/\x.2.length<=n/\x.2=(List.range x.2.length).map g) (fun x=>n - x.2.length) (fun _=>kx ((List.range n).map g)) ?_ N _ ⟨rfl,EF _,rfl⟩ (by show n - 0<N;omega);rintro ⟨t,acc⟩ ⟨h1,h2,h3⟩ k hk;have h1:t=(acc.length:Int):=h1;have h2:acc.length<=n:=h2;have h3:acc=(List.range acc.length).map g:=h3;subst h1;by_cases hl:acc.length<n
 .rw[h acc.length acc k hl rfl];refine hk _ ⟨by show(acc.length:Int)+1=((acc++[g acc.length]).length:Int);simp,by show(acc++[g acc.length]).length<=n;simp;omega,?_⟩ (by show n - (acc++[g acc.length]).length<n - acc.length;simp;omega);show acc++[g acc.length]=(List.range (acc++[g acc.length]).length).map g;rw[Dv,List.length_singleton,FU,EY,<- h3];rfl
 .have e:acc.length=n:=by omega
  have h4:=hend acc k e;rw[<- e]at h4;rw[h4,<- e];exact congrArg kx h3
def Amh (N:Nat) (p1:Bs) (p2:Int) (i:Nat):Bs:=hS N [[83],p1,b4P p2,b1P (i:Int)]
def WT {N:Nat} (h:Big N) {p1:Bs} (h1:p1.length<=1000) (p2:Int) (i:Nat):X7 N p1 p2 (i:Int)=some (Amh N p1 p2 i)/\(Amh N p1 p2 i).length=16:=by obtain⟨e1,e2⟩:=nP (N:=N) (l:=[[83],p1,b4P p2,b1P (i:Int)]) (hok h (by simp) (by simp [h1,b4P,b1P]));refine⟨?_,e2⟩;unfold X7;rw[Agf,Jr,Agd,Jr,e1];rfl
def Air (N:Nat) (p0 p1:Bs) (p2:Int) (i:Nat):Bs:=wk (st N p0 p2 (i:Int)) 0 15 (Amh N p1 p2 i)
def st_len {N:Nat} (h:Big N) {p0:Bs} (h0:p0.length<=1000) (p1 p2:Int): ∀ t x,x.length=16->(st N p0 p1 p2 t x).length=16:=fun t _ hx=>(Ard h h0 p1 p2 t hx).2
def Acm: ∀(l:List Bs),(∀ s∈l,s.length=16)->l.flatten.length=16*l.length:=by
 intro l
 induction l with
 | nil=>intro _;rfl
 | cons a r ih =>intro h;rw[List.flatten_cons,Dv,h a Du,ih fun s hs=>h s (Dy _ hs),List.length_cons];omega
def iN (b:UInt8):Int:=(b.toNat:Int)
def AmQ (l:Bs):(l.map iN).map Vm.byteOf=l:=by
 rw[EO]
 conv=>rhs;rw[<- Gq l]
 refine Ej fun b _=> ?_;show UInt8.ofNat ((b.toNat:Int)).toNat=b;simp
def An9 (l:Bs):(l.map iN).all Vm.isByte=true:=by rw[D7];intro x hx;obtain⟨b,_,rfl⟩:=DF.1 hx;have:=Arh b;unfold Vm.isByte iN;rw[Dk,Dk];rfl
def join_eq {N:Nat} (h:Big N) {l:List Bs} (hl:l.length<=1000) (h16: ∀ s∈l,s.length=16):bQ N l=some l.flatten:=by
 have hn:=h.n;have hf:=Acm l h16;unfold bQ;try simp -zeta only[Aq]
 rw[w64 (x:=(l.length:Int)*16),JR _ (Dk),JR _ (Dk),JR _ (Dk)];refine(Yl (X:=Int×List Int) (fun x=>0<=x.1/\x.1<=(l.length:Int)/\x.2.length=16*l.length/\x.2.take (16*x.1.toNat)=((l.take x.1.toNat).flatten).map iN) (fun x=>((l.length:Int) - x.1).toNat) (fun _=>some l.flatten) ?_ N _ ⟨by show(0:Int)<=0;omega,by show(0:Int)<=l.length;omega,by show(List.replicate _ _).length=_;rw[Eo];omega,by simp⟩ (by show((l.length:Int) - 0).toNat<N;omega));rintro ⟨t,y⟩ ⟨h1,h2,h3,h4⟩ k hk;have h1:0<=t:=h1;have h2:t<=(l.length:Int):=h2;have h3:y.length=16*l.length:=h3;have h4:y.take (16*t.toNat)=((l.take t.toNat).flatten).map iN:=h4;dsimp only[U2];by_cases hlt:t<(l.length:Int)
 .have hi:t.toNat<l.length:=by omega
  have hg:l.getD t.toNat []=l[t.toNat]:=getD_lt _ _ _ hi;have h5:(l.getD t.toNat []).length=16:=by rw[hg];exact h16 _ (EZ hi)
  have h6:l.take (t.toNat+1)=l.take t.toNat++[l.getD t.toNat []]:=by rw[hg,List.take_succ_eq_append_getElem hi]
  have h7:((l.take t.toNat).flatten).length=16*t.toNat:=by rw[Acm _ fun s hs=>h16 s (Gn hs),Ea];omega
  generalize l.getD t.toNat []=s at h5 h6 ⊢;rw[Dk hlt,cond_true,JR _ (Dk h1),JR _ rfl,w64 (x:=t*16),w64 (x:=t+1),JR _ (Dk),JR _ (Dk),JR _ (Dk),JR _ (Dk)];have e16:(t*16).toNat=16*t.toNat:=by omega
  rw[e16];have h8:(y.take (16*t.toNat)).length=16*t.toNat:=by rw[Ea];omega
  refine hk _ ⟨by show 0<=t+1;omega,by show t+1<=_;omega,?_,?_⟩ (by show((l.length:Int) - (t+1)).toNat<((l.length:Int) - t).toNat;omega)
  .show(iK y (16*t.toNat) s).length=_;unfold iK;simp only[Dv,Dx,Ew,h8];omega
  .show(iK y (16*t.toNat) s).take (16*(t+1).toNat)=((l.take (t+1).toNat).flatten).map iN;rw[show(t+1).toNat=t.toNat+1 by omega,h6,GL,EY,<- h4];unfold iK;rw[FM (by simp only[Dv,Dx,h8];omega)];rw[EL (by simp only[Dv,Dx,h8];omega)];simp [iN]
 .have et:t.toNat=l.length:=by omega
  rw[DV hlt,cond_false];rw[et,<- h3,EI,EI]at h4;rw[h4];show chk _ _=_;rw[JR _ (An9 _),AmQ]
def Yo {n:Nat} {g:Nat->Bs} (h: ∀ i,(g i).length=16): ∀ s∈(List.range n).map g,s.length=16:=by intro s hs;obtain⟨i,_,rfl⟩:=DF.1 hs;exact h i
def ApZ (N:Nat) (p0:Bs) (p1:Int) (l:List Bs):Bs:=hS N [[76],p0,b4P p1,l.flatten]
def xB {N:Nat} (h:Big N) {p0:Bs} (h0:p0.length<=1000) (p1:Int) {l:List Bs} (hl:l.length<=60) (h16: ∀ s∈l,s.length=16):X6 N p0 p1 l=some (ApZ N p0 p1 l)/\(ApZ N p0 p1 l).length=16:=by have hf:=Acm l h16;obtain⟨e1,e2⟩:=nP (N:=N) (l:=[[76],p0,b4P p1,l.flatten]) (hok h (by simp) (by simp only[List.all_cons,List.all_nil,hf,Gh,Dk h0];rw[Dk (by omega:16*l.length<=1000)];simp [b4P]));refine⟨?_,e2⟩;unfold X6;rw[Agf,Jr,join_eq h (by omega) h16,Jr,e1];rfl
def uJ (N:Nat) {p0:Bs} (h0:p0.length=16) {p:Int} (h1:0<=p) (h2:p<256):RG N p0 p=some 0:=by
 unfold RG;try simp -zeta only[Aq]
 rw[show((p0.length:Int) != 16)=false by rw[h0];rfl,DV (by omega: ¬ p<0),DV (by omega: ¬ p>=256)];rfl
def uK (N:Nat) {p0 p1:Bs} (h0:p0.length=16) (hs:p1.length=32) {p:Int} (h1:0<=p) (h2:p<256):Uf N p0 p1 p=some 0:=by
 unfold Uf;try simp -zeta only[Aq]
 rw[show((p0.length:Int) != 16)=false by rw[h0];rfl,show((p1.length:Int) != 32)=false by rw[hs];rfl];show Jq (RG N p0 p) _=_;rw[uJ N h0 h1 h2];rfl
def Ab9 {N:Nat} (h:Big N) {p0 p1:Bs} (h0:p0.length<=1000) (hs:p1.length<=1000) (p2:Int) (i:Nat):(Air N p0 p1 p2 i).length=16:=AoD (st_len h h0 p2 i) _ _ _ (WT h hs p2 i).2
def pkP (N:Nat) (p0 p1:Bs) (p2:Int):Bs:=ApZ N p0 p2 ((List.range 35).map (Air N p0 p1 p2))
def sG {N:Nat} (h:Big N) {p0 p1:Bs} (h0:p0.length=16) (hs:p1.length=32) {p2:Int} (h1:0<=p2) (h2:p2<256):ZC N p0 p1 p2=some (pkP N p0 p1 p2,0):=by
 have hn:=h.n;unfold ZC;try simp -zeta only[Aq]
 rw[uK N h0 hs h1 h2];show J4 (X:=Int×List Bs) (Y:=List Bs) _ N (0,[]) _=_;refine(Aa3 35 (Air N p0 p1 p2) (fun i acc k hi ha=> ?_) (fun acc k ha=> ?_)).trans ?_
 .dsimp only[U2];rw[Dk (by omega:(i:Int)<35),cond_true,(WT h (by omega) p2 i).1,Jr,walk_eq h (by omega) p2 i (EM 0) (by omega) (EM 15) (WT h (by omega) p2 i).2,Jr,JR _ (Dk),w64];rfl
 .rfl
 .rw[(xB h (by omega) p2 (by simp) (Yo (Ab9 h (by omega) (by omega) p2))).1];rfl
def pk_len {N:Nat} (h:Big N) {p0 p1:Bs} (h0:p0.length=16) (hs:p1.length=32) (p2:Int):(pkP N p0 p1 p2).length=16:=(xB h (by omega) p2 (by simp) (Yo (Ab9 h (by omega) (by omega) p2))).2
def Dig (l:List Int):Prop:=l.length=35/\ ∀ i,0<=l.getD i 0/\l.getD i 0<=15
def Auw (a:Nat) (h:a<256):0<=JJ .and .u8 (a:Int) 15/\JJ .and .u8 (a:Int) 15<=15:=by
 have: ∀ a:Fin 256,0<=JJ .and .u8 ((a.val:Nat):Int) 15/\JJ .and .u8 ((a.val:Nat):Int) 15<=15:=by decide +kernel
 exact this ⟨a,h⟩
def AmA (a:Nat) (h:a<1024):0<=JJ .and .i64 (a:Int) 15/\JJ .and .i64 (a:Int) 15<=15:=by
 have: ∀ a:Fin 1024,0<=JJ .and .i64 ((a.val:Nat):Int) 15/\JJ .and .i64 ((a.val:Nat):Int) 15<=15:=by decide +kernel
 exact this ⟨a,h⟩
def Ap4 {l:List Int} (h: ∀ x∈l,0<=x/\x<=15) (i:Nat):0<=l.getD i 0/\l.getD i 0<=15:=by
 by_cases hi:i<l.length
 .rw[getD_lt _ _ _ hi];exact h _ (EZ hi)
 .rw[Dj,DZ (by omega)];simp
def AkT (a b:Nat):(a:Int).fdiv (b:Int)=((a / b:Nat):Int):=by rw[Int.fdiv_eq_ediv_of_nonneg _ (Int.natCast_nonneg b)];rfl
def Akm {N:Nat} (h:Big N) {p:Bs} (hp:p.length=16):Tot (fun r=>r.2=0/\Dig r.1) (TT N p):=by
 have hn:=h.n;unfold TT;try simp -zeta only[Aq]
 rw[show((p.length:Int) != 16)=false by rw[hp];rfl];refine Tot.chk (Dk) ?_;show Tot _ (J4 (X:=Int×Int×List Int×List Int) _ N (0,0,p.map iN,[]) _);refine RZ (fun x=>0<=x.2.1/\x.2.1<=16/\x.2.2.1=p.map iN/\(x.2.2.2.length:Int)=2*x.2.1/\(∀ d∈x.2.2.2,0<=d/\d<=15)/\0<=x.1/\x.1<=30*x.2.1) (fun x=>(16 - x.2.1).toNat) (Tot _) ?_ N _ ⟨by show(0:Int)<=0;omega,by show(0:Int)<=16;omega,rfl,rfl,(fun _ h=>by cases h),by show(0:Int)<=0;omega,by show(0:Int)<=30*0;omega⟩ (by show((16:Int) - 0).toNat<N;omega);rintro ⟨c,t,l,acc⟩ ⟨h1,h2,h3,h4,h5,h6,h7⟩ k hk;have h1:0<=t:=h1;have h2:t<=16:=h2;have h3:l=p.map iN:=h3;have h4:(acc.length:Int)=2*t:=h4;have h5: ∀ d∈acc,0<=d/\d<=15:=h5;have h6:0<=c:=h6;have h7:c<=30*t:=h7;dsimp only[U4];refine Tot.bif (fun hb=> ?_) fun hb=> ?_
 .have hb:=D5 hb;rw[Dx,hp]at hb;have hl:t.toNat<l.length:=by rw[h3,Dx];omega
  obtain⟨a,ha,hlt⟩: ∃ a:Nat,l.getD t.toNat 0=(a:Int)/\a<256:=by rw[getD_lt _ _ _ hl];have hm:l[t.toNat]∈p.map iN:=h3▸EZ hl;obtain⟨b,_,hb⟩:=DF.1 hm;exact⟨b.toNat,hb.symm,Arh b⟩
  obtain⟨q1,q2⟩:=Auw a hlt;have hd:(a:Int).fdiv 16=((a / 16:Nat):Int):=AkT a 16;rw[ha,hd];generalize JJ .and .u8 (a:Int) 15=y at q1 q2 ⊢;rw[w64 (x:=((a / 16:Nat):Int)),w64 (x:=y),w64 (x:=15 - ((a / 16:Nat):Int)),w64 (x:=15 - ((a / 16:Nat):Int)+15),w64 (x:=15 - ((a / 16:Nat):Int)+15 - y),w64 (x:=t+1),w64];refine Tot.chk (Dk h1) (Tot.chk (Dk) (Tot.chk (Dk) (Tot.chk (Dk) (hk _ ⟨by show 0<=t+1;omega,by show t+1<=16;omega,h3,?_,?_,?_,?_⟩ ?_))))
  .show((acc++[_,_]).length:Int)=2*(t+1);simp;omega
  .intro d hd;have hd:d∈acc++[((a / 16:Nat):Int),y]:=hd;rcases DU.1 hd with hd | hd
   .exact h5 d hd
   .simp only[Dz,ED,FN]at hd;rcases hd with rfl | rfl<;>omega
  .show 0<=c+(15 - ((a / 16:Nat):Int)+15 - y);omega
  .show c+(15 - ((a / 16:Nat):Int)+15 - y)<=30*(t+1);omega
  .show(16 - (t+1)).toNat<(16 - t).toNat
   omega
 .have hb:=EN hb;rw[Dx,hp]at hb;dsimp only[U2];refine Tot.chk (Dk) (Tot.some ⟨rfl,?_,?_⟩)
  .show(acc++[_,_,_]).length=35;simp;omega
  .obtain⟨n,hn,hn2⟩: ∃ n:Nat,c=(n:Int)/\n<=480:=⟨c.toNat,by omega,by omega⟩
   refine Ap4 fun x hx=> ?_;have hx:x∈acc++[c.fdiv 256,JJ .and .i64 (c.fdiv 16) 15,JJ .and .i64 c 15]:=hx;rcases DU.1 hx with hx | hx
   .exact h5 x hx
   .simp only[Dz,ED,FN]at hx;subst hn;have e1:(n:Int).fdiv 256=((n / 256:Nat):Int):=AkT n 256;have e2:(n:Int).fdiv 16=((n / 16:Nat):Int):=AkT n 16;rcases hx with rfl | rfl | rfl
    .rw[e1];omega
    .rw[e2];exact AmA _ (by omega)
    .exact AmA _ (by omega)
def Apn: ∀(l:List Bs) (i:Nat),(∀ s∈l,s.length=16)->i<l.length->J6 l.flatten (16*i) (16*(i+1))=l.getD i []:=by
 intro l
 induction l with
 | nil=>intro i _ h;simp at h
 | cons a r ih =>
  intro i h hi;have ha:a.length=16:=h a Du;cases i with
  | zero =>show((a++r.flatten).take (16*(0+1))).drop (16*0)=a;rw[FM (by omega),EL (by omega)];rfl
  | succ i =>have:=ih i (fun s hs=>h s (Dy _ hs)) (by simpa using hi);show((a++r.flatten).take (16*(i+1+1))).drop (16*(i+1))=r.getD i [];rw[<- this];rw[show 16*(i+1+1)=a.length+16*(i+1) by omega,List.take_length_add_append,show 16*(i+1)=a.length+16*i by omega,List.drop_length_add_append];rw[ha,show 16+16*i=16*(i+1) by omega];rfl
def AdN (N:Nat) (d:Bs):List Int:=((TT N d).getD ([],0)).1
def AeQ {N:Nat} (h:Big N) {d:Bs} (hd:d.length=16):TT N d=some (AdN N d,0)/\Dig (AdN N d):=by obtain⟨⟨l,e⟩,h1,h2,h3⟩:=Akm h hd;have h2:e=0:=h2;subst h2;unfold AdN;rw[h1];exact⟨rfl,h3⟩
def sgP (N:Nat) (p0 p1:Bs) (p2:Int) (d:Bs) (i:Nat):Bs:=wk (st N p0 p2 (i:Int)) 0 ((AdN N d).getD i 0).toNat (Amh N p1 p2 i)
def Zj (N:Nat) (p0 p1:Bs) (p2:Int) (d:Bs):Bs:=((List.range 35).map (sgP N p0 p1 p2 d)).flatten
section
variable {N:Nat} (h:Big N) {p0 p1:Bs} (h0:p0.length=16) (hs:p1.length=32) {p2:Int} (h1:0<=p2) (h2:p2<256) {d:Bs} (hd:d.length=16)
include h h0 hs
theorem yV (p2:Int) (d:Bs) (i:Nat):(sgP N p0 p1 p2 d i).length=16:=AoD (st_len h (by omega) p2 i) _ _ _ (WT h (by omega) p2 i).2
theorem WC (p2:Int) (d:Bs):(Zj N p0 p1 p2 d).length=560:=by unfold Zj;rw[Acm _ (Yo (yV h h0 hs p2 d)),Dx,FH]
include h1 h2 hd
theorem Aj9:oL N p0 p1 p2 d=some (Zj N p0 p1 p2 d,0):=by
 have hn:=h.n;obtain⟨e1,e2,e3⟩:=AeQ h hd;unfold oL;try simp -zeta only[Aq]
 rw[uK N h0 hs h1 h2,Jr];rw[show((0:Int) != 0)=false from rfl,cond_false];rw[e1,Jr];show J4 (X:=Int×List Bs) (Y:=List Bs) _ N (0,[]) _=_;refine(Aa3 35 (sgP N p0 p1 p2 d) (fun i acc k hi ha=> ?_) (fun acc k ha=> ?_)).trans ?_
 .have e4:=e3 i;dsimp only[U2];rw[Dk (by omega:(i:Int)<35),cond_true,JR _ (Dk),JR _ (Dk),(WT h (by omega) p2 i).1,Jr,Int.toNat_natCast,walk_eq h (by omega) p2 i (EM 0) e4.1 e4.2 (WT h (by omega) p2 i).2,Jr,JR _ (Dk),w64,Int.sub_zero];rfl
 .rfl
 .rw[join_eq h (by simp) (Yo (yV h h0 hs p2 d))];rfl
theorem AbB:Y4 N p0 p2 d (Zj N p0 p1 p2 d)=some (pkP N p0 p1 p2,0):=by
 have hn:=h.n;obtain⟨e1,e2,e3⟩:=AeQ h hd;have hsl:=WC h h0 hs p2 d;unfold Y4;try simp -zeta only[Aq]
 rw[uJ N h0 h1 h2,Jr];rw[show((0:Int) != 0)=false from rfl,cond_false];rw[e1,Jr];show(bif (((Zj N p0 p1 p2 d).length:Int) != 560)then _ else _)=_;rw[show(((Zj N p0 p1 p2 d).length:Int) != 560)=false by rw[hsl];rfl,cond_false];refine(Aa3 35 (Air N p0 p1 p2) (fun i acc k hi ha=> ?_) (fun acc k ha=> ?_)).trans ?_
 .have e4:=e3 i;have hc:J6 (Zj N p0 p1 p2 d) (16*i) (16*(i+1))=sgP N p0 p1 p2 d i:=by unfold Zj;rw[Apn _ _ (Yo (yV h h0 hs p2 d)) (by simpa using hi),getD_lt _ _ _ (by simpa using hi)];simp
  dsimp only[U2];rw[Dk (by omega:(i:Int)<35),cond_true,w64 (x:=(i:Int)*16),w64 (x:=(i:Int)+1),w64];rw[JR _ (Dk),JR _ (Dk),JR _ (Dk),JR _ (Dk),JR _ (Dk),show((i:Int)*16).toNat=16*i by omega,show(((i:Int)+1)*16).toNat=16*(i+1) by omega,hc,Int.toNat_natCast,walk_eq h (by omega) p2 i e4.1 e4.2 (EM 15) (yV h h0 hs p2 d i),Jr,JR _ (Dk)];congr 3;congr 1;unfold sgP Air;rw[show(15:Nat)=((AdN N d).getD i 0).toNat+(15 - (AdN N d).getD i 0).toNat by omega,Aur];congr 1;omega
 .rfl
 .rw[(xB h (by omega) p2 (by simp) (Yo (Ab9 h (by omega) (by omega) p2))).1];rfl
end
set_option linter.unusedSectionVars false
def ne_nil {s:Bs} (h:0<s.length):(s==([]:Bs))=false:=by cases s with | nil=>simp at h | cons a r=>rfl
def idP (N:Nat) (sd:Bs):Bs:=hS N [[73],sd]
def qH (N:Nat) (sd:Bs):TrT:=([],sd,idP N sd,0)
def bH (N:Nat) (sd:Bs):Bs:=pkP N (idP N sd) sd 0
def SV (N:Nat) (sd:Bs):TrT:=([[bH N sd]],sd,idP N sd,0)
def Aqo (N:Nat) (sd:Bs):SgT:=(sd,0,0,[qH N sd])
def Amk (N:Nat) (sd:Bs):SgT:=(sd,0,1,[SV N sd])
def UO (N:Nat) (sd:Bs):Int×Bs×Bs:=(0,idP N sd,bH N sd)
def AaO (N:Nat) (sd m:Bs):Bs:=hS N [[77],idP N sd,bH N sd,b4P 0,m]
def WB (N:Nat) (sd m:Bs):Bs:=b4P 0++Zj N (idP N sd) sd 0 (AaO N sd m)
section
variable {N:Nat} (h:Big N) {sd:Bs} (hs:sd.length=32)
include h hs
theorem id_eq:MO N [[73],sd]=some (idP N sd)/\(idP N sd).length=16:=nP (hok h (by simp) (by simp [hs]))
theorem Aej:(bH N sd).length=16:=pk_len h (id_eq h hs).2 hs 0
theorem Aiy:Qz N sd 0=some (.inl (qH N sd,0)):=by
 unfold Qz;try simp -zeta only[Aq]
 rw[show((sd.length:Int) != 32)=false by rw[hs];rfl,cond_false,(id_eq h hs).1];rfl
theorem sF (l:List (List Bs)) (k:Bs):Lu N (l,sd,k,0)=some (1,(l,sd,k,0)):=by
 unfold Lu LK;try simp -zeta only[Aq]
 rw[Jr,ne_nil (by rw[hs];decide)];rfl
theorem AsA:QO N sd 0=some (.inl (Aqo N sd,0)):=by
 have e:=sF h hs [] (idP N sd);unfold QO fE;try simp -zeta only[Aq]
 rw[Aiy h hs,Nk];unfold qH;dsimp only;rw[e];rfl
theorem Au1:Lh N (qH N sd)=some (SV N sd):=by
 obtain⟨M,rfl⟩: ∃ M,N=M+10:=⟨N - 10,by have:=h.n;omega⟩
 unfold Lh;try simp -zeta only[Aq]
 have e:=sG h (id_eq h hs).2 hs (EM 0) (by omega:(0:Int)<256);unfold qH;rw[KO];dsimp only[U6];rw[e];rfl
theorem AqN:Lh N (SV N sd)=some (SV N sd):=rfl
theorem Ag3 (t:TrT) (ht:Lh N t=some (SV N sd)) (hv:t.2.1=sd):Pg N t=some (UO N sd,SV N sd):=by unfold Pg LK;rw[Jr,hv,ne_nil (by rw[hs];decide)];dsimp only;rw[EG,Eu,cond_false,ht];rfl
theorem Ani {m:Bs} (hm:m.length+64<N):Oj N (UO N sd) 0 m=some (AaO N sd m)/\(AaO N sd m).length=16:=by
 have hn:=h.n
 obtain⟨e1,e2⟩:=nP (N:=N) (l:=[[77],idP N sd,bH N sd,b4P 0,m]) ⟨by omega,h.m,by simp;omega,fun s hs'=>by
  have i1:=(id_eq h hs).2;have i2:=Aej h hs;simp only[Dz,ED,FN]at hs';rcases hs' with rfl | rfl | rfl | rfl | rfl
  .simp;omega
  .omega
  .omega
  .simp [b4P];omega
  .exact hm⟩
 refine⟨?_,e2⟩;unfold Oj;rw[wB,Jr];show Jq (MO N [[77],idP N sd,bH N sd,b4P 0,m]) _=_;rw[e1];rfl
theorem AoP {m:Bs} (hm:m.length+64<N) (l:List (List Bs)) (ht:Lh N (l,sd,idP N sd,0)=some (SV N sd)):Qa N (l,sd,idP N sd,0) 0 m=some (WB N sd m,0,SV N sd):=by
 have hn:=h.n;have e1:=sF h hs l (idP N sd);have e2:=Ag3 h hs (l,sd,idP N sd,0) ht rfl;obtain⟨e3,e4⟩:=Ani h hs hm;have e5:=Aj9 h (id_eq h hs).2 hs (EM 0) (by omega) e4;have hl:=WC h (id_eq h hs).2 hs 0 (AaO N sd m);unfold Qa LK;try simp -zeta only[Aq]
 rw[Jr,ne_nil (by rw[hs];decide)];dsimp only;rw[e1];simp (decide:=true) only[EG,Eu,cond_false,cond_true,Option.isSome_some,EJ,Ff,LG,Option.getD_some,Int.lt_irrefl,GG];rw[e2,Jr];dsimp only[SV];rw[DK,DK,LG,LG];refine(JR _ rfl).trans ?_;rw[e3,Jr,e5,Jr];dsimp only;rw[show((0:Int) != 0)=false from rfl,cond_false,wB,Jr,JR _ (Dk (by rw[hl];simp [b4P]))];obtain⟨M,rfl⟩: ∃ M,N=M+10:=⟨N - 10,by omega⟩
 rfl
theorem Arj:KG N (Amk N sd)=some (UO N sd,Amk N sd):=by
 have e:=Ag3 h hs (SV N sd) (AqN h hs) rfl;unfold KG L8;try simp -zeta only[Aq]
 dsimp only[Amk,List.headD_cons];rw[ne_nil (by rw[hs];decide),F5,Jr];dsimp only;rw[cond_false,List.headD_cons,e,Jr];dsimp only;rw[DK,DK,LG,LG];rfl
theorem Akn {m:Bs} (hm:m.length+64<N):P7 N (UO N sd) m (WB N sd m)=some 0:=by
 have hn:=h.n;obtain⟨e3,e4⟩:=Ani h hs hm;have e5:=AbB h (id_eq h hs).2 hs (EM 0) (by omega) e4;have hl:=WC h (id_eq h hs).2 hs 0 (AaO N sd m);have hk:=Aej h hs;have hi:=(id_eq h hs).2;have h4:(b4P 0).length=4:=rfl
 have hc:LZ N (UO N sd)=some 0:=by
  unfold LZ UO;try simp -zeta only[Aq]
  try dsimp only
  rw[show((List.length (idP N sd):Int) != 16)=false by rw[hi];rfl,show((List.length (bH N sd):Int) != 16)=false by rw[hk];rfl];rfl
 have hsl:(WB N sd m).length=564:=by unfold WB;rw[Dv,hl,h4]
 have c1:J6 (WB N sd m) 0 4=b4P 0:=by unfold J6 WB;rw[FM (by omega)];rfl
 have c2:J6 (WB N sd m) 4 564=Zj N (idP N sd) sd 0 (AaO N sd m):=by unfold J6;rw[EL (by omega)];unfold WB;exact Gt h4
 have hf:Um N (WB N sd m)=some (0,true):=by
  unfold Um;try simp -zeta only[Aq]
  rw[c1,hsl];obtain⟨M,rfl⟩: ∃ M,N=M+10:=⟨N - 10,by omega⟩
  rfl
 unfold P7;try simp -zeta only[Aq]
 rw[hc,Jr,show((0:Int) != 0)=false from rfl,cond_false,hsl,hf,Jr];dsimp only[UO];rw[show((((564:Nat):Int)) != i64.wrap (564+i64.wrap (0*16)))=false from rfl,cond_false];refine(JR _ rfl).trans ?_;rw[DV (by decide: ¬(0:Int)>=i64.wrap (1*2 ^ min (u64.wrap 0).toNat 64)),cond_false];have e3':Oj N (0,idP N sd,bH N sd) 0 m=_:=e3;rw[e3',Jr];refine(JR _ rfl).trans ?_;rw[c2,e5,Jr];dsimp only;rw[show((0:Int) != 0)=false from rfl,cond_false];refine(JR _ rfl).trans ?_;obtain⟨M,rfl⟩: ∃ M,N=M+10:=⟨N - 10,by omega⟩
 rw[KO];dsimp only[U6,U4];rw[DV (by decide: ¬(0:Int)<0),cond_false];show(bif !(bH (M+10) sd==bH (M+10) sd)then _ else _)=_;rw[DK];rfl
end
set_option linter.unusedSectionVars false
def kyP (N:Nat) (sd:Bs) (i:Int):Bs:=pkP N (idP N sd) sd i
def Yr (N:Nat) (sd:Bs):Bs:=hS N [[78],idP N sd,b1P 0,b4P 0,kyP N sd 0,kyP N sd 1]
def tr0 (N:Nat) (sd:Bs):TrT:=([],sd,idP N sd,1)
def tr1 (N:Nat) (sd:Bs):TrT:=([[kyP N sd 0,kyP N sd 1],[Yr N sd]],sd,idP N sd,1)
def sg0 (N:Nat) (sd:Bs):SgT:=(sd,1,0,[tr0 N sd])
def sg1 (N:Nat) (sd:Bs):SgT:=(sd,1,1,[tr1 N sd])
def pb1 (N:Nat) (sd:Bs):Int×Bs×Bs:=(1,idP N sd,Yr N sd)
def dg1 (N:Nat) (sd m:Bs):Bs:=hS N [[77],idP N sd,Yr N sd,b4P 0,m]
def si1 (N:Nat) (sd m:Bs):Bs:=b4P 0++Zj N (idP N sd) sd 0 (dg1 N sd m)++kyP N sd 1
section
variable {N:Nat} (h:Big N) {sd:Bs} (hs:sd.length=32)
include h hs
theorem Ac7 (i:Int):(kyP N sd i).length=16:=pk_len h (id_eq h hs).2 hs i
theorem AcV:P8 N (idP N sd) 0 0 (kyP N sd 0) (kyP N sd 1)=some (Yr N sd)/\(Yr N sd).length=16:=by obtain⟨e1,e2⟩:=nP (N:=N) (l:=[[78],idP N sd,b1P 0,b4P 0,kyP N sd 0,kyP N sd 1]) (hok h (by simp) (by simp [(id_eq h hs).2,Ac7 h hs,b1P,b4P]));refine⟨?_,e2⟩;unfold P8;rw[show wK N 0=some (b1P 0)from Agd N 0,Jr,wB,Jr];exact(congrArg (Jq · _) e1).trans rfl
theorem Ag1:Qz N sd 1=some (.inl (tr0 N sd,0)):=by
 unfold Qz;try simp -zeta only[Aq]
 rw[show((sd.length:Int) != 32)=false by rw[hs];rfl,cond_false,(id_eq h hs).1];rfl
theorem lW (l:List (List Bs)) (k:Bs):Lu N (l,sd,k,1)=some (2,(l,sd,k,1)):=by
 unfold Lu LK;try simp -zeta only[Aq]
 rw[Jr,ne_nil (by rw[hs];decide)];rfl
theorem Ari:QO N sd 1=some (.inl (sg0 N sd,0)):=by
 have e:=lW h hs [] (idP N sd);unfold QO fE;try simp -zeta only[Aq]
 rw[Ag1 h hs,Nk];unfold tr0;dsimp only;rw[e];rfl
theorem Ath:Lh N (tr0 N sd)=some (tr1 N sd):=by
 obtain⟨M,rfl⟩: ∃ M,N=M+10:=⟨N - 10,by have:=h.n;omega⟩
 have e0:=sG h (id_eq h hs).2 hs (EM 0) (by omega:(0:Int)<256);have e1:=sG h (id_eq h hs).2 hs (by omega:(0:Int)<=1) (by omega:(1:Int)<256);have e2:=(AcV h hs).1;unfold Lh;try simp -zeta only[Aq]
 unfold tr0;dsimp only[List.isEmpty_nil,Bool.not_true,cond_false];rw[KO];dsimp only[U6];refine(JR _ rfl).trans ?_;rw[Dk (by decide:(0:Int)<i64.wrap (1*2 ^ min (u64.wrap 1).toNat 64)),cond_true,e0,Jr];refine(JR _ rfl).trans ?_;rw[show i64.wrap (0+1)=1 from rfl,KO];dsimp only[U6];refine(JR _ rfl).trans ?_;rw[Dk (by decide:(1:Int)<i64.wrap (1*2 ^ min (u64.wrap 1).toNat 64)),cond_true,e1,Jr];refine(JR _ rfl).trans ?_;rw[show i64.wrap (1+1)=2 from rfl,KO];dsimp only[U6];refine(JR _ rfl).trans ?_;rw[DV (by decide: ¬(2:Int)<i64.wrap (1*2 ^ min (u64.wrap 1).toNat 64)),cond_false];dsimp only[U5];rw[KO];dsimp only[U6];rw[Dk (by decide:(0:Int)<1),cond_true,KO];dsimp only[U7];rw[show([]++[pkP (M+10) (idP (M+10) sd) sd 0]++[pkP (M+10) (idP (M+10) sd) sd 1]:List Bs)=[kyP (M+10) sd 0,kyP (M+10) sd 1]from rfl,show((([kyP (M+10) sd 0,kyP (M+10) sd 1]:List Bs).length:Int))=2 from rfl,Dk (by decide:(0:Int)<i64.wrap ((2:Int).tdiv 2)),cond_true,show i64.wrap (2*0)=0 from rfl,show i64.wrap (0+1)=1 from rfl]
 iterate 7 refine(JR _ rfl).trans ?_
 show Jq (P8 (M+10) (idP (M+10) sd) 0 0 (kyP (M+10) sd 0) (kyP (M+10) sd 1)) _=_;rw[e2,Jr];kernel_rfl
theorem An5:Lh N (tr1 N sd)=some (tr1 N sd):=rfl
theorem Ad1 (t:TrT) (ht:Lh N t=some (tr1 N sd)) (hv:t.2.1=sd):Pg N t=some (pb1 N sd,tr1 N sd):=by unfold Pg LK;rw[Jr,hv,ne_nil (by rw[hs];decide)];dsimp only;rw[EG,Eu,cond_false,ht];rfl
theorem AjL {m:Bs} (hm:m.length+64<N):Oj N (pb1 N sd) 0 m=some (dg1 N sd m)/\(dg1 N sd m).length=16:=by
 have hn:=h.n
 obtain⟨e1,e2⟩:=nP (N:=N) (l:=[[77],idP N sd,Yr N sd,b4P 0,m]) ⟨by omega,h.m,by simp;omega,fun s hs'=>by
  have i1:=(id_eq h hs).2;have i2:=(AcV h hs).2;simp only[Dz,ED,FN]at hs';rcases hs' with rfl | rfl | rfl | rfl | rfl
  .simp;omega
  .omega
  .omega
  .simp [b4P];omega
  .exact hm⟩
 refine⟨?_,e2⟩;unfold Oj;rw[wB,Jr];show Jq (MO N [[77],idP N sd,Yr N sd,b4P 0,m]) _=_;rw[e1];rfl
theorem Am8 {m:Bs} (hm:m.length+64<N) (l:List (List Bs)) (ht:Lh N (l,sd,idP N sd,1)=some (tr1 N sd)):Qa N (l,sd,idP N sd,1) 0 m=some (si1 N sd m,0,tr1 N sd):=by
 have hn:=h.n;have e1:=lW h hs l (idP N sd);have e2:=Ad1 h hs (l,sd,idP N sd,1) ht rfl;obtain⟨e3,e4⟩:=AjL h hs hm;have e5:=Aj9 h (id_eq h hs).2 hs (EM 0) (by omega) e4;have hl:=WC h (id_eq h hs).2 hs 0 (dg1 N sd m);have hk:=Ac7 h hs 1;unfold Qa LK;try simp -zeta only[Aq]
 rw[Jr,ne_nil (by rw[hs];decide)];dsimp only;rw[e1];simp (decide:=true) only[EG,Eu,cond_false,cond_true,Option.isSome_some,EJ,Ff,LG,Option.getD_some,Int.lt_irrefl,GG];rw[e2,Jr];dsimp only[tr1];rw[DK,DK,LG,LG];refine(JR _ rfl).trans ?_;rw[e3,Jr,e5,Jr];dsimp only;rw[show((0:Int) != 0)=false from rfl,cond_false,wB,Jr,JR _ (Dk (by rw[hl];simp [b4P]))];obtain⟨M,rfl⟩: ∃ M,N=M+10:=⟨N - 10,by omega⟩
 rw[KO];dsimp only[U7];rw[Dk (by decide:(0:Int)<1),cond_true,show JJ .xor .i64 0 1=1 by decide +kernel]
 iterate 4 refine(JR _ rfl).trans ?_
 rw[show(([[kyP (M+10) sd 0,kyP (M+10) sd 1],[Yr (M+10) sd]]:List (List Bs)).getD (0:Int).toNat []).getD (1:Int).toNat []=kyP (M+10) sd 1 from rfl];rw[JR _ (Dk (by rw[Dv,hl,hk];simp [b4P]))];rw[show i64.wrap (0+1)=1 from rfl,KO];dsimp only[U7,U5];rw[DV (by decide: ¬(1:Int)<1),cond_false];rfl
theorem AoK:KG N (sg1 N sd)=some (pb1 N sd,sg1 N sd):=by
 have e:=Ad1 h hs (tr1 N sd) (An5 h hs) rfl;unfold KG L8;try simp -zeta only[Aq]
 dsimp only[sg1,List.headD_cons];rw[ne_nil (by rw[hs];decide),F5,Jr];dsimp only;rw[cond_false,List.headD_cons,e,Jr];dsimp only;rw[DK,DK,LG,LG];rfl
theorem Akd (m:Bs):(si1 N sd m).length=580:=by have hl:=WC h (id_eq h hs).2 hs 0 (dg1 N sd m);unfold si1;rw[Dv,Dv,hl,Ac7 h hs];rfl
theorem Aiz {m:Bs} (hm:m.length+64<N):P7 N (pb1 N sd) m (si1 N sd m)=some 0:=by
 have hn:=h.n;obtain⟨e3,e4⟩:=AjL h hs hm;have e5:=AbB h (id_eq h hs).2 hs (EM 0) (by omega) e4;have hl:=WC h (id_eq h hs).2 hs 0 (dg1 N sd m);have hp:=AcV h hs;have hi:=(id_eq h hs).2;have h4:(b4P 0).length=4:=rfl;have hk:=Ac7 h hs 1
 have hc:LZ N (pb1 N sd)=some 0:=by
  unfold LZ pb1;try simp -zeta only[Aq]
  try dsimp only
  rw[show((List.length (idP N sd):Int) != 16)=false by rw[hi];rfl,show((List.length (Yr N sd):Int) != 16)=false by rw[hp.2];rfl];rfl
 have hsl:=Akd h hs m;have c1:J6 (si1 N sd m) 0 4=b4P 0:=by unfold J6 si1;rw[Eg,FM (by omega)];rfl
 have c2:J6 (si1 N sd m) 4 564=Zj N (idP N sd) sd 0 (dg1 N sd m):=by unfold J6 si1;rw[List.take_left' (by rw[Dv,hl,h4])];exact Gt h4
 have c3:J6 (si1 N sd m) 564 580=kyP N sd 1:=by unfold J6;rw[EL (by omega)];unfold si1;exact Gt (by rw[Dv,hl,h4])
 have c4:J6 (kyP N sd 1) 0 16=kyP N sd 1:=by unfold J6;rw[EL (by omega)];rfl
 have hf:Um N (si1 N sd m)=some (0,true):=by
  unfold Um;try simp -zeta only[Aq]
  rw[c1,hsl];obtain⟨M,rfl⟩: ∃ M,N=M+10:=⟨N - 10,by omega⟩
  rfl
 unfold P7;try simp -zeta only[Aq]
 rw[hc,Jr,show((0:Int) != 0)=false from rfl,cond_false,hsl,hf,Jr];dsimp only[pb1];rw[show((((580:Nat):Int)) != i64.wrap (564+i64.wrap (1*16)))=false from rfl,cond_false];refine(JR _ rfl).trans ?_;rw[DV (by decide: ¬(0:Int)>=i64.wrap (1*2 ^ min (u64.wrap 1).toNat 64)),cond_false];have e3':Oj N (1,idP N sd,Yr N sd) 0 m=_:=e3;rw[e3',Jr];refine(JR _ rfl).trans ?_;rw[c2,e5,Jr];dsimp only;rw[show((0:Int) != 0)=false from rfl,cond_false];refine(JR _ rfl).trans ?_;rw[c3];obtain⟨M,rfl⟩: ∃ M,N=M+10:=⟨N - 10,by omega⟩
 rw[KO];dsimp only[U6,U4];rw[Dk (by decide:(0:Int)<1),cond_true,WL,hk];refine(JR _ rfl).trans ?_;refine(JR _ rfl).trans ?_;refine(JR _ rfl).trans ?_;rw[show(i64.wrap (0*16)).toNat=0 from rfl,show(i64.wrap (i64.wrap (0+1)*16)).toNat=16 from rfl,c4,show(((0:Int).tmod 2)==0)=true from rfl,cond_true];show Jq (P8 (M+10) (idP (M+10) sd) 0 0 (kyP (M+10) sd 0) (kyP (M+10) sd 1)) _=_;rw[hp.1,Jr];dsimp only[U4];rw[KO];show(bif !(Yr (M+10) sd==Yr (M+10) sd)then _ else _)=_;rw[DK];rfl
end
def W32 (w:List Int):List Int:=(List.range 8).flatMap fun i=>[u8.wrap ((w.getD i 0).fdiv 16777216),u8.wrap ((w.getD i 0).fdiv 65536),u8.wrap ((w.getD i 0).fdiv 256),u8.wrap (w.getD i 0)]
def kF (N:Nat) (t6g:List Int):Option Bs :=
 J4 (X:=Int×List Int) (Y:=(List Int)) (U2 fun t76h l1028672h k8 x9 =>
 bif decide (t76h<(t6g.length:Int))then(chk (decide ((0:Int)<=t76h)) <|
 chk (decide (t76h<(t6g.length:Int))) <|
 chk (decide ((l1028672h.length+4)*2<=140737488355328)) <|
 let y56576:List Int:=l1028672h++([u8.wrap ((t6g.getD t76h.toNat 0).fdiv (16777216)),u8.wrap ((t6g.getD t76h.toNat 0).fdiv (65536)),u8.wrap ((t6g.getD t76h.toNat 0).fdiv (256)),u8.wrap (t6g.getD t76h.toNat 0)]:List Int)
 k8 (i64.wrap (t76h+(1:Int)),y56576))
 else(x9 l1028672h))
 N (0,([]:List Int)) (fun l1032768i =>
 chk (List.all l1032768i isByte) <|
 some (List.map Vm.byteOf l1032768i))
def aZ:List Int:=[1779033703,3144134277,1013904242,2773480762,1359893119,2600822924,528734635,1541459225]
def blk4 (a b c d:UInt8):Bs:=[115,101,101,100,a,b,c,d,128]++List.replicate 54 0++[64]
def AbL {α :Type} {b:Bool} {x y: α} (h:b=true:=by kernel_rfl):(bif b then x else y)=x:=by rw[h];rfl
def AbK {α :Type} {b:Bool} {x y: α} (h:b=false:=by kernel_rfl):(bif b then x else y)=y:=by rw[h];rfl
def AsJ {α β ρ :Type} (f: α -> β -> ρ) (a: α) (b: β):U2 f (a,b)=f a b:=rfl
def Arx {α ρ :Type} [Inhabited α] {x y:Option α} {f g: α ->Option ρ} (h:x=y) (hf: ∀ r,f r=g r):Jq x f=Jq y g:=by rw[h,funext hf]
def Akr {α β γ δ ρ :Type} (f: α -> β -> γ -> δ -> ρ) (a: α) (b: β) (k: γ) (x: δ):U2 f (a,b) k x=f a b k x:=rfl
def AsK {α β ε γ δ ρ :Type} (f: α -> β -> ε -> γ -> δ -> ρ) (a: α) (b: β) (c: ε) (k: γ) (x: δ):U3 f (a,b,c) k x=f a b c k x:=rfl
def pd4:List Int:=[128]++List.replicate 54 0++[64]
def Avd (M:Nat) (a b c d:UInt8):UR (M+300) [[115,101,101,100],[a,b,c,d]]=Jq (SK (M+300) aZ (blk4 a b c d)) (kF (M+300)):=by
 unfold UR;try simp -zeta only[Aq]
 generalize SK (M+300)=R;refine((?h1: ∀ K:Bs->Option Bs,J4 _ (M+300) (([]:Bs),(0:Int)) K=K [115,101,101,100,a,b,c,d]) _).trans ?_
 case h1 =>
  intro K
  iterate 2
   refine(KO _ _ _ _).trans ?_;refine(Akr _ _ _ _ _).trans ?_;refine(AbL).trans ?_
   iterate 3 refine(JR _).trans ?_
  refine(KO _ _ _ _).trans ?_;refine(Akr _ _ _ _ _).trans ?_;exact(AbK).trans rfl
 rw[WL];rw[show(i64.wrap (64 - (i64.wrap ((([115,101,101,100,a,b,c,d]:Bs).length:Int)+9)).tmod 64)==64)=false by kernel_rfl,cond_false];rw[show i64.wrap (64 - (i64.wrap ((([115,101,101,100,a,b,c,d]:Bs).length:Int)+9)).tmod 64)=47 by kernel_rfl];refine(AsJ _ _ _).trans ?_
 iterate 5 refine(JR _).trans ?_
 refine((?h2: ∀ K:List Int×List Int->Option Bs,J4 _ (M+300) ((0:Int),aZ,_) K=K (aZ,pd4)) _).trans ?_
 case h2 =>
  intro K
  iterate 8
   refine(KO _ _ _ _).trans ?_;refine(AsK _ _ _ _ _ _).trans ?_;refine(AbL).trans ?_
   iterate 4 refine(JR _).trans ?_
  refine(KO _ _ _ _).trans ?_;refine(AsK _ _ _ _ _ _).trans ?_;refine(AbK).trans ?_;exact congrArg (fun l=>K (aZ,l)) (D5 (by kernel_rfl))
 refine(AsJ _ _ _).trans ?_
 iterate 2 refine(JR _).trans ?_
 refine((?h3: ∀ K:List Int->Option Bs,J4 _ (M+300) (aZ,(0:Int)) K=Jq (R aZ (blk4 a b c d)) K) _).trans ?_
 case h3 =>
  intro K;refine(KO _ _ _ _).trans ?_;refine(Akr _ _ _ _ _).trans ?_;refine(AbL).trans ?_
  iterate 3 refine(JR _).trans ?_
  refine Arx (congrArg (R aZ) ?_) fun r=> ?_
  .rfl
  .refine(KO _ _ _ _).trans ?_;refine(Akr _ _ _ _ _).trans ?_;exact AbK
 rfl
def AtY (M:Nat) (a b c d:UInt8):((SK (M+300) aZ (blk4 a b c d)).map List.length)=some 8:=by kernel_rfl
def kF8 (M:Nat) (a b c d e f g h:Int):kF (M+300) [a,b,c,d,e,f,g,h]=chk (List.all (W32 [a,b,c,d,e,f,g,h]) isByte) (some (List.map Vm.byteOf (W32 [a,b,c,d,e,f,g,h]))):=by kernel_rfl
def Abz (M:Nat) (p:Int): ∃ s,P6 (M+300) p=some s/\s.length=32:=by
 have e:Pm (M+300) p=some (b4P p):=by
  unfold Pm;try simp -zeta only[Aq]
  rw[JR _ (by simp [O9])];rfl
 unfold P6;rw[e,Jr];obtain⟨a,b,c,d,hb⟩: ∃ a b c d,b4P p=[a,b,c,d]:=⟨_,_,_,_,rfl⟩
 rw[hb,Avd];obtain⟨w,hw,hl⟩:=Hz.1 (AtY M a b c d);rw[hw,Jr]
 match w,hl with
 | [a,b,c,d,e,f,g,h],_ =>rw[kF8,JR _ (by simp [W32,O9,FU]),Jr];exact⟨_,rfl,by simp [W32,FU]⟩
def XR:Bs:=(Py 300).getD []
def V9:Bs:=XR.drop 2
def AsN (M:Nat):Bool:=Py (M+300)==some XR&&(Oh (M+300) (JQ 48 V9)==some 0&&(XR==Sp.elem 48 V9&&(decide (V9.length<=30)&&Sp.within (V9.length+1) 3 V9==0)))
def Arn (M:Nat):AsN M=true:=by kernel_rfl
structure Akh (N:Nat):Prop where
 enc:Py N=some XR
 chk:Oh N (JQ 48 V9)=some 0
 eq:XR=Sp.elem 48 V9
 len:V9.length<=30
 nest:V6 3 V9
def YB {N:Nat} (hN:1048578<N):Akh N:=by obtain⟨M,rfl⟩:=ofM hN;have h:=Arn M;unfold AsN at h;simp only[Dq,EK,DJ]at h;obtain⟨h1,h3,h4,h5,h6⟩:=h;exact⟨h1,h3,h4,h5,h6⟩
def Ag7 {N:Nat} (h:Akh N):XR.length<=35:=by have:=h.len;have:=Sp.JD 48 V9;rw[h.eq];omega
def AjE {N:Nat} (h:Akh N) {d:Nat} (hd:d<=2):Par d XR [JQ 48 V9]:=by rw[h.eq];exact NS (MC (by decide) (by decide) (by have:=h.len;omega)) (by omega) (AjS (by omega) h.nest)
section
variable (N:Nat) (hN:1048700<N) {L:List Int} (hL:L.length<=9223372036854775807)
include hN hL
theorem ApC {d:List Int×Int} (hd:KN L d):Ends (fun r=>((0<=r.1.1/\r.1.1<9)/\r.1.2.1.length=16/\r.1.2.2.length=16)/\KN L r.2) (o8 N d):=by
 unfold o8;try simp only[clR]
 refine JA (nx N hL hd 50) ?_;rintro ⟨r,e⟩ ⟨h0,h1,h2⟩;dsimp only at h0 h1 h2 ⊢;obtain⟨s,e2,hs⟩: ∃ s,P6 N r=some s/\s.length=32:=by have:=Abz (N - 300) r;rwa [show N - 300+300=N by omega]at this
 rw[e2,Jr];refine JA (nx N hL h2 9) ?_;rintro ⟨r,e⟩ ⟨h0,h1,h2⟩;dsimp only at h0 h1 h2 ⊢;refine Jz (Dk) (Jz (Dk) (Kv ⟨⟨⟨h0,h1⟩,?_,?_⟩,h2⟩))
 .dsimp only;unfold J6;rw[Ew,Ea];omega
 .dsimp only;unfold J6;rw[Ew,Ea];omega
end
def Ass (M:Nat):(List.range 301).all (Aln M)=true:=by kernel_rfl
def Adm {N:Nat} (hN:1048578<N) {n:Int} (h0:0<=n:=by omega) (h1:n<=300:=by omega):Agb N n:=by
 obtain⟨M,rfl⟩:=ofM hN;obtain⟨k,rfl⟩: ∃ k:Nat,n=k:=⟨n.toNat,by omega⟩
 have h:=D7.1 (Ass M) k (ER.2 (by omega));unfold Aln at h;simp only[Dq,EK,DJ]at h;obtain⟨h1,h2,h3,h4⟩:=h;exact⟨h1,h2,h3,h4⟩
def Auc (N:Nat) (s:Bs):Vt N s 0=some true:=rfl
def AhW (N:Nat) {s:Bs} (hs:s.length<=60000):UN N s 0=some (0::s,0):=by
 unfold UN;try simp -zeta only[Aq]
 rw[Auc];try simp only[clR]
 refine(JR _ rfl).trans ?_;refine(JR _ (Dk (by simp;omega))).trans rfl
def AqD (N:Nat) (s:Bs):WS N (0::s)=some (s,0,0):=by
 have hlen:(0::s:Bs).length=s.length+1:=rfl;unfold WS Vt;try simp only[clR]
 have hcut:J6 (0::s:Bs) 1 (0::s:Bs).length=s:=by rw[kC];rfl
 rw[show((0::s:Bs)==[])=false from rfl,hcut];simp (disch:=omega) only[JO,hlen,EH,UInt8.toNat_zero,Option.isSome_some,Option.getD_some];try rfl
def keyS (k:Int) (i r:Bs):Bs:=Vm.byteOf (u8.wrap k)::(i++r)
def Ze (k:Int) (i r:Bs):Bs:=XR++Sp.elem 3 (0::keyS k i r)
def vU (k:Int) (i r:Bs):Bs:=Sp.elem 48 (Ze k i r)
structure OkK (k:Int) (i r:Bs):Prop where
 k:0<=k/\k<9
 i:i.length=16
 r:r.length=16
section
variable {N:Nat} (hN:1048578<N) {k:Int} {i r:Bs} (h:OkK k i r)
include h
theorem o6:(keyS k i r).length=33:=by unfold keyS;rw[List.length_cons,Dv,h.i,h.r]
theorem Aff:List.all [u8.wrap k] isByte=true/\i64.wrap (((Vm.byteOf (u8.wrap k)).toNat:Nat):Int)=k:=by
 have:=h.k;have:k=0\/k=1\/k=2\/k=3\/k=4\/k=5\/k=6\/k=7\/k=8:=by omega
 rcases this with rfl | rfl | rfl | rfl | rfl | rfl | rfl | rfl | rfl<;>exact⟨rfl,rfl⟩
theorem wL:LZ N (k,i,r)=some 0:=by
 obtain⟨⟨a,b⟩,c,d⟩:=h;unfold LZ;try simp -zeta only[Aq]
 simp (disch:=omega) only[JO,c,d,Es];try rfl
theorem AkD:U0 N (k,i,r)=some (keyS k i r):=by
 have h1:=(Aff h).1;have h2:=h.i;have h3:=h.r;unfold U0;try simp -zeta only[Aq]
 try dsimp only
 rw[h1,LG,Dk (by simp;omega),LG,Dk (by simp;omega),LG];rfl
include hN
theorem o5:(Ze k i r).length<=80:=by have h1:=Ag7 (YB hN);have h2:=o6 h;have h3:=Sp.JD 3 (0::keyS k i r);rw[List.length_cons]at h3;unfold Ze;rw[Dv];omega
theorem AjQ {d:Nat} (hd:d<=2):Par d (Ze k i r) [JQ 48 V9,JQ 3 (0::keyS k i r)] :=
 Q4 (es:=[_]) (AjE (YB hN) hd) (QD (MC (by decide) (by decide) (by rw[List.length_cons,o6 h];decide)) (by omega) (by decide))
theorem Al0:Tz N (k,i,r)=some (vU k i r,0):=by have h1:=o5 hN h;have h2:=o6 h;unfold Ze at h1;have w1:Ko N 3 [0::keyS k i r]=_:=Ub N 3 [0::keyS k i r] (by omega) (by omega) hN (by simp) (by rw[KJ,List.length_cons];omega);rw[KJ]at w1;have w2:Ko N 48 [XR,Sp.elem 3 (0::keyS k i r)]=_:=Ub N 48 [XR,Sp.elem 3 (0::keyS k i r)] (by omega) (by omega) hN (by simp) (by rw[YI];omega);rw[YI]at w2;unfold Tz;rw[wL h,Jr,show((0:Int) != 0)=false from rfl,cond_false,AkD h,Jr,AhW N (by omega),Jr];dsimp only;rw[show((0:Int) != 0)=false from rfl,cond_false,w1,Jr];dsimp only;rw[show((0:Int) != 0)=false from rfl,cond_false,(YB hN).enc,Jr,w2,Jr];rfl
end
section
variable {N:Nat} (hN:1048578<N) {k:Int} {i r:Bs} (h:OkK k i r)
include hN h
theorem Alz:Vp N (vU k i r)=some ((k,i,r),0):=by
 have h1:=o5 hN h;have hB:=Sp.JD 48 (Ze k i r);have o:RJ N (vU k i r)=some (JQ 48 (Ze k i r),0):=by rw[V3 N _ (by omega) (by unfold vU;omega)];exact congrArg some (bP 48 _ (by decide) (by decide) (by omega))
 have L:=Oi N (Ze k i r);rw[(AjQ hN h (d:=0) (by decide)).list]at L;have hS:=o6 h;have b:=Aff h;have c1:J6 (keyS k i r) 1 17=i:=by unfold keyS J6;show(i++r).take 16=i;rw[<- h.i,List.take_left'];rfl
 have c2:J6 (keyS k i r) 17 (keyS k i r).length=r:=by unfold J6;rw[EI];show(i++r).drop 16=r;rw[<- h.i,Gt];rfl
 have c3:(keyS k i r).getD 0 0=Vm.byteOf (u8.wrap k):=rfl
 have e2:ZK N 197 ((0,[],[]),JQ 3 (0::keyS k i r))=some (0,k,i,r):=by
  rw[show ∀ a,ZK N 197 a=PS N a.1 a.2 from fun _=>by kernel_rfl];unfold PS;try simp -zeta only[Aq]
  dsimp only[JQ];rw[show(((3:Nat):Int) != 3)=false from rfl,cond_false,AqD,Jr];dsimp only;rw[c1,c2,c3,b.2,wL h,hS];rfl
 have e1:ZK N 196 ((0,[],[]),JQ 48 V9)=some (0,0,[],[]):=by rw[show ∀ a,ZK N 196 a=Nr N a.1 a.2 from fun _=>by kernel_rfl];unfold Nr;rw[(YB hN).chk,Jr]
 obtain⟨K,rfl⟩: ∃ K,N=K+3:=⟨N - 3,by omega⟩
 unfold Vp;try simp only[clR]
 rw[o,Jr];dsimp only;rw[show((0:Int) != 0)=false from rfl,cond_false,el1,el2,show(((48:Nat):Int) != 48)=false from rfl,cond_false,L,Jr];dsimp only;rw[show((0:Int) != 0)=false from rfl,cond_false,KO];dsimp only[U6];refine(AbL rfl).trans ?_;refine(JR _ rfl).trans ?_;refine(JR _ rfl).trans ?_;refine(JR _ rfl).trans ?_;refine(AbK rfl).trans ?_;refine(JR _ rfl).trans ?_;refine(congrArg (fun o=>Jq o _) e1).trans ?_;rw[Jr];dsimp only;rw[show((0:Int) != 0)=false from rfl,cond_false];refine(JR _ rfl).trans ?_;rw[AkE,KO];dsimp only[U6];refine(AbL rfl).trans ?_;refine(JR _ rfl).trans ?_;refine(JR _ rfl).trans ?_;refine(JR _ rfl).trans ?_;refine(AbK rfl).trans ?_;refine(JR _ rfl).trans ?_;refine(congrArg (fun o=>Jq o _) e2).trans ?_;rw[Jr];dsimp only;rw[show((0:Int) != 0)=false from rfl,cond_false];refine(JR _ rfl).trans ?_;rw[AkE,KO];rfl
end
def exO (x:Info):Bs:=bif (exI x).isEmpty then []else Sp.elem 160 (xsB (exI x))
def Acz {α :Type} {l:List α} (h:l.isEmpty=false):l≠ []:=by rintro rfl;cases h
section
variable {N:Nat} (hN:1048578<N)
include hN
theorem AdW {x:Info} (h:OkI x) (h0:exI x≠ []):(xsC (exI x)).length<=91000:=by have h1:=Akg (Acd hN h h0) hN (m:=6020) fun e he=>(kM hN h e he).2;have:=yG h;omega
theorem ArB {x:Info} (h:OkI x):(exO x).length<=91010:=by
 unfold exO;cases hb:(exI x).isEmpty with
 | true=>exact EF _
 | false =>have:=AdW hN h (Acz hb);have:=Sp.JD 48 (xsC (exI x));have:=Sp.JD 160 (xsB (exI x));unfold xsB at this ⊢;rw[cond_false];omega
theorem ArO {n:Int} (I:Agb N n) (t:Nat):(Qm t n).length<=7:=by have:=I.len;have:=Sp.JD t (UH n);unfold Qm;omega
end
abbrev ApT:Type:=Bs×Bs×List RnT×Int×Bs×Bs×Bool×Bool×Int×Int×List Bs×List Bs×(List (Bs×Bs))×Int×Int×Int×List GnT×Bool×List GnT×List GnT×Bs×Bs×List PtT×List PtT×(List (Bs×Bool×Bs))×Bs
abbrev mkA (raw bd:Bs) (su:List (List MF)) (kh:Int) (ki kr:Bs) (x:Info) (sig:Bs):ApT:=(raw,bd,su,kh,ki,kr,x.1,x.2.1,x.2.2.1,x.2.2.2.1,x.2.2.2.2.1,x.2.2.2.2.2.1,x.2.2.2.2.2.2.1,x.2.2.2.2.2.2.2.1,x.2.2.2.2.2.2.2.2.1,x.2.2.2.2.2.2.2.2.2.1,x.2.2.2.2.2.2.2.2.2.2.1,x.2.2.2.2.2.2.2.2.2.2.2.1,x.2.2.2.2.2.2.2.2.2.2.2.2.1,x.2.2.2.2.2.2.2.2.2.2.2.2.2.1,x.2.2.2.2.2.2.2.2.2.2.2.2.2.2.1,x.2.2.2.2.2.2.2.2.2.2.2.2.2.2.2.1,x.2.2.2.2.2.2.2.2.2.2.2.2.2.2.2.2.1,x.2.2.2.2.2.2.2.2.2.2.2.2.2.2.2.2.2.1,x.2.2.2.2.2.2.2.2.2.2.2.2.2.2.2.2.2.2,sig)
structure Ap where
 su:List (List MF)
 kh:Int
 ki:Bs
 kr:Bs
 x:Info
abbrev Ap.c (A:Ap) (raw bd sig:Bs):ApT:=mkA raw bd A.su A.kh A.ki A.kr A.x sig
structure ZU (A:Ap):Prop where
 su:okN A.su
 k:OkK A.kh A.ki A.kr
 x:OkI A.x
def apC (A:Ap):Bs:=Qm 2 0++(nmT A.su++(vU A.kh A.ki A.kr++exO A.x))
def apB (A:Ap):Bs:=Sp.elem 48 (apC A)
section
variable {N:Nat} (hN:1048578<N) {A:Ap} (h:ZU A)
include hN h
theorem sQ:(apC A).length<=93000:=by have h1:=ArO hN (Adm hN (n:=0)) 2;have h6:=yL hN h.su;have h9:=o5 hN h.k;have h10:=Sp.JD 48 (Ze A.kh A.ki A.kr);have h11:=ArB hN h.x;unfold apC vU;simp only[Dv];omega
theorem Ag9 (raw bd sig:Bs):RF N (A.c raw bd sig)=some 0:=by
 have h4:P5 N A.x=some 0:=Aeh hN h.x;unfold RF;try simp -zeta only[Aq]
 try dsimp only
 rw[QN hN h.su,Jr,show((0:Int) != 0)=false from rfl,cond_false,wL h.k,Jr,show((0:Int) != 0)=false from rfl,cond_false];exact(congrArg (fun o=>Jq o _) h4).trans rfl
theorem Arq (raw bd sig:Bs):Rk N (A.c raw bd sig)=some (apB A,0):=by
 have hl:=sQ hN h;have I0:=Adm hN (n:=0);have w2:JB N false 2 [UH 0]=_:=V5 N 2 false [UH 0] (by omega) (by omega) hN (by simp) (by rw[KJ];have:=I0.len;omega);rw[KJ]at w2;have wi:N8 N false 0=some (Qm 2 0,false):=by unfold N8;rw[I0.put,Jr,w2];rfl
 have fin: ∀ t,t=exO A.x->(Jq (N8 N false 0) fun r42=>Jq (Tt N A.su) fun r46=>Jq (JZ N r42.2 r46.1 r46.2) fun r49=>Jq (Tz N (A.kh,A.ki,A.kr)) fun r53 =>
  Jq (JZ N r49.2 r53.1 r53.2) fun r56=>Jq (JS N r56.2 [r42.1,r49.1,r56.1,t]) fun r59=>Jq (N7 N r59.2) fun r61=>bif r61.1 then some (([]:Bs),2)else some (r59.1,(0:Int)))=some (apB A,0):=by
  intro t ht
  have wS:JS N false [Qm 2 0,nmT A.su,vU A.kh A.ki A.kr,t]=some (apB A,false):=by
   subst ht;have e:([Qm 2 0,nmT A.su,vU A.kh A.ki A.kr,exO A.x]:List Bs).flatten=apC A:=by simp [apC]
   rw[AbC N false _ (by show 4<N;omega) (by show 4<=_;omega),e,WX (by omega)];rfl
  rw[wi,Jr,iH hN h.su,Jr];dsimp only;rw[UZ,Jr,Al0 hN h.k,Jr];dsimp only;rw[UZ,Jr];dsimp only;rw[wS,Jr];rfl
 unfold Rk;try simp -zeta only[Aq]
 rw[Ag9 hN h,Jr,show((0:Int) != 0)=false from rfl,cond_false,WL];dsimp only[U28];refine(congrArg (fun o=>Jq o _) (Atl hN h.x)).trans ?_;rw[Jr];dsimp only;rw[show((0:Int) != 0)=false from rfl,cond_false];cases hb:(exI A.x).isEmpty with
 | true =>rw[Fg.1 hb];exact fin [] (by unfold exO;rw[hb];rfl)
 | false =>have h0:=Acz hb;have:=EW.2 h0;have hx:=AdW hN h.x h0;have:=Sp.JD 48 (xsC (exI A.x));have w:JB N false 160 [xsB (exI A.x)]=_:=V5 N 160 false [xsB (exI A.x)] (by omega) (by omega) hN (by simp) (by rw[KJ];unfold xsB;omega);rw[KJ]at w;rw[Dk (by omega:((exI A.x).length:Int)>0),cond_true,AoH (Acd hN h.x h0) hN,Jr];dsimp only;rw[UZ,Jr];dsimp only;rw[w,Jr];exact fin (Sp.elem 160 (xsB (exI A.x))) (by unfold exO;rw[hb];rfl)
theorem AmC:Par 1 (apC A) (Alm 2 0::JQ 48 (UK A.su)::JQ 48 (Ze A.kh A.ki A.kr)::(bif !(exI A.x).isEmpty then [JQ 160 (xsB (exI A.x))]else [])):=by
 have I0:=Adm hN (n:=0)
 refine Q4 (es:=[_]) (QD (Ap9 I0 (by decide) (by decide)) (by decide) (by decide)) (Q4 (es:=[_]) (Aes hN h.su (by decide))
  (Q4 (es:=[_]) (NS (MC (by decide) (by decide) (by have:=o5 hN h.k;omega)) (by decide) (AjQ hN h.k (by decide)).nest) ?_))
 unfold exO;cases hb:(exI A.x).isEmpty with
 | true=>exact yN 1
 | false =>have h0:=Acz hb;have hl:=AdW hN h.x h0;have:=Sp.JD 48 (xsC (exI A.x));have X:=Acd hN h.x h0;exact NS (MC (by decide) (by decide) (by unfold xsB;omega)) (by decide) (NS (As4 X hN) (d:=2) (by decide) (AoI X hN (by decide)).nest).nest
omit h in
theorem sgl {sig:Bs} (hs:sig.length<=600):(XR++Sp.elem 3 (0::sig)).length<=700:=by have h2:=Ag7 (YB hN);have h3:=Sp.JD 3 (0::sig);rw[List.length_cons]at h3;rw[Dv];omega
end
def sgC (A:Ap) (sig:Bs):Bs:=apB A++(XR++Sp.elem 3 (0::sig))
def sgB (A:Ap) (sig:Bs):Bs:=Sp.elem 48 (sgC A sig)
section
variable {N:Nat} (hN:1048578<N) {A:Ap} (h:ZU A) {sig:Bs} (hs:sig.length<=600)
include hN h
theorem Ad6:(apB A).length<=93005:=by have:=sQ hN h;have:=Sp.JD 48 (apC A);unfold apB;omega
include hs
theorem Ao1:(sgC A sig).length<=94000:=by have:=Ad6 hN h;have:=sgl hN hs;unfold sgC;rw[Dv];omega
theorem Ajr:Xl N (apB A) sig=some (sgB A sig,0):=by
 have hl:=sQ hN h;have hL:=Ao1 hN h hs;have h3:=Sp.JD 3 (0::sig);rw[List.length_cons]at h3;have f3:JB N false 3 [0::sig]=_:=V5 N 3 false [0::sig] (by omega) (by omega) hN (by simp) (by rw[KJ,List.length_cons];omega);rw[KJ]at f3;have f48:JS N false [apB A,XR,Sp.elem 3 (0::sig)]=some (sgB A sig,false):=by unfold sgC at hL;rw[AbC N false _ (by show 3<N;omega) (by show 3<=_;omega),kN,WX (by omega)];rfl
 have e:OJ N false (apB A) sig=some (sgB A sig,false,apB A,sig):=by unfold OJ;rw[(YB hN).enc,Jr,AhW N (by omega),Jr];dsimp only;rw[UZ,Jr];dsimp only;rw[f3,Jr];dsimp only;rw[f48,Jr]
 unfold Xl YE apB;rw[AlL hN (t:=48) (k:=48) (MC (by decide) (by decide)) rfl,Jr];dsimp only;rw[show((0:Int) != 0)=false from rfl,cond_false];refine(congrArg (fun o=>Jq (Jq o _) _) e).trans ?_;rw[Jr];rfl
end
def Ap.K (A:Ap):Ap:=⟨nmC A.su,A.kh,A.ki,A.kr,inK A.x⟩
section
variable {N:Nat} (hN:1048578<N)
include hN
theorem AsB {A:Ap} (h:ZU A):ZU A.K:=⟨AcR hN h.su,h.k,Aq7 hN h.x⟩
variable (raw bd:Bs) (su:List (List MF)) (kh:Int) (ki kr:Bs) (x:Info) (sig:Bs) (r:List El)
theorem AoA:NF N (mkA raw bd su kh ki kr x sig) (Alm 2 0::r)=some (0,mkA raw bd su kh ki kr x sig,r):=by
 have I0:=Adm hN (n:=0);unfold NF Alm;try simp -zeta only[Aq]
 rw[WG 2 _ r (k:=2) rfl,Jr];dsimp only;rw[show((0:Int) != 0)=false from rfl,cond_false,el2,I0.int];rfl
theorem Ao6 {n:List (List MF)} (hn:okN n):ND N (mkA raw bd su kh ki kr x sig) (JQ 48 (UK n)::r)=some (0,mkA raw bd (nmC n) kh ki kr x sig,r):=by
 unfold ND;try simp -zeta only[Aq]
 rw[WG 48 _ r (k:=48) rfl,Jr];dsimp only;rw[show((0:Int) != 0)=false from rfl,cond_false,el3];refine(congrArg (fun o=>Jq o _) (iG hN hn)).trans rfl
theorem Au5 {k:Int} {i q:Bs} (K:OkK k i q):PQ N (mkA raw bd su kh ki kr x sig) (JQ 48 (Ze k i q)::r)=some (0,mkA raw bd su k i q x sig,r):=by
 unfold PQ;try simp -zeta only[Aq]
 rw[WG 48 _ r (k:=48) rfl,Jr];dsimp only;rw[show((0:Int) != 0)=false from rfl,cond_false,el3];refine(congrArg (fun o=>Jq o _) (Alz hN K)).trans rfl
theorem AgZ {y:Info} (h:OkI y):MR N (mkA raw bd su kh ki kr none0 sig) (bif !(exI y).isEmpty then [JQ 160 (xsB (exI y))]else [])=some (0,mkA raw bd su kh ki kr (inK y) sig,[]):=by
 unfold MR;try simp -zeta only[Aq]
 rw[sD,Jr];cases hb:(exI y).isEmpty with
 | true =>have hi:=Aai hN h;rw[Fg.1 hb]at hi;have hn:QR N []=some (none0,0):=AeG hN (EF _) rfl (by obtain⟨M,rfl⟩:=ofM hN;kernel_rfl);rw[hn]at hi;have hi:none0=inK y:=(IJ (Fp hi)).1;rw[<- hi,Eu,cond_false,Ahr];rfl
 | false =>have h0:=Acz hb;have hd:=AoG (Acd hN h h0) hN;rw[EG,cond_true,Ahs (show((160:Nat):Int)=160 from rfl)];dsimp only;rw[Eu,cond_false,el2,hd,Jr];dsimp only;rw[show((0:Int) != 0)=false from rfl,cond_false,Aai hN h,Jr]
theorem Ai3:Na N (mkA raw bd su kh ki kr x sig) (JQ 48 V9::r)=some (0,mkA raw bd su kh ki kr x sig,r):=by unfold Na;rw[Am6,Jr];dsimp only;rw[show((0:Int) != 0)=false from rfl,cond_false,(YB hN).chk];rfl
omit hN in
theorem Ajw (s:Bs):Nb N (mkA raw bd su kh ki kr x sig) (JQ 3 (0::s)::r)=some (0,mkA raw bd su kh ki kr x s,r):=by
 unfold Nb;try simp -zeta only[Aq]
 rw[WG 3 _ r (k:=3) rfl,Jr];dsimp only;rw[show((0:Int) != 0)=false from rfl,cond_false,el2,AqD];rfl
end
section
variable {N:Nat} (hN:1048578<N) {A:Ap} (h:ZU A) {sig:Bs} (hs:sig.length<=600)
include hN h
theorem Aps (raw bd:Bs):Ve N (mkA raw bd [] 0 [] [] none0 []) (Alm 2 0::JQ 48 (UK A.su)::JQ 48 (Ze A.kh A.ki A.kr)::(bif !(exI A.x).isEmpty then [JQ 160 (xsB (exI A.x))]else []))=some (0,A.K.c raw bd [],[]):=by unfold Ve;rw[AoA hN,Jr];dsimp only;rw[show((0:Int) != 0)=false from rfl,cond_false];refine(congrArg (fun o=>Jq o _) (Ao6 hN raw bd [] 0 [] [] none0 [] _ h.su)).trans ?_;rw[Jr];dsimp only;rw[show((0:Int) != 0)=false from rfl,cond_false];refine(congrArg (fun o=>Jq o _) (Au5 hN raw bd (nmC A.su) 0 [] [] none0 [] _ h.k)).trans ?_;rw[Jr];dsimp only;rw[show((0:Int) != 0)=false from rfl,cond_false];refine(congrArg (fun o=>Jq o _) (AgZ hN raw bd (nmC A.su) A.kh A.ki A.kr [] h.x)).trans ?_;rw[Jr];dsimp only;rw[show((0:Int) != 0)=false from rfl,cond_false];rfl
theorem AsU (raw:Bs) (r:List El):OY N (mkA raw [] [] 0 [] [] none0 []) (JQ 48 (apC A)::r)=some (0,A.K.c raw (apB A) [],r):=by
 have hl:=sQ hN h;have h1:=Oi N (apC A);rw[(AmC hN h).list]at h1;unfold OY Qi;try simp only[clR]
 rw[WG 48 _ _ (k:=48) rfl,Jr];dsimp only;rw[show((0:Int) != 0)=false from rfl,cond_false,el2,el3,h1,Jr];dsimp only;rw[show((0:Int) != 0)=false from rfl,cond_false,Nk];dsimp only;rw[show((0:Int) != 0)=false from rfl,cond_false];refine(congrArg (fun o=>Jq o _) (Aps hN h raw (apB A))).trans ?_;rw[Jr]
include hs
theorem qN:Nz N (sgB A sig)=some (A.K.c (sgB A sig) (apB A) sig,0):=by
 have hl:=sQ hN h;have hL:=Ao1 hN h hs
 have hp:Par 0 (sgC A sig) [JQ 48 (apC A),JQ 48 V9,JQ 3 (0::sig)] :=
  Q4 (es:=[_]) (NS (MC (by decide) (by decide)) (by decide) (AmC hN h).nest) (Q4 (es:=[_]) (AjE (YB hN) (by decide)) (QD (MC (by decide) (by decide) (by rw[List.length_cons];omega)) (by decide) (by decide)))
 have ho:QA N (sgB A sig) 48=some (.inl (_,0)):=yM hN (t:=48) (by omega) (by omega) (by omega) hp.list;have hc:=Ag9 hN (AsB hN h) (sgB A sig) (apB A) sig;have he:Vd N (mkA (sgB A sig) [] [] 0 [] [] none0 []) [JQ 48 (apC A),JQ 48 V9,JQ 3 (0::sig)]=some (0,A.K.c (sgB A sig) (apB A) sig,[]):=by unfold Vd;rw[AsU hN h,Jr];dsimp only;rw[show((0:Int) != 0)=false from rfl,cond_false];refine(congrArg (fun o=>Jq o _) (Ai3 hN (sgB A sig) (apB A) A.K.su A.K.kh A.K.ki A.K.kr A.K.x [] _)).trans ?_;rw[Jr];dsimp only;rw[show((0:Int) != 0)=false from rfl,cond_false];refine(congrArg (fun o=>Jq o _) (Ajw (sgB A sig) (apB A) A.K.su A.K.kh A.K.ki A.K.kr A.K.x [] _ sig)).trans ?_;rw[Jr];rfl
 unfold Nz;try simp only[clR]
 rw[ho,Nk];dsimp only;rw[show((0:Int) != 0)=false from rfl,cond_false,show Ti N=some none0 from rfl,Jr];refine(congrArg (fun o=>Jq o _) he).trans ?_;rw[Jr];dsimp only;rw[show((0:Int) != 0)=false from rfl,cond_false];refine(congrArg (fun o=>Jq o _) hc).trans ?_;rw[Jr];rfl
end
def An1 {X Y S ρ :Type} {B:X->(X->Option ρ)->(Y->Option ρ)->Option ρ} {kx:Y->Option ρ} (mk:Nat->S->X) (n:Nat) (f:Nat->S->S) (fin:S->Option ρ)
 (h: ∀(i:Nat) (s:S),i<n-> ∀ k,B (mk i s) k kx=k (mk (i+1) (f i s)))
 (hend: ∀(s:S) (k:X->Option ρ),B (mk n s) k kx=fin s) (N:Nat) (s:S) (hN:n<N):J4 B N (mk 0 s) kx=fin ((List.range n).foldl (fun s i=>f i s) s):=by
 have key: ∀ m i s,i+m=n-> ∀ N,m<N->J4 B N (mk i s) kx=fin ((List.range' i m).foldl (fun s i=>f i s) s):=by
  intro m
  induction m with
  | zero =>
   intro i s hi N hN;obtain⟨N,rfl⟩: ∃ K,N=K+1:=⟨N - 1,by omega⟩
   have hi:i=n:=hi;subst hi;rw[KO,hend];rfl
  | succ m ih =>
   intro i s hi N hN;obtain⟨N,rfl⟩: ∃ K,N=K+1:=⟨N - 1,by omega⟩
   rw[KO,h i s (by omega),ih (i+1) _ (by omega) N (by omega)];rfl
 rw[Ic];exact key n 0 s (by omega) N hN
def Ap2 {α :Type} (p: α ->Bool): ∀(l:List α) (b:Bool),l.foldl (fun s x=>s||p x) b=(b||l.any p):=by
 intro l
 induction l with
 | nil=>intro b;simp
 | cons x r ih=>intro b;rw[List.foldl_cons,ih,List.any_cons,Bool.or_assoc]
def Amf (r s:List MF):Bool:=(r.length==s.length)&&r.all (fun a=>s.any fun b=>a.1==b.1&&(a.2.1==b.2.1&&(a.2.2==b.2.2&&true)))
def Aql:(NP.all fun r=>Amf (iP r) r&&decide ((iP r).length<=2))=true:=by kernel_rfl
section
variable {N:Nat} (hN:1048578<N)
include hN
theorem Ai0 (n m:List (List MF)) (hl:m.length=n.length) (hn:n.length<=1048576) (h: ∀ i,i<n.length->Amf (n.getD i []) (m.getD i [])=true/\(n.getD i []).length<=1048576):Le N n m=some true:=by
 unfold Le;try simp only[clR]
 rw[Xb (by rw[hl]),cond_false];refine MZ (fun i=>((i:Int),n,m)) n.length (some true) ?_ ?_ N
 .intro i hi k;obtain⟨h1,h2⟩:=h i hi;unfold Amf at h1;rw[Dq,EK,D7]at h1;obtain⟨h3,h4⟩:=h1;have him:i<m.length:=by omega
  dsimp only[U3];simp (disch:=omega) only[JO,Xb (show(((n.getD i []).length:Nat):Int)=(((m.getD i []).length:Nat):Int) by rw[h3])];refine MZ (fun j=>((j:Int),n,m)) (n.getD i []).length (k (((i+1:Nat):Int),n,m)) ?_ ?_ N
  .intro j hj k2;have ha:=h4 _ (getD_mem ([],0,[]) hj);simp (disch:=omega) only[JO];generalize (n.getD i []).getD j ([],0,[])=a at *
   refine(An1 (S:=Bool) (fun q b=>(b,(q:Int),n,m,a.1,a.2.1,a.2.2)) (m.getD i []).length (fun q b=>b||(a.1==((m.getD i []).getD q ([],0,[])).1&&(a.2.1==((m.getD i []).getD q ([],0,[])).2.1&&(a.2.2==((m.getD i []).getD q ([],0,[])).2.2&&true)))) (fun b=>bif !b then some false else k2 (((j+1:Nat):Int),n,m)) ?_ ?_ N false (by omega)).trans ?_
   .intro q b hq k3;simp (disch:=omega) only[JO];rfl
   .intro b k3;simp (disch:=omega) only[JO];rfl
   .rw[Ap2,GV];obtain⟨b,C,hb2⟩:=Fz.1 ha;obtain⟨q,hq,rfl⟩:=F9.1 C;rw[Fz.2 ⟨q,ER.2 hq,by rw[getD_lt (m.getD i []) q _ hq];exact hb2⟩];rfl
  .intro k2;simp (disch:=omega) only[JO];rfl
 .intro k;simp (disch:=omega) only[JO]
theorem lX {n:List (List MF)} (hn:okN n):Le N (nmC n) n=some true:=by
 have h3:=hn.1;have hL:(nmC n).length=n.length:=Dx _;refine Ai0 hN (nmC n) n hL.symm (by omega) fun i hi=> ?_;rw[hL]at hi;have hm:(nmC n).getD i []=iP (n.getD i []):=by unfold nmC;rw[getD_lt _ _ _ (by rw[Dx];exact hi),Fa,getD_lt n i [] hi]
 have:=D7.1 Aql _ (hn.2 _ (getD_mem [] hi));rw[Dq,DJ]at this;rw[hm];exact⟨this.1,by omega⟩
theorem UY {l:List GnL} (hl:l.length<=1048576) (h: ∀ g∈l,okN g.2.2):L6 N (l.map gnK) l=some true:=by
 have hL:(l.map gnK).length=l.length:=Dx _;unfold L6;try simp only[clR]
 rw[Xb (by rw[hL]),cond_false,hL];refine MZ (fun i=>(i:Int)) l.length (some true) ?_ ?_ N
 .intro i hi k;have hn:=h _ (getD_mem (0,[],[]) hi);have h1:=lX hN hn;have hm:(l.map gnK).getD i (0,[],[])=gnK (l.getD i (0,[],[])):=by rw[getD_lt _ _ _ (by rw[Dx];exact hi),Fa,getD_lt l i (0,[],[]) hi]
  have him:i<(l.map gnK).length:=by omega
  generalize l.map gnK=m at *
  simp (disch:=omega) only[JO,hm];generalize l.getD i (0,[],[])=g at *
  unfold gnK;simp only[h1,DK,Es,Option.isSome_some,Option.getD_some,EJ,Ff,LG,Eu,EG,cond_false,cond_true,FK];rfl
 .intro k;simp (disch:=omega) only[JO]
omit hN in
theorem AjX:okN []:=⟨EF _,fun r hr=>by cases hr⟩
omit hN in
theorem Aof {g:GnL} (h:okG g):okN g.2.2:=by
 rcases h with h1 | ⟨n,hn,e⟩
 .have:=D7.1 (show Adt.all (fun g=>g.2.2.isEmpty)=true by decide) _ h1;rw[Fg]at this;rw[this];exact AjX
 .rw[e];exact hn
omit hN in
theorem Aoe {g:GnL} (h:okB g):okN g.2.2:=by
 rcases h with h1 | ⟨n,hn,e⟩
 .have:=D7.1 (show AbJ.all (fun g=>g.2.2.isEmpty)=true by decide) _ h1;rw[Fg]at this;rw[this];exact AjX
 .rw[e];exact hn
theorem sJ {l:List PtL} (hl:l.length<=1048576) (h: ∀ p∈l,okP p):Ns N (l.map ptK) l=some true:=by
 have hL:(l.map ptK).length=l.length:=Dx _;unfold Ns;try simp only[clR]
 rw[Xb (by rw[hL]),cond_false,hL];refine MZ (fun i=>(i:Int)) l.length (some true) ?_ ?_ N
 .intro i hi k;have hp:=h _ (getD_mem ([],0,false,[]) hi);have hm:(l.map ptK).getD i ([],0,false,[])=ptK (l.getD i ([],0,false,[])):=by rw[getD_lt _ _ _ (by rw[Dx];exact hi),Fa,getD_lt l i ([],0,false,[]) hi]
  have him:i<(l.map ptK).length:=by omega
  generalize l.map ptK=m at *
  have h1:L6 N ((l.getD i ([],0,false,[])).1.map gnK) (l.getD i ([],0,false,[])).1=some true:=by obtain⟨g,hg,e⟩:=hp.nm;rw[e];exact UY hN (l:=[g]) (by show 1<=_;omega) fun x hx=>by rw[Eh.1 hx];exact Aof hg
  have h2:Le N (nmC (l.getD i ([],0,false,[])).2.2.2) (l.getD i ([],0,false,[])).2.2.2=some true:=by
   refine lX hN ?_;rcases hp.is with ⟨_,e⟩ | ⟨_,e,_⟩
   .rw[e];exact⟨EF _,fun r hr=>by cases hr⟩
   .exact e
  simp (disch:=omega) only[JO,hm];generalize l.getD i ([],0,false,[])=p at *
  unfold ptK;simp only[h1,h2,Jr,DK,Es,Option.isSome_some,Option.getD_some,EJ,Ff,LG,Eu,EG,cond_false,cond_true,FK,Ym];rfl
 .intro k;simp (disch:=omega) only[JO]
theorem ZV {l:List Bs} (hl:l.length<=1048576):NH N l l=some true:=by
 unfold NH;try simp only[clR]
 rw[Xb rfl,cond_false];refine MZ (fun i=>(i:Int)) l.length (some true) ?_ ?_ N
 .intro i hi k;simp (disch:=omega) only[JO,LC,DK]
 .intro k;simp (disch:=omega) only[JO]
theorem zT {l:List (Bs×Bs)} (hl:l.length<=1048576):Qp N l l=some true:=by
 unfold Qp;try simp only[clR]
 rw[Xb rfl,cond_false];refine MZ (fun i=>(i:Int)) l.length (some true) ?_ ?_ N
 .intro i hi k;simp (disch:=omega) only[JO,LC,DK]
 .intro k;simp (disch:=omega) only[JO]
theorem qU {l:List ExL} (hl:l.length<=1048576):Pn N l l=some true:=by
 unfold Pn;try simp only[clR]
 rw[Xb rfl,cond_false];refine MZ (fun i=>(i:Int)) l.length (some true) ?_ ?_ N
 .intro i hi k;simp (disch:=omega) only[JO,LC,DK]
 .intro k;simp (disch:=omega) only[JO]
theorem Akp {x:Info} (h:OkI x):OB N (inK x) x=some true:=by
 have hun:=y8 h.un;obtain⟨C,D,F,G,H,I,J,L,M,O,P,Q,R,T,U,V,W,Z,un⟩:=x;dsimp only at hun;have s1:=ZV hN (l:=H) (by have:=h.pu.len;dsimp only at this;omega);have s2:=ZV hN (l:=I) (by have:=h.po.len;dsimp only at this;omega);have s3:=zT hN (l:=J) (by have:=h.ma.len;dsimp only at this;omega);have s4:=UY hN (l:=P) (by have:=h.na.1;dsimp only at this;omega) fun g hg=>Aof (h.na.2 g hg)
 have s5:Qo N (R.map gnK,T.map gnK) (R,T)=some true:=by
  have hs:R.length<=3/\T.length<=3/\(∀ g∈R,okB g)/\ ∀ g∈T,okB g:=by
   rcases h.con with ⟨_,h1,h2⟩ | ⟨_,h1⟩
   .dsimp only at h1 h2;rw[h1,h2];exact⟨EF _,EF _,fun g hg=>(by cases hg),fun g hg=>(by cases hg)⟩
   .exact⟨h1.l0,h1.l1,h1.a0,h1.a1⟩
  have a1:=UY hN (l:=R) (by omega) fun g hg=>Aoe (hs.2.2.1 g hg);have a2:=UY hN (l:=T) (by omega) fun g hg=>Aoe (hs.2.2.2 g hg);unfold Qo;try simp -zeta only[Aq]
  simp only[a1,a2,Jr,EJ,LG,Option.isSome_some,Option.getD_some,cond_true]
 have s6: ∀ l,(l=[]\/UL l)->Ns N (l.map ptK) l=some true:=by
  rintro l (rfl | h1)
  .exact sJ hN (l:=[]) (EF _) fun p hp=>by cases hp
  .exact sJ hN (by have:=h1.len;omega) h1.all
 have s7:=s6 W h.pt;have s8:=s6 Z h.fr;have s9:=qU hN (l:=un) (by omega);unfold OB inK;try simp -zeta only[Aq]
 simp only[Jy,DK,cond_true,LG,EJ,Option.isSome_some,Option.getD_some,s1,s2,s3,s4,s5,s7,s8,s9]
end
def Ah4 {α :Type} (d: α) (l:List α):l=(List.range l.length).map fun i=>l.getD i d:=by
 apply IV
 .simp
 .intro i h1 h2;simp [Dj,h1]
def Amc (M:Nat) (g:Nat->Int) (f:Nat->UInt8):((SK (M+300) ((List.range 8).map g) ((List.range 64).map f)).map List.length)=some 8:=by kernel_rfl
section
variable {N:Nat} (hN:1048578<N)
include hN
theorem Aox {l:List Int} {b:Bs} (h8:l.length=8) (hb:b.length=64):Ends (fun r=>r.length=8) (SK N l b):=by obtain⟨M,rfl⟩:=ofM hN;have h:=Amc M (fun i=>l.getD i 0) fun i=>b.getD i 0;rw[<- h8,<- hb,<- Ah4,<- Ah4,h8]at h;obtain⟨w,hw,hl⟩:=Hz.1 h;exact⟨w,hw,hl⟩
theorem Ato {l:List Int} (h8:l.length=8):Ends (fun r=>r.length=32) (kF N l):=by
 obtain⟨M,rfl⟩:=ofM hN
 match l,h8 with
 | [a,b,c,d,e,f,g,h],_ =>rw[kF8,JR _ (by simp [W32,O9,FU])];exact Kv (by simp [W32,FU])
theorem Arl {l:List Bs} (hc:l.length<=1000) (hl:l.flatten.length<=100000):Ends (fun r=>r.length=32) (UR N l):=by
 unfold UR;try simp -zeta only[Aq]
 refine KT (fun x=>0<=x.2/\x.2<=(l.length:Int)/\x.1.length+(l.drop x.2.toNat).flatten.length<=100000) (fun x=>l.length - x.2.toNat) ?_ N _ ⟨EM _,by dsimp only;omega,by simpa using hl⟩ (by dsimp only;omega);rintro ⟨t,i⟩ ⟨h0,h1,h2⟩ k hk;dsimp only[U2]at h0 h1 h2 ⊢;refine JH (fun hi=> ?_) (fun hi=> ?_)
 .have hi:=D5 hi;have hd:l.drop i.toNat=l.getD i.toNat []::l.drop (i.toNat+1):=by rw[Et (by omega),getD_lt l i.toNat []]
  rw[hd,List.flatten_cons,Dv]at h2;refine Jz (Dk) (Jz (Dk) (Jz (Dk) (hk _ ⟨?_,?_,?_⟩ ?_)))
  .dsimp only;rw[w64];omega
  .dsimp only;rw[w64];omega
  .dsimp only;rw[w64,Dv,show(i+1).toNat=i.toNat+1 by omega];omega
  .dsimp only;rw[w64];omega
 .have ht:t.length<=100000:=by omega
  clear hk h2 hi h0 h1;generalize hn:t.length=n at ht;have e1:i64.wrap ((n:Int)+9)=((n+9:Nat):Int):=by rw[w64];omega
  have e2:(((n+9:Nat):Int)).tmod 64=(((n+9) % 64:Nat):Int):=by rw[GX (by omega)];omega
  rw[e1,e2,w64];refine dY (P:=fun x=> ∃ q:Nat,x=((q:Int),aZ)/\q<64/\(n+9+q) % 64=0) (fun j hj=>JH (fun h=>hj _ ⟨0,rfl,by decide,by rw[EK]at h;omega⟩) (fun h=>hj _ ⟨64 - (n+9) % 64,?_,?_,by omega⟩)) ?_
  .exact congrArg (·,aZ) (by omega)
  .have: ¬(64 - (((n+9) % 64:Nat):Int))=64:=by intro e;rw[e]at h;cases h
   omega
  rintro _ ⟨q,rfl,hq,hm⟩;dsimp only[U2];have e3:i64.wrap (9+(q:Int))=((9+q:Nat):Int):=by rw[w64];omega
  rw[e3,Int.toNat_natCast];have hr:(List.replicate (9+q) (0:Int)).length=9+q:=Eo;refine Jz (Dk) (Jz (Dk) (Jz (Dk) (Jz (Dk) (Jz (Dk) ?_))))
  have hset: ∀ e∈(List.replicate (9+q) (0:Int)).set 0 128,isByte e=true:=fun e he=>by
   rcases FV he with he | rfl
   .rw[F8 he];rfl
   .rfl
  refine KT (fun x=>0<=x.1/\x.1<=8/\x.2.1=aZ/\x.2.2.length=9+q/\ ∀ e∈x.2.2,isByte e=true) (fun x=>8 - x.1.toNat) ?_ N _ ⟨EM _,by dsimp only;omega,rfl,by dsimp only;rw[F7,hr],hset⟩ (by dsimp only;omega);rintro ⟨j,s,p⟩ ⟨g0,g1,g2,g3,g4⟩ k hk;dsimp only[U3]at g0 g1 g2 g3 g4 ⊢;subst g2;refine JH (fun hj=> ?_) (fun hj=> ?_)
  .have hj:=D5 hj;rw[g3,w64 (x:=((9+q:Nat):Int) - 1),w64 (x:=((9+q:Nat):Int) - 1 - j)];refine Jz (Dk (by rw[w64];omega)) (Jz (Dk) (Jz (Dk) (Jz (Dk) (hk _ ⟨?_,?_,rfl,?_,fun e he=> ?_⟩ ?_))))
   .dsimp only;rw[w64];omega
   .dsimp only;rw[w64];omega
   .dsimp only;rw[F7,g3]
   .rcases FV he with he | rfl
    .exact g4 e he
    .exact O9 _
   .dsimp only;rw[w64];omega
  .dsimp only[U2];clear hk hj g0 g1;have hM:(t++List.map Vm.byteOf p).length=n+(9+q):=by rw[Dv,Dx,g3,hn]
   refine Jz (D7.2 g4) (Jz (Dk (by rw[Dx,g3];omega)) ?_);generalize t++List.map Vm.byteOf p=m at hM;refine KT (fun x=>x.1.length=8/\0<=x.2/\x.2<=(m.length:Int)/\x.2 % 64=0) (fun x=>m.length - x.2.toNat) ?_ N _ ⟨rfl,EM _,by dsimp only;omega,rfl⟩ (by dsimp only;omega);rintro ⟨s,i⟩ ⟨d0,d1,d2,d3⟩ k hk;dsimp only[U2]at d0 d1 d2 d3 ⊢;refine JH (fun hi=> ?_) (fun hi=>Ato hN d0);have hi:=D5 hi;rw[w64 (x:=i+64)];refine Jz (Dk) (Jz (Dk) (Jz (Dk) ?_));refine JA (Aox hN d0 (by rw[Vg _ _ _];omega)) fun r hr=> ?_;exact hk _ ⟨hr,by dsimp only;omega,by dsimp only;omega,by dsimp only;omega⟩ (by dsimp only;omega)
theorem dM {l:List Bs} (hc:l.length<=1000) (hl:l.flatten.length<=100000):Ends (fun r=>r.length=16) (Ny N l):=by
 unfold Ny;try simp -zeta only[Aq]
 refine JA (Arl hN hc hl) fun r hr=> ?_;exact Jz (Dk) (Kv (by rw[Vg _ _ _]))
omit hN in
theorem Akl (p:Int):Pm N p=some (b4P p):=by
 unfold Pm;try simp -zeta only[Aq]
 rw[JR _ (by simp [O9])];rfl
omit hN in
theorem Akk (p:Int):TW N p=some (b1P p):=by
 unfold TW;try simp -zeta only[Aq]
 rw[JR _ (by simp [O9])];rfl
theorem Ami {s:Bs} (hs:s.length=32) (i j:Int):Ends (fun r=>r.length=16) (XB N s i j):=by unfold XB;rw[Akl,Jr,Akk,Jr];exact JA (dM hN (by simp) (by simp [hs,b4P,b1P])) fun r hr=>Kv hr
theorem Aq3 {p:Bs} (hp:p.length=16) (i j:Int) {x:Bs} (hx:x.length=16):Ends (fun r=>r.length=16) (XC N p i j 0 15 x):=by unfold XC;refine KT (fun x=>x.1.length=16/\0<=x.2/\x.2<=15) (fun x=>15 - x.2.toNat) ?_ N _ ⟨hx,EM _,by dsimp only;omega⟩ (by dsimp only;omega);rintro ⟨t,k⟩ ⟨h0,h1,h2⟩ c hc;dsimp only[U2]at h0 h1 h2 ⊢;refine JH (fun hk=> ?_) (fun _=>Kv h0);have hk:=D5 hk;rw[Akl,Jr,Akk,Jr,Akk,Jr];refine JA (dM hN (by simp) (by simp [hp,h0,b4P,b1P])) fun r hr=> ?_;rw[w64];exact hc _ ⟨hr,by dsimp only;omega,by dsimp only;omega⟩ (by dsimp only;omega)
theorem Ako {p s:Bs} (hp:p.length=16) (hs:s.length=32) (i:Int):Ends (fun _=>True) (X9 N p s i):=by
 have h0:Ends (fun _=>True) (Y6 N p s i):=by
  unfold Y6;try simp only[clR]
  repeat' first | exact Kv trivial | refine JH (fun _=> ?_) (fun _=> ?_)
 unfold X9;try simp -zeta only[Aq]
 refine JA h0 fun r _=>JH (fun _=>Kv trivial) fun _=> ?_;refine KT (fun x=>0<=x.2/\x.2<=35/\(x.1.length:Int)=16*x.2) (fun x=>35 - x.2.toNat) ?_ N _ ⟨EM _,by decide,rfl⟩ (by dsimp only;omega);rintro ⟨t,k⟩ ⟨g0,g1,g2⟩ c hc;dsimp only[U2]at g0 g1 g2 ⊢;refine JH (fun hk=> ?_) (fun _=> ?_)
 .have hk:=D5 hk;refine JA (Ami hN hs i k) fun q hq=> ?_;refine JA (Aq3 hN hp i k hq) fun v hv=> ?_;rw[w64];exact Jz (Dk) (hc _ ⟨by dsimp only;omega,by dsimp only;omega,by dsimp only;rw[Dv,hv];omega⟩ (by dsimp only;omega))
 .rw[Akl,Jr];exact JA (dM hN (by simp) (by simp [hp,b4P];omega)) fun r _=>Kv trivial
theorem AoQ {s:Bs} (hs:s.length=32):Ends (fun r=> ∃ i q:Bs,r=((s,i,[[q]]),0)) (Vw N s 0):=by
 unfold Vw;try simp only[clR]
 rw[show((s.length:Int) != 32)=false by rw[hs];rfl,cond_false];simp (decide:=true) only[GG,cond_false,cond_true,Hq];refine JA (dM hN (l:=[[73],s]) (by simp) (by simp [hs])) fun i hi=> ?_;obtain⟨q,hq,_⟩:=Ako hN hi hs 0;obtain⟨K,rfl⟩: ∃ K,N=K+3:=⟨N - 3,by omega⟩
 rw[KO];dsimp only[U4];refine Jz rfl ?_;rw[show decide ((0:Int)<i64.wrap (1*2 ^ min (Int.toNat 0) 64))=true from rfl,cond_true,hq,Jr];refine Jz rfl ?_;rw[show i64.wrap (0+1)=1 from rfl,KO];dsimp only[U4];refine Jz rfl ?_;rw[show decide ((1:Int)<i64.wrap (1*2 ^ min (Int.toNat 0) 64))=false from rfl,cond_false];dsimp only[U3];rw[KO];dsimp only[U5];rw[show decide ((0:Int)<0)=false from rfl,cond_false];exact⟨_,rfl,i,q.1,rfl⟩
end
end Go.Proofs.YtbgjmioccbacdaaGreatDoor.Pl
