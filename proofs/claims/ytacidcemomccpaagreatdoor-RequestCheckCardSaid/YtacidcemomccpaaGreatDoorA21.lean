import Derived.Test.YtacidcemomccpaaGreatDoorA20
set_option linter.all false
namespace Go.Proofs.YtacidcemomccpaaGreatDoor.Pl
open IntKind (i64 u8 u32 u64)
open Go Vm
def wrap_u64 (x:Int):u64.wrap x=x % 18446744073709551616:=by simp [IntKind.wrap,IntKind.bits,IntKind.signed]
def bad_eq (a b:UInt8) (r:Bs):Sp.WZ (a::b::r)=((((a.toNat:Int)==0)&&decide ((b.toNat:Int)<128))||(((a.toNat:Int)==255)&& !decide ((b.toNat:Int)<128))):=by
 have e1:((a.toNat:Int)==0)=decide (a.toNat=0):=by rw[Fz];simp
 have e2:((a.toNat:Int)==255)=decide (a.toNat=255):=by rw[Fz];simp;omega
 have e3:decide ((b.toNat:Int)<128)=decide (b.toNat<128):=by rw[Fz];simp;omega
 rw[e1,e2,e3];show(_||_&&decide (128<=b.toNat))=_;rw[show decide (128<=b.toNat)= !decide (b.toNat<128) by rw[Fz];simp]
def Ayi (k:Nat):(2:Int) ^ (8*k)=256 ^ k:=by rw[Int.pow_mul];rfl
def AyS (q:Int):Vm.byteOf (u8.wrap q)=Sp.byteOf q:=by unfold Vm.byteOf Sp.byteOf;rw[w8]
def AxC (f:Nat->Int) (l:List Nat):List.all (l.map λi=>u8.wrap (f i)) isByte=true:=by rw[DI];intro x hx;obtain⟨i,_,rfl⟩:=DK.1 hx;exact OZ _
def AeR (v:Int): ∀ n:Nat,(List.range n).map (λi=>Sp.byteOf (v / 256 ^ (n - 1 - i)))=Sp.MM v n:=by
 intro n
 induction n with
 | zero=>rfl
 | succ n ih =>
  rw[Hg,Em,ES];show _=Sp.byteOf (v / 256 ^ n)::Sp.MM v n;rw[<- ih];have e:(List.range n).map ((λi=>Sp.byteOf (v / 256 ^ (n+1 - 1 - i)))∘Nat.succ)=(List.range n).map (λi=>Sp.byteOf (v / 256 ^ (n - 1 - i))):=Eu λi hi=>by show Sp.byteOf (v / 256 ^ (n+1 - 1 - (i+1)))=_;rw[show n+1 - 1 - (i+1)=n - 1 - i by omega]
  rw[e];rfl
def Awd (q:Int):(decide (q< -128)||decide (q>127))= !decide (Sp.fits q):=by
 by_cases h:Sp.fits q
 .rw[Dk h];have h: -128<=q/\q<=127:=h;rw[A0f,A0f];rfl
 .rw[Dq h];have h: ¬(-128<=q/\q<=127):=h;by_cases h':q< -128
  .rw[Dk h'];rfl
  .rw[Dk (show q>127 by omega),EP];rfl
def AaY (N:Nat) (v:Int) (hN:16<N) (h1: -9223372036854775808<=v) (h2:v<=9223372036854775807):NS N v=some (Sp.U1 v):=by
 obtain⟨k,hk7,hf,hm⟩:=Sp.Afp v 7 (Sp.Awc v h1 h2);rw[Sp.xP v k hk7 hf hm]
 have hlow: ∀ j,j<k-> ¬ Sp.fits (v / 256 ^ j):=by
  intro j hj h;rcases hm with rfl | ⟨m,rfl,hm⟩
  .omega
  .obtain⟨d,rfl⟩: ∃ d,m=j+d:=⟨m - j,by omega⟩
   exact hm (Sp.Ahe v j h d)
 unfold NS;try simp only[clR]
 have key: ∀(d j n:Nat) (kx:Int->Option Bs),j+d=k->d<n->Jy (X:=Int×Int) (Y:=Int) (U2 λt3a t4a k1 x2=>bif decide (t4a<((-128):Int))||decide (t4a>(127:Int))then(k1 (i64.wrap (t3a+(1:Int)),t4a.fdiv (256)))else(x2 t3a)) n ((j:Int)+1,v / 256 ^ j) kx=kx ((k:Int)+1):=by
  intro d
  induction d with
  | zero =>
   intro j n kx hj hn;obtain⟨n,rfl⟩: ∃ m,n=m+1:=⟨n - 1,by omega⟩
   have:j=k:=by omega
   subst this;rw[KL];dsimp only[U2];rw[Awd,Dk hf];rfl
  | succ d ih =>
   intro j n kx hj hn;obtain⟨n,rfl⟩: ∃ m,n=m+1:=⟨n - 1,by omega⟩
   rw[KL];dsimp only[U2];rw[Awd,Dq (hlow j (by omega)),EC,cond_true,w64,FD _ (by decide),<- Sp.jH];exact ih (j+1) n kx (by omega) (by omega)
 have k0:=key k 0 N;rw[show v / 256 ^ 0=v by simp]at k0;refine(k0 _ (by omega) (by omega)).trans ?_;refine(Tf (λi acc=>((i:Int),acc)) (List.range (k+1)) 0 (λi=>u8.wrap (v / 256 ^ (k - i))) (λl=>chk (List.all l isByte) (some (l.map Vm.byteOf))) ?_ ?_ N (by rw[DW];omega)).trans ?_
 .intro i acc hi ha kk;rw[DW]at hi;rw[wE hi];dsimp only[U2];have e:i64.wrap (i64.wrap ((k:Int)+1 - 1) - (i:Int))=((k - i:Nat):Int):=by rw[w64 (x:=(k:Int)+1 - 1),w64];omega
  rw[e,wu64 (x:=((k - i:Nat):Int)) (by omega),wu64 (x:=8*((k - i:Nat):Int)) (by omega)];rw[Dk (show(i:Int)<(k:Int)+1 by omega),cond_true,Dk (show(0:Int)<=8*((k - i:Nat):Int) by omega),Ju,Dk (show(acc.length+1)*2<=140737488355328 by omega),Ju,w64 (x:=(i:Int)+1)];rw[show min (8*((k - i:Nat):Int)).toNat 64=8*(k - i) by omega,Ayi,FD _ (IP (by decide))];rfl
 .intro acc kk ha;rw[DW];dsimp only[U2];rw[Dq (show ¬((k+1:Nat):Int)<(k:Int)+1 by omega)];rfl
 .rw[AxC (λi=>v / 256 ^ (k - i)),Ju,ES];refine congrArg some ?_;rw[<- AeR v (k+1)];refine Eu λi _=> ?_;have e:k+1 - 1 - i=k - i:=by omega
  show Vm.byteOf (u8.wrap (v / 256 ^ (k - i)))=Sp.byteOf (v / 256 ^ (k+1 - 1 - i));rw[e];exact AyS _
def Aur (a b:UInt8) (r:Bs):Sp.WZ (a::b::r)=((((a.toNat:Int)==0)&&decide ((b.toNat:Int)<128))||(((a.toNat:Int)==255)&&decide ((b.toNat:Int)>=128))):=by
 have h:(!decide ((b.toNat:Int)<128))=decide ((b.toNat:Int)>=128):=by
  by_cases h:(b.toNat:Int)<128
  .rw[Dk h,A0f];rfl
  .rw[Dq h,Dk];rfl
 rw[bad_eq,h]
def AtH (N:Nat) (B:List Int->(List Int->Option Bs)->(List Int->Option Bs)->Option Bs) (fin:List Int->Option Bs)
 (h1: ∀(a:UInt8) k,B [(a.toNat:Int)] k fin=fin [(a.toNat:Int)])
 (h2: ∀(a b:UInt8) (r:Bs) k,r.length<=6->B ((a::b::r).map λc=>(c.toNat:Int)) k fin=bif Sp.WZ (a::b::r)then k ((b::r).map λc=>(c.toNat:Int))else fin ((a::b::r).map λc=>(c.toNat:Int))) :
 ∀(l:Bs) (n:Nat),l≠ []->l.length<=8->l.length<n->Jy B n (l.map λc=>(c.toNat:Int)) fin=fin ((Sp.strip l).map λc=>(c.toNat:Int)):=by
 intro l
 induction l with
 | nil=>intro n h;exact absurd rfl h
 | cons a r ih =>
  intro n _ h8 hn;obtain⟨n,rfl⟩: ∃ m,n=m+1:=⟨n - 1,by omega⟩
  rw[KL];cases r with
  | nil=>exact h1 a _
  | cons b r =>
   rw[h2 a b r _ (by simp at h8;omega)];show _=fin ((if Sp.WZ (a::b::r)then Sp.strip (b::r)else a::b::r).map _);cases hb:Sp.WZ (a::b::r)with
   | true=>rw[cond_true,Du rfl];exact ih n (by simp) (by simp at h8 ⊢;omega) (by simp at hn ⊢;omega)
   | false=>rfl
def AcQ (N:Nat) (v:Int) (hN:16<N):PL N v=some (Sp.U1 v):=by
 unfold PL;try simp -zeta only[Ap]
 have hw: ∀ e:Nat,e<=7->(u8.wrap ((u64.wrap v).fdiv (2 ^ (8*e))))=((Sp.byteOf (v / 256 ^ e)).toNat:Int):=by
  intro e he;rw[w8,wrap_u64,Sp.byteOf_toNat,FD _ (IP (by decide)),Ayi];have:e=0\/e=1\/e=2\/e=3\/e=4\/e=5\/e=6\/e=7:=by omega
  rcases this with rfl | rfl | rfl | rfl | rfl | rfl | rfl | rfl<;>simp only[show((256:Int) ^ 0)=1 from rfl,show((256:Int) ^ 1)=256 from rfl,show((256:Int) ^ 2)=65536 from rfl,show((256:Int) ^ 3)=16777216 from rfl,show((256:Int) ^ 4)=4294967296 from rfl,show((256:Int) ^ 5)=1099511627776 from rfl,show((256:Int) ^ 6)=281474976710656 from rfl,show((256:Int) ^ 7)=72057594037927936 from rfl]<;>omega
 have key: ∀ fin:List Int->Option Bs,Jy (X:=Int×List Int) (Y:=List Int) (U2 λt5a l k1 x2=>bif decide (t5a>=(0:Int))then(chk (decide ((0:Int)<=i64.wrap ((8:Int)*t5a))) <|
  let x16:Int:=(u64.wrap v).fdiv (2 ^ (min (i64.wrap ((8:Int)*t5a)).toNat 64))
  chk (decide ((l.length+1)*2<=140737488355328)) <|
  k1 (i64.wrap (t5a - (1:Int)),l++([u8.wrap x16]:List Int)))else(x2 l)) N (7,([]:List Int)) fin=fin ((List.range 8).map λi=>((Sp.byteOf (v / 256 ^ (7 - i))).toNat:Int)):=by
  intro fin;refine Tf (λi acc=>(7 - (i:Int),acc)) (List.range 8) 0 (λi=>((Sp.byteOf (v / 256 ^ (7 - i))).toNat:Int)) fin ?_ ?_ N (by rw[DW];omega)
  .intro i acc hi ha kk;rw[DW]at hi;rw[wE hi];dsimp only[U2];rw[Dk (show 7 - (i:Int)>=0 by omega),cond_true,w64 (x:=8*(7 - (i:Int))),Dk (show(0:Int)<=8*(7 - (i:Int)) by omega),Ju,Dk (show(acc.length+1)*2<=140737488355328 by omega),Ju,w64 (x:=7 - (i:Int) - 1)];rw[show min (8*(7 - (i:Int))).toNat 64=8*(7 - i) by omega,hw (7 - i) (by omega),show 7 - (i:Int) - 1=7 - ((i+1:Nat):Int) by omega]
  .intro acc kk ha;rw[DW];dsimp only[U2];rw[Dq (show ¬(7 - ((8:Nat):Int))>=0 by omega),cond_false]
 refine(key _).trans ?_;have e:(List.range 8).map (λi=>((Sp.byteOf (v / 256 ^ (7 - i))).toNat:Int))=(Sp.MM v 8).map λc=>(c.toNat:Int):=by rw[<- AeR v 8,ES];rfl
 rw[e];refine(AtH N _ _ ?_ ?_ (Sp.MM v 8) N (by simp [Sp.MM]) (by rw[Sp.dG];omega) (by rw[Sp.dG];omega)).trans ?_
 .intro a k;have h1:decide ((([(a.toNat:Int)]:List Int).length:Int)>1)=false:=rfl;dsimp only;rw[h1];simp only[XO,EW,EC,EP,Ju,cond_false,DZ,EL]
 .intro a b r k hr;rw[Aur];have q0:decide (((1:Nat):Int)<=((List.map (λc:UInt8=>(c.toNat:Int)) (a::b::r)).length:Int))=true:=Dk (by simp;omega);have q1:decide ((1:Int)<((List.map (λc:UInt8=>(c.toNat:Int)) (a::b::r)).length:Int))=true:=Dk (by simp;omega);have q2:decide (((List.map (λc:UInt8=>(c.toNat:Int)) (a::b::r)).length:Int)>1)=true:=q1;have q3:decide ((0:Int)<((List.map (λc:UInt8=>(c.toNat:Int)) (a::b::r)).length:Int))=true:=Dk (by simp;omega);have q4:decide ((1:Int)<=((List.map (λc:UInt8=>(c.toNat:Int)) (a::b::r)).length:Int))=true:=Dk (by simp;omega);simp only[q1,q2,q3,q4];have g0:(List.map (λc:UInt8=>(c.toNat:Int)) (a::b::r)).getD 0 0=(a.toNat:Int):=rfl;have g1:(List.map (λc:UInt8=>(c.toNat:Int)) (a::b::r)).getD 1 0=(b.toNat:Int):=rfl;have g2:J4 (List.map (λc:UInt8=>(c.toNat:Int)) (a::b::r)) 1 (List.map (λc:UInt8=>(c.toNat:Int)) (a::b::r)).length=List.map (λc:UInt8=>(c.toNat:Int)) (b::r):=by simp only[J4,Em,List.length_cons,Jd,G5,Nat.add_sub_cancel];rw[Fp (by simp)];rfl
  simp only[g0,g1,g2,XO];generalize ((a.toNat:Int)==0)=c1;generalize ((a.toNat:Int)==255)=c2;generalize decide ((b.toNat:Int)<128)=c3;generalize decide ((b.toNat:Int)>=128)=c4;cases c1<;>cases c2<;>cases c3<;>cases c4<;>simp (disch:=omega) only[JD]
 .have h1: ∀ l:Bs,List.all (l.map λc=>(c.toNat:Int)) isByte=true:=λl=>by
   rw[DI];intro x hx;obtain⟨c,_,rfl⟩:=DK.1 hx;have:=Gz c;unfold isByte;simp;omega
  rw[h1,Ju,ES];refine congrArg some ?_;show _=Sp.strip (Sp.MM v 8);generalize Sp.strip (Sp.MM v 8)=l;have h2: ∀ c:UInt8,Vm.byteOf (c.toNat:Int)=c:=λc=>by unfold Vm.byteOf;have:=Gz c;apply H6.1;rw[FH];simp
  exact(Eu λc _=>h2 c).trans (Gf l)
def Qa (g:Gn):Bs:=bif g.1==4 then Sp.elem 164 (nmB g.2.2)else Sp.elem (128+g.1).toNat g.2.1
def AuZ {s:Bs} (h:Pq s=true):s.length<=128:=by
 rcases Eh 128 s.length with hl | hl
 .rw[AfI hl]at h;cases h
 .exact hl
def AoK {s:Bs} (h:QZ s=true):s.length<=128:=by
 rcases Eh 128 s.length with hl | hl
 .rw[Aiv hl]at h;cases h
 .exact hl
def AwN {k:Int} {s:Bs} {c:Bool} (h:AdN k s c=true):s.length<=128/\(k=1\/k=2\/k=7):=by
 unfold AdN at h;by_cases h1:k=1
 .subst h1;refine⟨?_,.inl rfl⟩;rw[TJ rfl,cond_true]at h;cases c with
  | true =>unfold mbP at h;rw[cond_true,Dw,D6]at h;exact h.1
  | false=>exact AuZ h
 .rw[QX h1,cond_false]at h;by_cases h2:k=2
  .subst h2;refine⟨?_,.inr (.inl rfl)⟩;rw[TJ rfl,cond_true]at h;cases c with
   | true =>
    unfold sV at h;rw[cond_true,Ef]at h;rcases h with h | h
    .have:s=[]:=by simpa using h
     subst this;exact Eb _
    .exact AoK h
   | false =>
    rw[cond_false]at h;unfold vX at h;cases hq:Lib.hasPrefix s [42,46]with
    | true =>rw[hq,cond_true,Dw,Dw,D6]at h;exact h.1.1
    | false=>rw[hq]at h;exact AoK h
  .rw[QX h2,cond_false]at h;by_cases h7:k=7
   .subst h7;refine⟨?_,.inr (.inr rfl)⟩;rw[TJ rfl,cond_true]at h;cases c with
    | true =>
     rw[cond_true]at h;unfold wO at h;cases hq:(decide (s.length=8)||decide (s.length=32))with
     | false=>rw[hq]at h;cases h
     | true=>rw[Ef,D6,D6]at hq;omega
    | false =>rw[cond_false]at h;unfold sO at h;rw[Ef,D6,D6]at h;omega
   .rw[QX h7]at h;cases h
def Ahg {g:Gn} {c:Bool} (h:LP g c=0):(g.1=4/\g.2.1=[]/\Og g.2.2=0)\/((g.1=1\/g.1=2\/g.1=7)/\g.2.1.length<=128/\g.2.2=[]/\AdN g.1 g.2.1 c=true):=by
 unfold LP at h;by_cases h4:g.1=4
 .rw[TJ h4,cond_true]at h;cases hq:g.2.1==[]with
  | true=>rw[hq]at h;exact .inl ⟨h4,by simpa using hq,h⟩
  | false=>rw[hq]at h;cases h
 .rw[QX h4,cond_false]at h;cases hq:AdN g.1 g.2.1 c&&g.2.2.isEmpty with
  | false=>rw[hq]at h;cases h
  | true =>rw[Dw]at hq;obtain⟨h1,h2⟩:=AwN hq.1;exact .inr ⟨h2,h1,by simpa using hq.2,hq.1⟩
theorem Zx {g:Gn} {c:Bool} (h:LP g c=0):(Qa g).length<=4498:=by
 unfold Qa;rcases Ahg h with ⟨h1,_,h3⟩ | ⟨h1,h2,_,_⟩
 .rw[TJ h1,cond_true];have:=Sp.JS 164 (nmB g.2.2);have:=(iG h3).1;omega
 .rw[QX,cond_false];have:=Sp.JS (128+g.1).toNat g.2.1;omega
def nV (g:Gn) (c:Bool):Bs×Int:=bif LP g c != 0 then([],LP g c)else(Qa g,0)
def Yy (N:Nat) (g:Gn) (c:Bool) (hN:1048578<N) (hs:kN g):Qb N g c=some (nV g c):=by
 unfold Qb nV;try simp only[clR]
 rw[Zz N g c hN hs,Js,<- JX];refine KN λh0=> ?_;have h0:LP g c=0:=by simpa using h0
 unfold Qa;rcases Ahg h0 with ⟨h1,_,h3⟩ | ⟨h1,h2,_,_⟩
 .have hl:=(iG h3).1;have w:Kz N 164 [nmB g.2.2]=_:=ZI N 164 [nmB g.2.2] (by omega) (by omega) hN (by simp) (by rw[JL];omega);rw[JL]at w;rw[iP h1,cond_false,TJ h1,cond_true,lS N g.2.2 hN hs.2,Js,h3,h1];show Jq (Kz N 164 [nmB g.2.2]) _=_;rw[w,Js]
 .have hk:(128+g.1)=((128+g.1).toNat:Int):=by omega
  have w:=ZI N (128+g.1).toNat [g.2.1] (by omega) (by omega) hN (by simp) (by rw[JL];omega);rw[JL,<- hk]at w;rw[VB (by omega),cond_true,QX,cond_false,w64,w,Js]
def iL (N:Nat) (g:Gn) (c:Bool) (hN:1048578<N) (hs:kN g):P5 N g c=some (nV g c):=by
 unfold P5 nV;try simp only[clR]
 rw[Yc N g c hN hs,Js,<- JX];refine KN λh0=> ?_;have h0:LP g c=0:=by simpa using h0
 unfold Qa;rcases Ahg h0 with ⟨h1,_,h3⟩ | ⟨h1,h2,_,_⟩
 .have hl:=(iG h3).1;have w:JI N 164 [nmB g.2.2]=_:=RN N 164 [nmB g.2.2] (by omega) (by omega) hN (by simp) (by rw[JL];omega);rw[JL]at w;rw[TJ h1,cond_true,cond_true,xJ N g.2.2 hN hs.2,Js,h3,h1];show Jq (JI N 164 [nmB g.2.2]) _=_;rw[w,Js]
 .have hk:(128+g.1)=((128+g.1).toNat:Int):=by omega
  have w:=RN N (128+g.1).toNat [g.2.1] (by omega) (by omega) hN (by simp) (by rw[JL];omega);rw[JL,<- hk]at w;rw[QX,cond_false,cond_false,w64,w,Js]
def ZU (c:Bool) (g:Gn):Bs:=bif LP g c != 0 then []else Qa g
def Ai1 (c:Bool) (g:Gn):(ZU c g).length<=4498:=by
 unfold ZU;cases h:LP g c != 0 with
 | true=>exact Eb _
 | false=>exact Zx (c:=c) (by simpa using h)
def AsF (g:Gn) (c:Bool):nV g c=(ZU c g,LP g c):=by
 unfold nV ZU;cases h:LP g c != 0 with
 | true=>rfl
 | false=>rw[show LP g c=0 by simpa using h];rfl
def Ai2 {c:Bool} {l:List Gn} (h:Kw (λg=>LP g c) l=0):l.map (ZU c)=l.map Qa:=by refine Eu λg hg=> ?_;have:=VO h g hg;unfold ZU;rw[show LP g c=0 from this];rfl
def Np (l:List Gn):Bs:=(l.map Qa).flatten
def Acd (l:List Gn):Bs×Int:=bif l.isEmpty then([],7)else bif decide (16<l.length)then([],2)else bif Py l false != 0 then([],Py l false)else(Np l,0)
def bJ {l:List Gn} {c:Bool} (h:Kw (λg=>LP g c) l=0) (h16:l.length<=16):(Np l).length<=71968:=by have:=Lp (g:=Qa) (M:=4498) (l:=l) (λg hg=>Zx (c:=c) (VO h g hg));unfold Np;omega
def YX (N:Nat) (l:List Gn) (hN:1048578<N) (hs:Lh l):PH N l=some (Acd l):=by
 unfold PH Acd nX;try simp only[clR]
 rw[len0,show decide (((l.length:Nat):Int)>16)=decide (16<l.length)from Nb _ 16];cases he:l.isEmpty with
 | true=>rfl
 | false =>
  rw[cond_false,cond_false];by_cases h16:16<l.length
  .rw[Dk h16];rfl
  .rw[Dq h16,cond_false,cond_false,Js];show Jy _ N _ _=_;refine(tK (mk:=λi t=>(t,(i:Int))) l (0,[],[]) (λg=>LP g false) (ZU false) (λe=>some ([],e)) (λt=>some (t,0)) ?_ ?_ N).trans ?_
   .intro i t hi ht k;have hg:=Yy N _ false hN (hs _ (getD_mem (0,[],[]) hi));have hl:=Lp (g:=ZU false) (M:=4498) (l:=l) (λg _=>Ai1 false g);rw[AsF]at hg;simp (disch:=omega) only[JD,hg,JW]
   .intro t k;simp (disch:=omega) only[JD]
   .unfold Py;rw[<- JX];refine KN λh=> ?_;rw[Ai2 (by simpa using h)];rfl
def dC (N:Nat) (l:List Gn) (hN:1048578<N) (hs:Lh l):PM N l=some (Acd l):=by
 unfold PM Acd;try simp only[clR]
 rw[len0,show decide (((l.length:Nat):Int)>16)=decide (16<l.length)from Nb _ 16];cases he:l.isEmpty with
 | true=>rfl
 | false =>
  rw[cond_false,cond_false];by_cases h16:16<l.length
  .rw[Dk h16];rfl
  .rw[Dq h16,cond_false,cond_false];refine(tK (mk:=λi t=>(t,(i:Int))) l (0,[],[]) (λg=>LP g false) (ZU false) (λe=>some ([],e)) (λt=>some (t,0)) ?_ ?_ N).trans ?_
   .intro i t hi ht k;have hg:=iL N _ false hN (hs _ (getD_mem (0,[],[]) hi));have hl:=Lp (g:=ZU false) (M:=4498) (l:=l) (λg _=>Ai1 false g);rw[AsF]at hg;simp (disch:=omega) only[JD,hg,JW]
   .intro t k;simp (disch:=omega) only[JD]
   .unfold Py;rw[<- JX];refine KN λh=> ?_;rw[Ai2 (by simpa using h)];rfl
def Xx (g:Gn):Bs:=Sp.elem 48 (Qa g)
def AtO {g:Gn} (h:LP g true=0):(Xx g).length<=4503:=by have:=Zx h;have:=Sp.JS 48 (Qa g);unfold Xx;omega
def Rz (t:Nat) (l:List Gn):Bs:=bif l.isEmpty then []else Sp.elem t (l.map Xx).flatten
def AbK {l:List Gn} (h: ∀ g∈l,LP g true=0) (h16:l.length<=16):(l.map Xx).flatten.length<=72048:=by have:=Lp (g:=Xx) (M:=4503) (l:=l) (λg hg=>AtO (h g hg));omega
def AiI {t:Nat} {l:List Gn} (h: ∀ g∈l,LP g true=0) (h16:l.length<=16):(Rz t l).length<=72053:=by
 have h1:=AbK h h16;have:=Sp.JS t (l.map Xx).flatten;unfold Rz;cases l.isEmpty with
 | true=>exact Eb _
 | false=>rw[cond_false];omega
def xM (N t:Nat) (l:List Gn) (ht:t<256) (h31:t % 32≠31) (hN:1048578<N) (hs:Lh l) (h: ∀ g∈l,LP g true=0) (h16:l.length<=16):N9 N (t:Int) l=some (Rz t l,0):=by
 unfold N9 Rz;try simp only[clR]
 rw[len0];cases he:l.isEmpty with
 | true=>rfl
 | false =>
  rw[cond_false,cond_false];have hl:=AbK h h16;refine(Tf (mk:=λi a=>((i:Int),a)) l (0,[],[]) Xx (λl=>Jq (Kz N (t:Int) l) λr45=>some (r45.fst,r45.snd)) ?_ ?_ N).trans ?_
  .intro i a hi ha k;have hg0:=h _ (getD_mem (0,[],[]) hi);have hg:=Yy N _ true hN (hs _ (getD_mem (0,[],[]) hi));have hb:=Zx hg0;have w:Kz N 48 [Qa (l.getD i (0,[],[]))]=_:=ZI N 48 [Qa (l.getD i (0,[],[]))] (by omega) (by omega) hN (by simp) (by rw[JL];omega);rw[JL]at w;unfold nV at hg;rw[hg0]at hg;have w':Sp.elem 48 (Qa (l.getD i (0,[],[])))=Xx (l.getD i (0,[],[])):=rfl;simp (disch:=omega) only[JD,hg,w,w',JW]
  .intro a k ha;simp (disch:=omega) only[JD]
  .rw[ZI N t (l.map Xx) ht h31 hN (by rw[D5];omega) (by omega),Js]
def AoZ (N t:Nat) (l:List Gn) (ht:t<256) (h31:t % 32≠31) (hN:1048578<N) (hs:Lh l) (h: ∀ g∈l,LP g true=0) (h16:l.length<=16):UD N (t:Int) l=some (Rz t l,0):=by
 unfold UD Rz;try simp only[clR]
 rw[len0];cases he:l.isEmpty with
 | true=>rfl
 | false =>
  rw[cond_false,cond_false];have hl:=AbK h h16;refine(Zf (mk:=λi a=>(a,(i:Int))) l (0,[],[]) Xx (λs=>Jq (LU N (t:Int) [s]) λr34=>some (r34.fst,r34.snd)) ?_ ?_ N).trans ?_
  .intro i a hi ha k;have hg0:=h _ (getD_mem (0,[],[]) hi);have hg:=iL N _ true hN (hs _ (getD_mem (0,[],[]) hi));have hb:=Zx hg0;have w:JI N 48 [Qa (l.getD i (0,[],[]))]=_:=RN N 48 [Qa (l.getD i (0,[],[]))] (by omega) (by omega) hN (by simp) (by rw[JL];omega);rw[JL]at w;unfold nV at hg;rw[hg0]at hg;have w':Sp.elem 48 (Qa (l.getD i (0,[],[])))=Xx (l.getD i (0,[],[])):=rfl;simp (disch:=omega) only[JD,hg,w,w',JW]
  .intro a k;simp (disch:=omega) only[JD]
  .rw[aO N t [(l.map Xx).flatten] ht h31 (by show 1<N;omega) (by show 1<=_;omega) (by rw[JL];omega),JL,xI (by omega),Js];rfl
def VH (t:Nat) (c:Bs):Bs×Int:=((KR t c).getD [],if(KR t c).isNone then 2 else 0)
def OU (s:St2):Bs×Int:=bif ZH s != 0 then([],ZH s)else VH 48 (Rz 160 s.1++Rz 161 s.2)
def Apk {s:St2} (h:ZH s=0):s.1.length<=16/\s.2.length<=16/\(∀ g∈s.1,LP g true=0)/\ ∀ g∈s.2,LP g true=0:=by
 unfold ZH at h;cases h1:s.1.isEmpty&&s.2.isEmpty with
 | true=>rw[h1]at h;cases h
 | false =>
  rw[h1,cond_false]at h;cases h2:(decide (16<s.1.length)||decide (16<s.2.length))with
  | true=>rw[h2]at h;cases h
  | false =>rw[h2,cond_false]at h;rw[Ff,Eo,Eo]at h2;have:=VO h;exact⟨by omega,by omega,λg hg=>this g (DJ _ hg),λg hg=>this g (DF _ hg)⟩
def AcS (N:Nat) (s:St2) (hN:1048578<N) (h1:Lh s.1) (h2:Lh s.2):WJ N s=some (OU s):=by
 unfold WJ OU;try simp only[clR]
 rw[kP N s hN h1 h2,Js,<- JX];refine KN λh0=> ?_;obtain⟨a1,a2,a3,a4⟩:=Apk (show ZH s=0 by simpa using h0);have e1:N9 N 160 s.1=_:=xM N 160 s.1 (by omega) (by omega) hN h1 a3 a1;have e2:N9 N 161 s.2=_:=xM N 161 s.2 (by omega) (by omega) hN h2 a4 a2;have e3:Kz N 48 [Rz 160 s.1,Rz 161 s.2]=_:=Vl N 48 [Rz 160 s.1,Rz 161 s.2] (by omega) (by omega) (by show 2<N;omega) (by show 2<=_;omega);rw[QG]at e3;rw[e1,Js,e2];simp only[Js];rw[e3];simp only[Js];unfold VH;cases KR 48 (Rz 160 s.1++Rz 161 s.2)<;>rfl
def Acr (N:Nat) (s:St2) (hN:1048578<N) (h1:Lh s.1) (h2:Lh s.2):OQ N s=some (OU s):=by
 unfold OQ OU;try simp only[clR]
 rw[iK N s hN h1 h2,Js,<- JX];refine KN λh0=> ?_;obtain⟨a1,a2,a3,a4⟩:=Apk (show ZH s=0 by simpa using h0);have l1:=AiI (t:=160) a3 a1;have l2:=AiI (t:=161) a4 a2;have e1:UD N 160 s.1=_:=AoZ N 160 s.1 (by omega) (by omega) hN h1 a3 a1;have e2:UD N 161 s.2=_:=AoZ N 161 s.2 (by omega) (by omega) hN h2 a4 a2;have e3:LU N 48 [Rz 160 s.1,Rz 161 s.2]=_:=aO N 48 [Rz 160 s.1,Rz 161 s.2] (by omega) (by omega) (by show 2<N;omega) (by show 2<=_;omega) (by rw[QG,Dp];omega);rw[QG]at e3;rw[e1,Js,e2];simp only[Js];rw[e3];simp only[Js];rfl
def flB (n:Int):Bs:=((RX 70 n).getD ([],0)).1
def inB (n:Int):Bs:=(NS 70 n).getD []
def flags_all (M:Nat): ∀ n:Fin 512,RX (M+70) (n.val:Int)=some (flB (n.val:Int),0)/\Wy (M+70) (n.val:Int)=some (flB (n.val:Int),0)/\(flB (n.val:Int)).length<=3 :=
 DC (by kernel_rfl)
def AuS (M:Nat): ∀ n:Fin 66,NS (M+70) ((n.val:Int) - 1)=some (inB ((n.val:Int) - 1))/\PL (M+70) ((n.val:Int) - 1)=some (inB ((n.val:Int) - 1))/\(inB ((n.val:Int) - 1)).length<=2 :=
 DC (by kernel_rfl)
def ZN (N:Nat) (n:Int) (hN:1048578<N) (h0:0<=n) (h1:n<512):RX N n=some (flB n,0)/\Wy N n=some (flB n,0)/\(flB n).length<=3:=by
 obtain⟨M,rfl⟩: ∃ M,N=M+70:=⟨N - 70,by omega⟩
 have:=flags_all M ⟨n.toNat,by omega⟩;rw[show((⟨n.toNat,by omega⟩:Fin 512).val:Int)=n from Je h0]at this;exact this
def UK (N:Nat) (n:Int) (hN:1048578<N) (h:spI n=true):NS N n=some (inB n)/\PL N n=some (inB n)/\(inB n).length<=2:=by
 obtain⟨M,rfl⟩: ∃ M,N=M+70:=⟨N - 70,by omega⟩
 obtain⟨h0,h1⟩:=At9 h;have:=AuS M ⟨(n+1).toNat,by omega⟩;rw[show((⟨(n+1).toNat,by omega⟩:Fin 66).val:Int) - 1=n from by show((n+1).toNat:Int) - 1=n;omega]at this;exact this
section
variable (N:Nat) (hN:1048578<N)
include hN
omit hN in
theorem AlW (k:Int×Bs×Bs):PO N k=KW N k:=rfl
def vC (k:Int×Bs×Bs):Int:=bif decide (k.1<0)||decide (k.1>8)||((k.2.1.length:Int) != 16)||((k.2.2.length:Int) != 16)then 18 else 0
omit hN in
theorem lW (k:Int×Bs×Bs):KW N k=some (vC k):=by
 unfold KW vC;try simp only[clR]
 generalize decide (k.1<0)=a;generalize decide (k.1>8)=b;generalize ((k.2.1.length:Int) != 16)=c;generalize ((k.2.2.length:Int) != 16)=d;cases a<;>cases b<;>cases c<;>cases d<;>rfl
omit hN in
theorem AwU {k:Int×Bs×Bs} (h:vC k=0):0<=k.1/\k.1<=8/\k.2.1.length=16/\k.2.2.length=16:=by
 unfold vC at h;cases hb:(decide (k.1<0)||decide (k.1>8)||((k.2.1.length:Int) != 16)||((k.2.2.length:Int) != 16))with
 | true=>rw[hb]at h;cases h
 | false =>simp only[Ff,Eo,bne_eq_false_iff_eq]at hb;omega
def mZ:Bs:=(NK 300).getD []
def AvS (M:Nat):Bool:=NK (M+300)==some mZ&&SE (M+300)==some mZ
omit hN in
theorem Aw1 (M:Nat):AvS M=true:=by kernel_rfl
omit hN in
theorem Aul (M:Nat):NK (M+300)=some mZ/\SE (M+300)=some mZ:=by have h:=Aw1 M;unfold AvS at h;rw[Dw,F8,F8]at h;exact h
omit hN in
theorem Aum:mZ.length<=40:=by decide +kernel
theorem Ao7:NK N=some mZ/\SE N=some mZ:=by
 obtain⟨M,rfl⟩: ∃ M,N=M+300:=⟨N - 300,by omega⟩
 exact Aul M
def o6 (k:Int×Bs×Bs):Bs:=([Vm.byteOf (u8.wrap k.1)]++k.2.1)++k.2.2
def AlV (k:Int×Bs×Bs):Bs:=Sp.elem 48 (mZ++Sp.elem 3 ([0]++o6 k))
theorem Ahq {k:Int×Bs×Bs} (h:vC k=0):TR N k=some (AlV k,0)/\V5 N k=some (AlV k,0)/\(AlV k).length<=200:=by
 obtain⟨_,_,k1,k2⟩:=AwU h;have hb:List.all ([u8.wrap k.1]:List Int) isByte=true:=by rw[List.all_cons,OZ];rfl
 have hz:List.all ([u8.wrap 0]:List Int) isByte=true:=by rw[List.all_cons,OZ];rfl
 have hl:(o6 k).length=33:=by unfold o6;rw[Dp,Dp,k1,k2];rfl
 have ha:=Aum;have h3:=Sp.JS 3 ([0]++o6 k);have hc:([0]++o6 k:Bs).length=34:=by rw[Dp,hl];rfl
 have h4:(mZ++Sp.elem 3 ([0]++o6 k)).length<=100:=by rw[Dp];omega
 have c1:(List.map Vm.byteOf [u8.wrap k.1]).length+k.2.1.length<=140737488355328:=by rw[k1];show 1+16<=_;decide
 have c2:(List.map Vm.byteOf [u8.wrap k.1]++k.2.1).length+k.2.2.length<=140737488355328:=by rw[Dp,k1,k2];show 1+16+16<=_;decide
 have m1:List.map Vm.byteOf [u8.wrap k.1]=[Vm.byteOf (u8.wrap k.1)]:=rfl;refine⟨?_,?_,?_⟩
 .unfold TR;rw[lW,Js,h,show((0:Int) != 0)=false from rfl,cond_false];unfold Y2;try simp -zeta only[Ap]
  rw[hb,Ju,Dk c1,Ju,Dk c2,Ju,Js]
  have hp:VQ N (o6 k) 0=some ([0]++o6 k,0):=by
   unfold VQ YF;try simp -zeta only[Ap]
   rw[show((0:Int)==0)=true from rfl,cond_true,Js,show decide ((0:Int)<0)=false from rfl,show decide ((0:Int)>7)=false from rfl];simp only[EC,ED,EP,DZ,Ju,cond_false,cond_true,hz];rw[Dk (by rw[hl];decide),Ju];rfl
  refine(congrArg (λo=>Jq o _) hp).trans ?_;rw[Js];dsimp only;rw[show((0:Int) != 0)=false from rfl,cond_false,show(3:Int)=((3:Nat):Int)from rfl,ZI N 3 _ (by omega) (by omega) hN (by simp) (by rw[JL];omega),Js,JL];dsimp only;rw[show((0:Int) != 0)=false from rfl,cond_false,(Ao7 N hN).1,Js,show(48:Int)=((48:Nat):Int)from rfl,ZI N 48 _ (by omega) (by omega) hN (by simp) (by rw[QG];omega),Js,QG];rfl
 .unfold V5;try simp -zeta only[Ap]
  rw[AlW,lW,Js,h,show((0:Int) != 0)=false from rfl,cond_false,(Ao7 N hN).2,Js];unfold Ab1 Q8;try simp -zeta only[Ap]
  rw[hb,Ju,Js,Dk c1,Ju,Dk c2,Ju,Js];rw[m1];have e:([Vm.byteOf (u8.wrap k.1)]++k.2.1)++k.2.2=o6 k:=rfl;rw[e,Dk (by rw[hl];decide),Ju,show(3:Int)=((3:Nat):Int)from rfl,RN N 3 _ (by omega) (by omega) hN (by simp) (by rw[JL];omega),Js,JL];rw[show(48:Int)=((48:Nat):Int)from rfl,RN N 48 _ (by omega) (by omega) hN (by simp) (by rw[QG];omega),Js,QG];rfl
 .have:=Sp.JS 48 (mZ++Sp.elem 3 ([0]++o6 k));unfold AlV;omega
omit hN in
theorem Axf (v:Int) (h1: -9223372036854775808<=v) (h2:v<=9223372036854775807):(Sp.U1 v).length<=8:=by obtain⟨k,hk7,hf,hm⟩:=Sp.Afp v 7 (Sp.Awc v h1 h2);rw[Sp.xP v k hk7 hf hm,Sp.dG];omega
def Amk (v:Int):Bs:=Sp.elem 2 (Sp.U1 v)
theorem Ahx (v:Int) (h1: -9223372036854775808<=v:=by omega) (h2:v<=9223372036854775807:=by omega):(∀ b,ND N b v=some (Amk v,b))/\LW N 2 v=some (Amk v)/\(Amk v).length<=13:=by
 have hl:=Axf v h1 h2;refine⟨λb=> ?_,?_,?_⟩
 .unfold ND;rw[AaY N v (by omega) h1 h2,Js,show(2:Int)=((2:Nat):Int)from rfl,WX N 2 b _ (by omega) (by omega) hN (by simp) (by rw[JL];omega),Js,JL];rfl
 .unfold LW;rw[AcQ N v (by omega),Js,show(2:Int)=((2:Nat):Int)from rfl,RN N 2 _ (by omega) (by omega) hN (by simp) (by rw[JL];omega),Js,JL];rfl
 .have:=Sp.JS 2 (Sp.U1 v);unfold Amk;omega
end
def zE:Ex:=([],false,[])
def Ack (k:Bs) (x:Ex):Bool:=x.1==k
section
variable (N:Nat) (hN:1048578<N)
include hN
def exI (l:List Ex) (i:Nat):Int:=bif !LZ (l.getD i zE).1 then 11 else bif (l.take i).any (Ack (l.getD i zE).1)then 10 else Sp.chk (l.getD i zE).2.2
def Yt (l:List Ex):Int:=bif l.isEmpty then 7 else bif decide (24<l.length)then 2 else Kw (exI l) (List.range l.length)
theorem Aio (l:List Ex) (hs: ∀ x∈l,Uc x): ∀(r s:List Ex),s++r=l->Us N s r=some (Kw (exI l) (List.range' s.length r.length))
 | [],_,_=>rfl
 | x::r,s,e=>by
  have hx:=hs x (by rw[<- e];simp);have h2:x.2.2.length<=1048576:=hx.2;have ih:=Aio l hs r (s++[x]) (by rw[<- e];simp);rw[Dp,show s.length+ [x].length=s.length+1 from rfl]at ih;have e1:exI l s.length=bif !LZ x.1 then 11 else bif s.any (Ack x.1)then 10 else Sp.chk x.2.2:=by unfold exI;rw[<- e];simp
  rw[Us,VP N _ hN hx.1,Js,AbH N _ (by omega) (by omega) (by omega),Js,ih,show(x::r).length=r.length+1 from rfl,List.range'_succ,PS,e1,show(λy:Ex=>y.1==x.1)=Ack x.1 from rfl];cases LZ x.1 with
  | false=>rfl
  | true =>
   cases s.any (Ack x.1)with
   | true=>rfl
   | false =>show(bif Sp.chk x.2.2 != 0 then some (Sp.chk x.2.2)else _)=some (bif Sp.chk x.2.2 != 0 then Sp.chk x.2.2 else _);cases Sp.chk x.2.2 != 0<;>rfl
theorem Alu (l:List Ex) (hs: ∀ x∈l,Uc x):VF N l=some (Yt l):=by
 unfold VF Yt;cases l.isEmpty with
 | true=>rfl
 | false =>
  rw[cond_false,cond_false];cases decide (24<l.length)with
  | true=>rfl
  | false =>rw[cond_false,cond_false,show(l.all λx=>decide (x.1.length<=1048576))=true from DI.2 λx hx=>Dk (hs x hx).1,cond_true,Aio N hN l hs l [] rfl,IY];rfl
theorem AkF (l:List Ex) (hs: ∀ x∈l,Uc x):Qs N l=some (Yt l):=by
 unfold Qs Yt;rw[len0];cases l.isEmpty with
 | true=>rfl
 | false =>
  rw[cond_false,cond_false,show decide ((l.length:Int)>24)=decide (24<l.length)from Nb _ 24];by_cases h24:24<l.length
  .rw[Dk h24];rfl
  rw[Dq h24,cond_false,cond_false];unfold YN;try simp -zeta only[Ap]
  refine(congrArg (λo=>Jq o λr10=>some r10) ((Ut (mk:=λi=>(i:Int)) l.length (exI l) (λe=>some e) (some 0) ?_ ?_ N).trans (first_some _))).trans rfl
  .intro i hi k;dsimp only;have hx:=hs _ (getD_mem zE hi);rw[Dk,cond_true,Dk (show(0:Int)<=(i:Int) by omega),Ju,Ju,Int.toNat_natCast,w64];show Jq (LM N (l.getD i zE).1) _=_;rw[WY N _ hN hx.1,Js];unfold exI;cases LZ (l.getD i zE).1 with
   | false=>rfl
   | true =>show chk (decide ((0:Int)<=(i:Int))) (chk (decide ((i:Int)<=(l.length:Int))) (Jq (WC N (J4 l 0 i) (l.getD i zE).1) _))=_;rw[Dk,Ju,Dk,Ju,VD];obtain⟨r,hr⟩:=Ao4 N (l.take i) (l.getD i zE).1 (by rw[D9];omega) (by rw[D9];omega);rw[hr,Js];show(bif (l.take i).any (Ack (l.getD i zE).1)then some 10 else Jq (Vg N (l.getD i zE).2.2) _)=_;have h2:(l.getD i zE).2.2.length<=1048576:=hx.2;all_goals grind[rM,Js,Ack,zE]
  .intro k;dsimp only;rw[A0f];rfl
def vS (x:Ex) (v:Bs):Bs:=Sp.elem 6 (Nj x.1)++((bif x.2.1 then Sp.elem 1 [255]else [])++v)
def RI (x:Ex):Option Bs:=(KR 4 x.2.2).bind λv=>KR 48 (vS x v)
theorem Alp (x:Ex) (hs:Uc x) (h:LZ x.1=true): ∃ e,UO N x=some ((RI x).getD [],e)/\(e != 0)=(RI x).isNone:=by
 obtain⟨hc,hl⟩:=XT h;have h0:(Nj x.1).length<=131072:=by omega
 have hE:SC N x.1=some (Nj x.1,0):=by rw[dN N x.1 (by omega) hs.1,hc]
 unfold UO RI;try simp -zeta only[Ap]
 rw[hE,Js];dsimp only;rw[show((0:Int) != 0)=false from rfl,cond_false,show(6:Int)=((6:Nat):Int)from rfl,ZI N 6 _ (by omega) (by omega) hN (by simp) (by rw[JL];omega),Js,JL];dsimp only;rw[show((0:Int) != 0)=false from rfl,cond_false]
 have fin: ∀ c:Bs,(c=bif x.2.1 then Sp.elem 1 [255]else [])-> ∃ e,(Jq (Kz N 4 [x.2.2]) λr46=>chk (decide ((2:Int)<(([Sp.elem 6 (Nj x.1),c,[]]:List Bs).length:Int)))<|chk (decide (2<([Sp.elem 6 (Nj x.1),c,[]]:List Bs).length)) <|
  bif (r46.2 != (0:Int))then(some (([]:Bs),r46.2))else(Jq (Kz N 48 (([Sp.elem 6 (Nj x.1),c,[]]:List Bs).set 2 r46.1)) λr54=>some (r54.1,r54.2)))=some (((KR 4 x.2.2).bind λv=>KR 48 (vS x v)).getD [],e)/\(e != 0)=((KR 4 x.2.2).bind λv=>KR 48 (vS x v)).isNone:=by
  intro c hc;rw[show(4:Int)=((4:Nat):Int)from rfl,Vl N 4 _ (by omega) (by omega) (by simp;omega) (by simp),Js,JL];rw[show decide ((2:Int)<(([Sp.elem 6 (Nj x.1),c,[]]:List Bs).length:Int))=true from rfl,Ju,show decide (2<([Sp.elem 6 (Nj x.1),c,[]]:List Bs).length)=true from rfl,Ju];cases hw:KR 4 x.2.2 with
  | none=>exact⟨6,rfl,rfl⟩
  | some v =>dsimp only;show ∃ e,(Jq (Kz N 48 [Sp.elem 6 (Nj x.1),c,v]) λr54=>some (r54.1,r54.2))=some ((KR 48 (vS x v)).getD [],e)/\_;rw[show(48:Int)=((48:Nat):Int)from rfl,Vl N 48 _ (by omega) (by omega) (by simp;omega) (by simp),Js,flat3,hc];refine⟨_,rfl,?_⟩;all_goals grind[KR,vS]
 cases hb:x.2.1 with
 | true =>rw[OW,cond_true];have hp:V3 N true=some [255]:=rfl;rw[hp,Js,show(1:Int)=((1:Nat):Int)from rfl,ZI N 1 _ (by omega) (by omega) hN (by simp) (by rw[JL];decide),Js,JL];dsimp only;rw[show((0:Int) != 0)=false from rfl,cond_false];exact fin (Sp.elem 1 [255]) (by rw[hb];rfl)
 | false =>rw[OW,cond_false];exact fin [] (by rw[hb];rfl)
def Tv (l:List Ex):Bs×Int:=bif Yt l != 0 then([],Yt l)else bif l.any (λx=>(RI x).isNone)then([],2)else VH 48 (l.map λx=>(RI x).getD []).flatten
omit hN in
theorem AoO {l:List Ex} (h:Yt l=0):l≠ []/\l.length<=24/\ ∀ x∈l,LZ x.1=true:=by
 unfold Yt at h;cases he:l.isEmpty with
 | true=>rw[he]at h;cases h
 | false =>
  rw[he,cond_false]at h;by_cases h24:24<l.length
  .simp_all[Ex,Yt,LZ]
  .rw[Dq h24,cond_false]at h;refine⟨(λe=>by rw[e]at he;cases he),by omega,λx hx=> ?_⟩;obtain⟨i,hi,rfl⟩:=FP.1 hx;have h1:=VO h i (Gy.2 hi);all_goals grind[exI,getD_lt,zE,hi,LZ]
omit hN in
theorem Avi (x:Ex):((RI x).getD []).length<=131077:=by grind[RI,KR,dB]
omit hN in
theorem As9 (l:List Ex):Kw (λx=>bif (RI x).isNone then(2:Int)else 0) l=bif l.any (λx=>(RI x).isNone)then 2 else 0:=by
 induction l with
 | nil=>rfl
 | cons x r ih=>grind[PS,RI]
theorem Ajj (l:List Ex) (hs: ∀ x∈l,Uc x):fK N l=some (Tv l):=by
 unfold fK Tv;try simp -zeta only[Ap]
 rw[Alu N hN l hs,Js];by_cases h0:Yt l=0
 .obtain⟨h1,h2,h3⟩:=AoO h0;rw[h0,show((0:Int) != 0)=false from rfl,cond_false,cond_false];refine(Al9 (mk:=λi acc=>((i:Int),acc)) l zE (λx=>bif (RI x).isNone then(2:Int)else 0) (λx=>(RI x).getD []) (λ_=>some ([],2)) (λls=>some (VH 48 ls.flatten)) ?_ ?_ N (by omega)).trans ?_
  .intro i acc hi ha k;dsimp only[U2];have hm:=getD_mem zE hi;rw[Dk,cond_true,Dk (show(0:Int)<=(i:Int) by omega),Ju,Ju,Int.toNat_natCast];obtain⟨e,he,hn⟩:=Alp N hN (l.getD i zE) (hs _ hm) (h3 _ hm);show Jq (UO N (l.getD i zE)) _=_;rw[he,Js];dsimp only;rw[hn,Dk,Ju,w64];cases (RI (l.getD i zE)).isNone<;>rfl
  .intro acc k ha;dsimp only[U2];rw[A0f,cond_false,show(48:Int)=((48:Nat):Int)from rfl,Vl N 48 _ (by omega) (by omega),Js];unfold VH;cases KR 48 acc.flatten<;>rfl
  .rw[As9];cases l.any (λx=>(RI x).isNone)<;>rfl
 .rw[show(Yt l != 0)=true from EM.2 h0];rfl
theorem AiX (l:List Ex) (hs: ∀ x∈l,Uc x):PU N l=some (Tv l):=by
 unfold PU Tv;try simp -zeta only[Ap]
 rw[AkF N hN l hs,Js];by_cases h0:Yt l=0
 .obtain⟨h1,h2,h3⟩:=AoO h0;rw[h0,show((0:Int) != 0)=false from rfl,cond_false,cond_false];have hfl:(l.map λx=>(RI x).getD []).flatten.length<=131077*l.length:=Lp λx _=>Avi x;refine(tK (mk:=λi t=>(t,(i:Int))) l zE (λx=>bif (RI x).isNone then(2:Int)else 0) (λx=>(RI x).getD []) (λ_=>some ([],2)) (λt=>Jq (LU N 48 [t]) λr57=>some (r57.1,r57.2)) ?_ ?_ N).trans ?_
  .intro i t hi ht k;dsimp only[U2];have hm:=getD_mem zE hi;have hx:=hs _ hm;have hv:=h3 _ hm;rw[Dk,cond_true,Dk (show(0:Int)<=(i:Int) by omega),Ju,Ju,Int.toNat_natCast];have e:l.getD i ([],false,[])=l.getD i zE:=rfl;rw[e];generalize l.getD i zE=x at hx hv ht ⊢;obtain⟨hc,hl⟩:=XT hv;have h22:x.2.2.length<=1048576:=hx.2
   have fin: ∀ c:Bs,(c=bif x.2.1 then Sp.elem 1 [255]else [])->(Jq (LU N 4 ([x.2.2]:List Bs)) λr32 =>
    bif (r32.2 != (0:Int))then(some (([]:Bs),r32.2))
    else(Jq (Qe N x.1) λr41 =>
    Jq (LU N 48 ([r41,c,r32.1]:List Bs)) λr45 =>
    bif (r45.2 != (0:Int))then(some (([]:Bs),r45.2))
    else(chk (decide (t.length+r45.1.length<=140737488355328)) <|
    k (t++r45.1,i64.wrap ((i:Int)+(1:Int))))))=bif (bif (RI x).isNone then(2:Int)else 0) != 0 then some ([],2)else k (t++(RI x).getD [],((i+1:Nat):Int)):=by
    intro c hc';have hcl:c.length<=10:=by rw[hc'];cases x.2.1<;>decide
    rw[show(4:Int)=((4:Nat):Int)from rfl,aO N 4 _ (by omega) (by omega) (by simp;omega) (by simp) (by rw[JL];omega),Js,JL];unfold RI at ht ⊢;cases hw:KR 4 x.2.2 with
    | none=>rfl
    | some v =>
     have hvl:v.length<=131077:=by have:=dB (t:=4) (c:=x.2.2);rw[hw]at this;exact this
     dsimp only;rw[hw]at ht;have h6:=Sp.JS 6 (Nj x.1);rw[show((if(some v).isNone=true then(2:Int)else 0) != 0)=false from rfl,cond_false,show(some v).getD ([]:Bs)=v from rfl];rw[WE N x.1 hN hx.1 hv,Js,show(48:Int)=((48:Nat):Int)from rfl,aO N 48 _ (by omega) (by omega) (by simp;omega) (by simp) (by rw[flat3,Dp,Dp];omega),Js,flat3,hc'];have ho:(some v).bind (λv=>KR 48 (vS x v))=KR 48 (vS x v):=rfl;rw[ho]at ht ⊢;rw[show Sp.elem 6 (Nj x.1)++((bif x.2.1 then Sp.elem 1 [255]else [])++v)=vS x v from rfl];dsimp only;generalize KR 48 (vS x v)=o at ht ⊢;cases o with
     | none=>rfl
     | some z =>have ht':t.length+z.length<=131077*l.length:=GK ht hfl;show chk (decide (t.length+z.length<=140737488355328)) (k (t++z,_))=k (t++z,_);rw[Dk,Ju,w64];rfl
   rw[OW];cases hb:x.2.1 with
   | true =>rw[cond_true];have hp:UA N true=some [255]:=rfl;rw[hp,Js,show(1:Int)=((1:Nat):Int)from rfl,RN N 1 _ (by omega) (by omega) hN (by simp) (by rw[JL];decide),Js,JL];exact fin _ (by rw[hb];rfl)
   | false =>rw[cond_false];exact fin _ (by rw[hb];rfl)
  .intro t k;dsimp only[U2];rw[A0f,cond_false]
  .rw[As9];cases l.any (λx=>(RI x).isNone)with
   | true=>rfl
   | false =>show(Jq (LU N 48 [_]) λr57=>some (r57.1,r57.2))=some (VH 48 _);rw[show(48:Int)=((48:Nat):Int)from rfl,aO N 48 _ (by omega) (by omega) (by simp;omega) (by simp) (by rw[JL];omega),Js,JL];rfl
 .rw[show(Yt l != 0)=true from EM.2 h0];rfl
end
def AwX {r:Int} (h0: -9223372036854775808<=r) (h1:r<=9223372036854775807) (h:J9 .andNot .i64 r 510=0):0<=r/\r<512:=by
 have e:J9 .andNot .i64 r 510=i64.wrap ((BitVec.ofInt 64 r &&& ~~~(510#64)).toNat:Int):=rfl;rw[e]at h;generalize hb:BitVec.ofInt 64 r=b at h
 have hz:(b &&& ~~~(510#64)).toNat=0:=by
  have hlt:=(b &&& ~~~(510#64)).isLt;generalize (b &&& ~~~(510#64)).toNat=n at h hlt;have e2:i64.wrap (n:Int)=if 9223372036854775808<=(n:Int) % 18446744073709551616 then(n:Int) % 18446744073709551616 - 18446744073709551616 else(n:Int) % 18446744073709551616:=by show(if(true&&decide ((n:Int) % 18446744073709551616>=9223372036854775808))=true then _ else _)=_;all_goals grind[J9]
  rw[e2]at h;split at h<;>omega
 have hz2:b &&& ~~~(510#64)=0#64:=BitVec.eq_of_toNat_eq (by rw[hz];rfl)
 have hle:b.toNat<=510:=by
  have:b=b &&& 510#64:=by
   apply BitVec.eq_of_getLsbD_eq;intro i hi;have hq:(b &&& ~~~(510#64)).getLsbD i=false:=by rw[hz2];simp
   rw[Jn,BitVec.getLsbD_not]at hq;rw[Jn];have hd:decide (i<64)=true:=Dk hi;all_goals simp_all[hd,J9]
  rw[this,BitVec.toNat_and];exact Nat.and_le_right
 have hn:(b.toNat:Int)=r % 18446744073709551616:=by rw[<- hb,BitVec.toNat_ofInt];all_goals grind[J9]
 omega
def pnB (l:List Gn):Bs:=bif l.isEmpty then []else Sp.elem 160 (Sp.elem 160 (Np l))
def pfB (t:Nat) (r:Int):Bs:=bif r==0 then []else Sp.elem t (flB r)
def piB (b:Bool) (n:List (List Att)):Bs:=bif b then Sp.elem 162 (Qa (4,[],n))else []
def Ro (p:Pt):Bs:=Sp.elem 48 (pnB p.1++(pfB 129 p.2.1++piB p.2.2.1 p.2.2.2))
structure Apt (p:Pt):Prop where
 n16:p.1.length<=16
 ns:Kw (λg=>LP g false) p.1=0
 r:0<=p.2.1/\p.2.1<512
 i:p.2.2.1=true->Og p.2.2.2=0/\p.2.2.2≠ []
 ne:p.1=[]->p.2.2.1=true
 nb:p.2.2.1=false->p.2.2.2=[]
def Ayl {p:Pt} (hs:Qw p) (h:ptI p=0):Apt p:=by
 obtain⟨g,r,b,n⟩:=p;obtain⟨_,_,hr0,hr1⟩:=hs;unfold ptI at h;dsimp only at h hr0 hr1;cases h1:(g.isEmpty&& !b)||(!n.isEmpty&& !b)with
 | true=>rw[h1]at h;cases h
 | false =>
  rw[h1,cond_false]at h;cases h2:J9 .andNot .i64 r 510 != 0 with
  | true=>rw[h2]at h;cases h
  | false =>
   rw[h2,cond_false]at h;cases h3:decide (16<g.length)with
   | true=>rw[h3]at h;cases h
   | false =>
    rw[h3,cond_false]at h;cases h4:Py g false != 0 with
    | true=>rw[h4,cond_true]at h;rw[h]at h4;cases h4
    | false =>
     rw[h4,cond_false]at h;have:=E8 h3;refine⟨by dsimp only;omega,by simpa [Py]using h4,AwX hr0 hr1 (by simpa using h2),?_,?_,?_⟩
     .intro hb;dsimp only at hb ⊢;subst hb;rw[ED,cond_false]at h;cases h5:n.isEmpty with
      | true=>rw[h5]at h;cases h
      | false =>rw[h5,cond_false]at h;exact⟨h,by intro hn;subst hn;cases h5⟩
     .intro hg;dsimp only at hg ⊢;subst hg;cases b with
      | true=>rfl
      | false=>cases h1
     .intro hb;dsimp only at hb ⊢;subst hb;cases n with
      | nil=>rfl
      | cons x y=>simp at h1
def Ah2 {p:Pt} (h:Apt p):(pnB p.1).length<=71978/\(Np p.1).length<=71968:=by have h1:=bJ h.ns h.n16;all_goals grind[Sp.JS,Np,pnB]
theorem iD {r:Int} (h:0<=r/\r<512):(flB r).length<=3:=(ZN 1048579 r (by omega) h.1 h.2).2.2
def Axd {t:Nat} {r:Int} (h:0<=r/\r<512):(pfB t r).length<=8:=by grind[iD,Sp.JS,flB,pfB]
theorem Alk {n:List (List Att)} (h:Og n=0):LP (4,[],n) false=0:=by simp_all[LP,TJ,Att,Og]
def Ah1 {b:Bool} {n:List (List Att)} (h:b=true->Og n=0/\n≠ []):(piB b n).length<=4503/\(b=true->(Qa (4,[],n)).length<=4498):=by grind[piB,Zx,Alk,Sp.JS,Qa]
def gB {p:Pt} (h:Apt p):(Ro p).length<=76494/\(pnB p.1++(pfB 129 p.2.1++piB p.2.2.1 p.2.2.2)).length<=76489:=by have h1:=(Ah2 h).1;have h2:=Axd (t:=129) h.r;have h3:=(Ah1 h.i).1;all_goals grind[Sp.JS,pnB,pfB,piB,Ro]
def Apa {l:List Pt} (hs: ∀ p∈l,Qw p) (h:RJ l=0):l.length<=4/\ ∀ p∈l,Apt p:=by
 unfold RJ at h;cases h1:decide (4<l.length)with
 | true=>rw[h1]at h;cases h
 | false =>rw[h1,cond_false]at h;have:=E8 h1;exact⟨by omega,λp hp=>Ayl (hs p hp) (VO h p hp)⟩
def KP (l:List Pt):Bs×Int:=bif l.isEmpty then([],7)else bif RJ l != 0 then([],RJ l)else VH 48 (l.map Ro).flatten
def jV {l:List Gn} (h0:l≠ []) (h16:l.length<=16) (h:Kw (λg=>LP g false) l=0):Acd l=(Np l,0):=by unfold Acd Py;rw[show l.isEmpty=false by cases l with | nil=>exact absurd rfl h0 | cons _ _=>rfl,cond_false,A0f,cond_false,h];rfl
def Afe {n:List (List Att)} (h:MG n):kN (4,[],n):=⟨Eb _,h⟩
def WN (N:Nat) (l:List Pt) (hN:1048578<N) (hs: ∀ p∈l,Qw p):OC N l=some (KP l):=by
 unfold OC KP;try simp only[clR]
 rw[len0,SX N l hN hs];cases he:l.isEmpty with
 | true=>rfl
 | false =>
  rw[cond_false,cond_false,Js,<- JX];show(bif RJ l != 0 then some ([],RJ l)else _)=bif RJ l != 0 then _ else _;refine KN λh0=> ?_;obtain⟨h4,hok⟩:=Apa hs (by simpa using h0);refine(Tf (mk:=λi a=>((i:Int),false,a)) l ([],0,false,[]) Ro (λa=>Jq (JR N false a) λr88=>Jq (MC N r88.snd) λr90=>bif r90.fst then some ([],2)else some (r88.fst,0)) ?_ ?_ N).trans ?_
  .intro i a hi ha k;have hsm:=hs _ (getD_mem ([],0,false,[]) hi);have hp:=hok _ (getD_mem ([],0,false,[]) hi);dsimp only[U3];rw[Int.toNat_natCast];generalize l.getD i ([],0,false,[])=p at *
   obtain⟨g,r,b,n⟩:=p;have l1:=Ah2 hp;have l2:=iD hp.r;have l3:=Ah1 hp.i;have l4:=gB hp;dsimp only at l1 l2 l3 l4;have hl160:=Sp.JS 160 (Np g);have e1: ∀ K:Bool×Bs->Option (Bs×Int),True:=λ_=>trivial;have hseq:JR N false [pnB g,pfB 129 r,piB b n]=some (Ro (g,r,b,n),false):=by unfold JR;have w:JA N false 48 [pnB g,pfB 129 r,piB b n]=_:=WX N 48 false [pnB g,pfB 129 r,piB b n] (by omega) (by omega) hN (by simp) (by rw[flat3];omega);rw[w,Js,flat3];rfl
   have fin: ∀(x:Bool×List Bs×List Bs),x=(false,[pnB g,pfB 129 r,piB b n],a)->U3 (λb38144_0d l39936d l1012288d=>Jq (JR N b38144_0d l39936d) λr82=>Vm.chk (decide ((l1012288d.length+1)*17<=140737488355328)) (k (i64.wrap ((i:Int)+1),r82.snd,l1012288d++[r82.fst]))) x=k (((i+1:Nat):Int),false,a++[Ro (g,r,b,n)]):=by intro x hx;subst hx;dsimp only[U3];rw[hseq,Js];simp (disch:=omega) only[JD,JW]
   have gen:Qb N (4,[],n) false=some (nV (4,[],n) false):=Yy N (4,[],n) false hN (Afe hsm.2.1);rw[Vx (show(i:Int)<(l.length:Int) by omega),cond_true,Sv,Ju,Ju];simp only[Ld]
   have step1: ∀(J:List Gn×Int×Bool×List (List Att)×Bool×List Bs×List Bs->Option (Bs×Int)),(bif decide (((g.length:Nat):Int)>0)then Jq (PH N g) λr39=>Jq (Kq N false r39.fst r39.snd) λr42=>Jq (JA N r42.snd 160 [r42.fst]) λr44=>Jq (JA N r44.snd 160 [r44.fst]) λr46=>J (g,r,b,n,r46.snd,[r46.fst,[],[]],a)else J (g,r,b,n,false,[[],[],[]],a))=J (g,r,b,n,false,[pnB g,[],[]],a):=by
    intro J;rw[Y3];unfold pnB;cases hg:g.isEmpty with
    | true=>rfl
    | false =>
     have hg0:g≠ []:=by intro h;subst h;cases hg
     have w1:JA N false 160 [Np g]=_:=WX N 160 false [Np g] (by omega) (by omega) hN (by simp) (by rw[JL];omega);have w2:JA N false 160 [Sp.elem 160 (Np g)]=_:=WX N 160 false [Sp.elem 160 (Np g)] (by omega) (by omega) hN (by simp) (by rw[JL];omega);rw[JL]at w1 w2;rw[EC,cond_true,cond_false,YX N g hN hsm.1,jV hg0 hp.n16 hp.ns,Js,TD,Js];show Jq (JA N false 160 [Np g]) _=_;rw[w1,Js];show Jq (JA N false 160 [Sp.elem 160 (Np g)]) _=_;rw[w2,Js]
   refine(step1 _).trans ?_;dsimp only[U7]
   have last: ∀ x:Bs,x=pfB 129 r->(bif b then Jq (Qb N (4,[],n) false) λr72=>Jq (Kq N false r72.fst r72.snd) λr75=>Jq (JA N r75.snd 162 [r75.fst]) λr77=>Vm.chk (decide (2<(([pnB g,x,[]]:List Bs).length:Int))) (Vm.chk (decide (2<([pnB g,x,[]]:List Bs).length)) (U3 (λb38144_0d l39936d l1012288d=>Jq (JR N b38144_0d l39936d) λr82=>Vm.chk (decide ((l1012288d.length+1)*17<=140737488355328)) (k (i64.wrap ((i:Int)+1),r82.snd,l1012288d++[r82.fst]))) (r77.snd,([pnB g,x,[]]:List Bs).set 2 r77.fst,a)))else U3 (λb38144_0d l39936d l1012288d=>Jq (JR N b38144_0d l39936d) λr82=>Vm.chk (decide ((l1012288d.length+1)*17<=140737488355328)) (k (i64.wrap ((i:Int)+1),r82.snd,l1012288d++[r82.fst]))) (false,[pnB g,x,[]],a))=k (((i+1:Nat):Int),false,a++[Ro (g,r,b,n)]):=by
    intro x hx;subst hx;cases hb:b with
    | false =>subst hb;rw[cond_false];exact fin _ rfl
    | true =>subst hb;have hn:=hp.i rfl;have l5:=l3.2 rfl;have w1:JA N false 162 [Qa (4,[],n)]=_:=WX N 162 false [Qa (4,[],n)] (by omega) (by omega) hN (by simp) (by rw[JL];omega);rw[JL]at w1;unfold nV at gen;rw[Alk hn.1]at gen;rw[cond_true,gen,Js,TD,Js];show Jq (JA N false 162 [Qa (4,[],n)]) _=_;rw[w1,Js];exact fin _ rfl
   by_cases hr:r=0
   .rw[iP hr,cond_false];refine last [] ?_;unfold pfB;rw[TJ hr];rfl
   .have w1:JA N false 129 [flB r]=_:=WX N 129 false [flB r] (by omega) (by omega) hN (by simp) (by rw[JL];omega);rw[JL]at w1;rw[VB hr,cond_true,(ZN N r hN hp.r.1 hp.r.2).1,Js,TD,Js];show Jq (JA N false 129 [flB r]) _=_;rw[w1,Js];refine last (Sp.elem 129 (flB r)) ?_;unfold pfB;rw[QX hr];rfl
  .intro a k ha;simp (disch:=omega) only[JD]
  .have hl:=Lp (g:=Ro) (M:=76494) (l:=l) (λp hp=>(gB (hok p hp)).1);rw[ArK N false _ (by rw[D5];omega) (by rw[D5];omega),Js];unfold VH MC;cases KR 48 (l.map Ro).flatten<;>rfl
def Al8 (N:Nat) (g:List Gn) (hN:1048578<N) (hs:Lh g) (h16:g.length<=16) (h:Kw (λg=>LP g false) g=0):SH N g=some (pnB g):=by
 have hl:=bJ h h16;have hl160:=Sp.JS 160 (Np g);unfold SH pnB;try simp only[clR]
 rw[len0];cases hg:g.isEmpty with
 | true=>rfl
 | false =>
  have hg0:g≠ []:=by intro h;subst h;cases hg
  have w1:JI N 160 [Np g]=_:=RN N 160 [Np g] (by omega) (by omega) hN (by simp) (by rw[JL];omega);have w2:JI N 160 [Sp.elem 160 (Np g)]=_:=RN N 160 [Sp.elem 160 (Np g)] (by omega) (by omega) hN (by simp) (by rw[JL];omega);rw[JL]at w1 w2;rw[cond_false,cond_false,dC N g hN hs,jV hg0 h16 h,Js];dsimp only;rw[w1,Js,w2,Js]
def Al4 (N t:Nat) (r:Int) (ht:t<256) (h31:t % 32≠31) (hN:1048578<N) (hr:0<=r/\r<512):QQ N (t:Int) r=some (pfB t r):=by
 have hl:=iD hr;unfold QQ pfB;try simp only[clR]
 by_cases h0:r=0
 .rw[TJ h0];rfl
 .have w1:=RN N t [flB r] ht h31 hN (by simp) (by rw[JL];omega);rw[JL]at w1;rw[QX h0,cond_false,cond_false,(ZN N r hN hr.1 hr.2).2.1,Js];dsimp only;rw[w1,Js]
def Alm (N:Nat) (n:List (List Att)) (hN:1048578<N) (hs:MG n) (h:Og n=0):V6 N n=some (Qa (4,[],n)):=by
 unfold V6;have hf:Kw (λg=>LP g false) [((4,[],n):Gn)]=0:=by rw[PS,Alk h];rfl
 rw[dC N [(4,[],n)] hN (λg hg=>by rw[Ec.1 hg];exact Afe hs),jV (by simp) (by simp) hf,Js];unfold Np;simp
def XX (N:Nat) (l:List Pt) (hN:1048578<N) (hs: ∀ p∈l,Qw p):MP N l=some (KP l):=by
 unfold MP KP;try simp only[clR]
 rw[len0,UE N l hN hs];cases he:l.isEmpty with
 | true=>rfl
 | false =>
  rw[cond_false,cond_false,Js,<- JX];show(bif RJ l != 0 then some ([],RJ l)else _)=bif RJ l != 0 then _ else _;refine KN λh0=> ?_;obtain⟨h4,hok⟩:=Apa hs (by simpa using h0);have hl:=Lp (g:=Ro) (M:=76494) (l:=l) (λp hp=>(gB (hok p hp)).1);refine(Zf (mk:=λi a=>(a,(i:Int))) l ([],0,false,[]) Ro (λa=>Jq (LU N 48 [a]) λr44=>some (r44.fst,r44.snd)) ?_ ?_ N).trans ?_
  .intro i a hi ha k;have hsm:=hs _ (getD_mem ([],0,false,[]) hi);have hp:=hok _ (getD_mem ([],0,false,[]) hi);dsimp only[U2];rw[Int.toNat_natCast];generalize l.getD i ([],0,false,[])=p at *
   obtain⟨g,r,b,n⟩:=p;have l1:=Ah2 hp;have l2:=iD hp.r;have l3:=Ah1 hp.i;have l4:=gB hp;dsimp only at l1 l2 l3 l4;have f1:=Al8 N g hN hsm.1 hp.n16 hp.ns;have f2:QQ N 129 r=_:=Al4 N 129 r (by omega) (by omega) hN hp.r;have w:JI N 48 [pnB g,pfB 129 r,piB b n]=_:=RN N 48 [pnB g,pfB 129 r,piB b n] (by omega) (by omega) hN (by simp) (by rw[flat3];omega);rw[flat3]at w;have fin: ∀ x:Bs,x=piB b n->U5 (λt8b b34560_0b b34560_1b b34560_2b b34560_3b=>Jq (SH N b34560_0b) λr33=>Jq (QQ N 129 b34560_1b) λr36=>Jq (JI N 48 [r33,r36,t8b]) λr39=>Vm.chk (decide (List.length a+List.length r39<=140737488355328)) (k (a++r39,i64.wrap ((i:Int)+1)))) (x,g,r,b,n)=k (a++Ro (g,r,b,n),((i+1:Nat):Int)):=by intro x hx;subst hx;dsimp only[U5];rw[f1,Js,f2,Js,w,Js];have hw:Sp.elem 48 (pnB g++(pfB 129 r++piB b n))=Ro (g,r,b,n):=rfl;simp (disch:=omega) only[JD,hw,JW]
   rw[Vx (show(i:Int)<(l.length:Int) by omega),cond_true,Sv,Ju,Ju];simp only[Ld];cases hb:b with
   | false =>subst hb;rw[cond_false];exact fin [] rfl
   | true =>subst hb;have hn:=hp.i rfl;have l5:=l3.2 rfl;have w1:JI N 162 [Qa (4,[],n)]=_:=RN N 162 [Qa (4,[],n)] (by omega) (by omega) hN (by simp) (by rw[JL];omega);rw[JL]at w1;rw[cond_true,Alm N n hN hsm.2.1 hn.1,Js,w1,Js];exact fin _ rfl
  .intro a k;simp (disch:=omega) only[JD]
  .have f:LU N 48 [(l.map Ro).flatten]=_:=aO N 48 [(l.map Ro).flatten] (by omega) (by omega) (by show 1<N;omega) (by show 1<=_;omega) (by rw[JL];omega);rw[f,Js,JL];rfl
structure Ax3 (pl us re im ia:Int) (pu po:List Bs) (ma:List (Bs×Bs)) (na:List Gn) (hc:Bool) (s:St2) (sk ak:Bs) (pt fr:List Pt):Prop where
 sp:spI pl=true/\spI re=true/\spI im=true/\spI ia=true
 us:0<=us/\us<512
 pu:pu.length<=8/\ ∀ s∈pu,LZ s=true
 po:po.length<=8/\ ∀ s∈po,LZ s=true
 ma:ma.length<=8/\ ∀ m∈ma,LZ m.1=true/\LZ m.2=true
 na:na.length<=16/\Kw (λg=>LP g false) na=0
 con:uD hc s=0
 sk:sk.length<=32
 ak:ak.length<=32
 pt:RJ pt=0
 fr:RJ fr=0
def Amg {α :Type} {l:List α} {x: α} (d: α) (h:x∈l): ∃ i,i<l.length/\l.getD i d=x:=by obtain⟨i,hi,he⟩:=FP.1 h;exact⟨i,hi,by rw[getD_lt l i d hi];exact he⟩
def AoT {l:List Bs} (h:o5 l 8=0):l.length<=8/\ ∀ s∈l,LZ s=true:=by
 unfold o5 at h;cases h1:decide ((l.length:Int)>8)with
 | true=>rw[h1]at h;cases h
 | false =>
  rw[h1,cond_false]at h;have:=E8 h1;refine⟨by omega,λs hs=> ?_⟩;obtain⟨i,hi,rfl⟩:=Amg [] hs;have hi0:=VO h i (Gy.2 hi);unfold idI at hi0;cases hv:LZ (l.getD i [])with
  | true=>rfl
  | false=>rw[hv]at hi0;cases hi0
def AwY {l:List (Bs×Bs)} (h:AaN l=0):l.length<=8/\ ∀ m∈l,LZ m.1=true/\LZ m.2=true:=by
 unfold AaN at h;cases h1:decide (8<l.length)with
 | true=>rw[h1]at h;cases h
 | false =>rw[h1,cond_false]at h;have:=E8 h1;refine⟨by omega,λs hs=> ?_⟩;obtain⟨i,hi,rfl⟩:=Amg ([],[]) hs;have hi0:=VO h i (Gy.2 hi);unfold mpI at hi0;cases hv:LZ (l.getD i ([],[])).1<;>cases hv2:LZ (l.getD i ([],[])).2<;>rw[hv,hv2]at hi0<;>first | exact⟨rfl,rfl⟩ | cases hi0
def AkW {b:Bool} {x y:Int} (h:(bif b then x else y)=0) (hx:x≠0):b=false/\y=0:=by
 cases b with
 | true=>exact absurd h hx
 | false=>exact⟨rfl,h⟩
def sW {e y:Int} (h:(bif e != 0 then e else y)=0):e=0/\y=0:=by
 by_cases he:e=0
 .subst he;exact⟨rfl,h⟩
 .rw[show(e != 0)=true from EM.2 he]at h;exact absurd h he
def AdU {hb ca:Bool} {pl us:Int} {pu po:List Bs} {ma:List (Bs×Bs)} {re im ia:Int} {na:List Gn} {hc:Bool} {pe ex:List Gn} {sk ak:Bs} {pt fr:List Pt} {un:List Ex} (h:Qp (hb,ca,pl,us,pu,po,ma,re,im,ia,na,hc,pe,ex,sk,ak,pt,fr,un)=0) :
 Ax3 pl us re im ia pu po ma na hc (pe,ex) sk ak pt fr/\(ca=true->hb=true)/\(pl≠ -1->ca=true)/\Ani un=0/\un.length+(uQ (hb,ca,pl,us,pu,po,ma,re,im,ia,na,hc,pe,ex,sk,ak,pt,fr,un)).count true<=24:=by
 unfold Qp at h;dsimp only at h;obtain⟨h1,h⟩:=AkW h (by decide);obtain⟨h2,h⟩:=AkW h (by decide);obtain⟨h3,h⟩:=sW h;obtain⟨h4,h⟩:=sW h;obtain⟨h5,h⟩:=sW h;obtain⟨h6,h⟩:=AkW h (by decide);obtain⟨h7,h⟩:=sW h;obtain⟨h8,h⟩:=sW h;obtain⟨h9,h⟩:=AkW h (by decide);obtain⟨h10,h⟩:=sW h;obtain⟨h11,h⟩:=sW h;obtain⟨h12,h⟩:=AkW h (by decide);simp only[Ff,Ic,Eo]at h2 h9 h6 h12;obtain⟨⟨⟨⟨⟨g1,g2⟩,g3⟩,g4⟩,g5⟩,g6⟩:=h2;refine⟨⟨⟨g1,g2,g3,g4⟩,by omega,AoT h3,AoT h4,AwY h5,⟨by omega,h7⟩,h8,by omega,by omega,h10,h11⟩,?_,?_,h,by omega⟩
 .intro hca;subst hca;cases hb with
  | true=>rfl
  | false=>cases h1
 .intro hpl;rw[show(pl != -1)=true from EM.2 hpl]at h1;cases ca with
  | true=>rfl
  | false=>simp at h1
def Lu (s:Bs):Bs:=Sp.elem 6 (Nj s)
def aT (ca:Bool) (pl:Int):Bs:=Sp.elem 48 ((bif ca then Sp.elem 1 [255]else [])++(bif pl != -1 then Sp.elem 2 (inB pl)else []))
def AdS (l:List Bs):Bs:=Sp.elem 48 (l.map Lu).flatten
def Aep (l:List Bs):Bs:=Sp.elem 48 (l.map λs=>Sp.elem 48 (Lu s)).flatten
def Aeh (l:List (Bs×Bs)):Bs:=Sp.elem 48 (l.map λm=>Sp.elem 48 (Lu m.1++Lu m.2)).flatten
def Aa5 (re im:Int):Bs:=Sp.elem 48 ((bif re != -1 then Sp.elem 128 (inB re)else [])++(bif im != -1 then Sp.elem 129 (inB im)else []))
def OT:Info->List (Bool×Bool×Ex)
 | (hb,ca,pl,us,pu,po,ma,re,im,ia,na,hc,pe,ex,sk,ak,pt,fr,_) =>
  [(hb,false,[50,46,53,46,50,57,46,49,57],true,aT ca pl),
   (us != 0,false,[50,46,53,46,50,57,46,49,53],true,Sp.elem 3 (flB us)),
   (decide (((pu.length:Nat):Int)>0),false,[50,46,53,46,50,57,46,51,55],false,AdS pu),
   (decide (((po.length:Nat):Int)>0),false,[50,46,53,46,50,57,46,51,50],false,Aep po),
   (decide (((ma.length:Nat):Int)>0),false,[50,46,53,46,50,57,46,51,51],true,Aeh ma),
   (re != -1||im != -1,false,[50,46,53,46,50,57,46,51,54],true,Aa5 re im),
   (ia != -1,false,[50,46,53,46,50,57,46,53,52],true,Sp.elem 2 (inB ia)),
   (decide (((na.length:Nat):Int)>0),false,[50,46,53,46,50,57,46,49,55],false,Sp.elem 48 (Np na)),
   (hc,(OU (pe,ex)).2 != 0,[50,46,53,46,50,57,46,51,48],true,(OU (pe,ex)).1),
   (!(sk==[]),false,[50,46,53,46,50,57,46,49,52],false,Sp.elem 4 sk),
   (!(ak==[]),false,[50,46,53,46,50,57,46,51,53],false,Sp.elem 48 (Sp.elem 128 ak)),
   (decide (((pt.length:Nat):Int)>0),(KP pt).2 != 0,[50,46,53,46,50,57,46,51,49],false,(KP pt).1),
   (decide (((fr.length:Nat):Int)>0),(KP fr).2 != 0,[50,46,53,46,50,57,46,52,54],false,(KP fr).1)]
abbrev noX:Bool×Bool×Ex:=(false,false,[],false,[])
def KX (r:Bool×Bool×Ex):List Ex:=bif r.1 then [r.2.2]else []
def QW (r:Bool×Bool×Ex):Bool:=r.1&&r.2.1
def encI (x:Info):List Ex×Int:=bif Qp x != 0 then([],Qp x)else bif (OT x).any QW then([],2)else((OT x).flatMap KX++x.2.2.2.2.2.2.2.2.2.2.2.2.2.2.2.2.2.2,0)
section
variable (N:Nat) (hN:1048578<N)
include hN
theorem ArI (b:Bool) {n:Int} (h:spI n=true):ND N b n=some (Sp.elem 2 (inB n),b):=by obtain⟨h1,_,h3⟩:=UK N n hN h;have w:JA N b 2 [inB n]=_:=WX N 2 b [inB n] (by omega) (by omega) hN (by simp) (by rw[JL];omega);rw[JL]at w;unfold ND;rw[h1,Js,w,Js]
theorem Aww (b v:Bool):Su N b 1 v=some (bif v then Sp.elem 1 [255]else [],b):=by
 unfold Su;cases v with
 | false=>rfl
 | true =>have w:JA N b 1 [[255]]=_:=WX N 1 b [[255]] (by omega) (by omega) hN (by simp) (by simp);show Jq (JA N b 1 [[255]]) _=_;rw[w,Js];rfl
theorem iE {n:Int} (h:spI n=true):(inB n).length<=2:=(UK N n hN h).2.2
theorem Aof (b:Bool) (x:Info) (h:spI x.2.2.1=true):P9 N b x=some (aT x.2.1 x.2.2.1,b):=by
 obtain⟨hb,ca,pl,us,pu,po,ma,re,im,ia,na,hc,pe,ex,sk,ak,pt,fr,un⟩:=x;have h:spI pl=true:=h;have hi:=iE N hN h;have he:=Sp.JS 2 (inB pl);unfold P9;try simp only[clR]
 simp only[Ld]
 have fin: ∀ t:Bs,t.length<=10->(Jq (Su N b 1 ca) λr17=>Jq (JR N r17.snd [r17.fst,t]) λr20=>some (r20.fst,r20.snd))=some (Sp.elem 48 ((bif ca then Sp.elem 1 [255]else [])++t),b):=by
  intro t ht;rw[Aww N hN,Js];dsimp only;unfold JR;have hl:((bif ca then Sp.elem 1 [255]else []):Bs).length<=10:=by cases ca<;>decide
  have w:JA N b 48 [bif ca then Sp.elem 1 [255]else [],t]=_:=WX N 48 b [bif ca then Sp.elem 1 [255]else [],t] (by omega) (by omega) hN (by simp) (by rw[QG,Dp];omega);rw[w,Js,Js,QG]
 unfold aT;cases hp:pl != -1 with
 | true =>rw[cond_true,cond_true,ArI N hN b h,Js];exact fin (Sp.elem 2 (inB pl)) (by omega)
 | false=>exact fin [] (by simp)
theorem Aoh (b:Bool) (x:Info) (h:0<=x.2.2.2.1/\x.2.2.2.1<512):PE N b x=some (Sp.elem 3 (flB x.2.2.2.1),b):=by have hl:=iD h;unfold PE;rw[(ZN N _ hN h.1 h.2).1,Js,TD,Js];have w:JA N b 3 [flB x.2.2.2.1]=_:=WX N 3 b [flB x.2.2.2.1] (by omega) (by omega) hN (by simp) (by rw[JL];omega);rw[JL]at w;show Jq (JA N (b||false) 3 [flB x.2.2.2.1]) _=_;rw[EO,w,Js]
theorem vZ (b:Bool) {s:Bs} (hs:LG s) (h:LZ s=true):Qy N b s=some (Lu s,b):=by obtain⟨o1,o2⟩:=XT h;unfold Qy;rw[dN N s (by omega) hs,o1,Js,TD,Js];have w:JA N b 6 [Nj s]=_:=WX N 6 b [Nj s] (by omega) (by omega) hN (by simp) (by rw[JL];omega);rw[JL]at w;show Jq (JA N (b||false) 6 [Nj s]) _=_;rw[EO,w,Js];rfl
omit hN in
theorem Nh {s:Bs} (h:LZ s=true):(Lu s).length<=65:=by have:=(XT h).2;have:=Sp.JS 6 (Nj s);unfold Lu;omega
theorem Ab6 (b:Bool) (l:List Bs) (hl:l.length<=1000) (hs:l.flatten.length<=131072:=by omega):JR N b l=some (Sp.elem 48 l.flatten,b):=by unfold JR;have w:JA N b 48 l=_:=WX N 48 b l (by omega) (by omega) hN hl hs;rw[w,Js]
theorem AhA (b:Bool) (x:Info) (hs: ∀ s∈x.2.2.2.2.1,LG s) (h:x.2.2.2.2.1.length<=8/\ ∀ s∈x.2.2.2.2.1,LZ s=true):NW N b x=some (AdS x.2.2.2.2.1,b):=by
 unfold NW AdS;try simp only[clR]
 generalize x.2.2.2.2.1=l at *
 have hl:=Lp (g:=Lu) (M:=65) (l:=l) (λs hm=>Nh (h.2 s hm));refine(Tf (mk:=λi a=>((i:Int),b,a)) l [] Lu (λa=>Jq (JR N b a) λr=>some (r.1,r.2)) ?_ ?_ N).trans ?_
 .intro i a hi ha k;have hp:=vZ N hN b (hs _ (getD_mem [] hi)) (h.2 _ (getD_mem [] hi));simp (disch:=omega) only[JD,hp,JW]
 .intro a k ha;simp (disch:=omega) only[JD]
 .rw[Ab6 N hN b _ (by rw[D5];omega),Js]
theorem Ah9 (b:Bool) (x:Info) (hs: ∀ s∈x.2.2.2.2.2.1,LG s) (h:x.2.2.2.2.2.1.length<=8/\ ∀ s∈x.2.2.2.2.2.1,LZ s=true):NV N b x=some (Aep x.2.2.2.2.2.1,b):=by
 unfold NV Aep;try simp only[clR]
 generalize x.2.2.2.2.2.1=l at *
 have hl:=Lp (g:=λs=>Sp.elem 48 (Lu s)) (M:=70) (l:=l) (λs hm=>by have:=Nh (h.2 s hm);have:=Sp.JS 48 (Lu s);omega);refine(Tf (mk:=λi a=>((i:Int),b,a)) l [] (λs=>Sp.elem 48 (Lu s)) (λa=>Jq (JR N b a) λr=>some (r.1,r.2)) ?_ ?_ N).trans ?_
 .intro i a hi ha k;have hv:=h.2 _ (getD_mem [] hi);have hp:=vZ N hN b (hs _ (getD_mem [] hi)) hv;have hq:=Ab6 N hN b [Lu (l.getD i [])] (by simp) (by rw[JL];have:=Nh hv;omega);rw[JL]at hq;simp (disch:=omega) only[JD,hp,hq,JW]
 .intro a k ha;simp (disch:=omega) only[JD]
 .rw[Ab6 N hN b _ (by rw[D5];omega),Js]
theorem Ah8 (b:Bool) (x:Info) (hs: ∀ s∈x.2.2.2.2.2.2.1,sD s) (h:x.2.2.2.2.2.2.1.length<=8/\ ∀ m∈x.2.2.2.2.2.2.1,LZ m.1=true/\LZ m.2=true):NU N b x=some (Aeh x.2.2.2.2.2.2.1,b):=by
 unfold NU Aeh;try simp only[clR]
 generalize x.2.2.2.2.2.2.1=l at *
 have hl:=Lp (g:=λm:Bs×Bs=>Sp.elem 48 (Lu m.1++Lu m.2)) (M:=135) (l:=l) (λm hm=>by have:=Nh (h.2 m hm).1;have:=Nh (h.2 m hm).2;have:=Sp.JS 48 (Lu m.1++Lu m.2);rw[Dp]at this;omega);refine(Tf (mk:=λi a=>((i:Int),b,a)) l ([],[]) (λm=>Sp.elem 48 (Lu m.1++Lu m.2)) (λa=>Jq (JR N b a) λr=>some (r.1,r.2)) ?_ ?_ N).trans ?_
 .intro i a hi ha k;have hv:=h.2 _ (getD_mem ([],[]) hi);have hsm:=hs _ (getD_mem ([],[]) hi);have hp:=vZ N hN b hsm.1 hv.1;have hp2:=vZ N hN b hsm.2 hv.2;have hq:=Ab6 N hN b [Lu (l.getD i ([],[])).1,Lu (l.getD i ([],[])).2] (by simp) (by rw[QG,Dp];have:=Nh hv.1;have:=Nh hv.2;omega);rw[QG]at hq;simp (disch:=omega) only[JD,hp,hp2,hq,JW]
 .intro a k ha;simp (disch:=omega) only[JD]
 .rw[Ab6 N hN b _ (by rw[D5];omega),Js]
end
section
variable (N:Nat) (hN:1048578<N)
include hN
theorem Am5 (b:Bool) (x:Info) (h1:spI x.2.2.2.2.2.2.2.1=true) (h2:spI x.2.2.2.2.2.2.2.2.1=true):OV N b x=some (Aa5 x.2.2.2.2.2.2.2.1 x.2.2.2.2.2.2.2.2.1,b):=by
 unfold OV;try simp only[clR]
 generalize x.2.2.2.2.2.2.2.1=re at *
 generalize x.2.2.2.2.2.2.2.2.1=im at *
 obtain⟨p1,_,l1⟩:=UK N re hN h1;obtain⟨p2,_,l2⟩:=UK N im hN h2;have q1:=Sp.JS 128 (inB re);have q2:=Sp.JS 129 (inB im);have w1:JA N b 128 [inB re]=_:=WX N 128 b [inB re] (by omega) (by omega) hN (by simp) (by rw[JL];omega);have w2:JA N b 129 [inB im]=_:=WX N 129 b [inB im] (by omega) (by omega) hN (by simp) (by rw[JL];omega);rw[JL]at w1 w2;have w1':JA N b (128+((0:Nat):Int)) [inB re]=some (Sp.elem 128 (inB re),b):=w1;have w2':JA N b (128+((1:Nat):Int)) [inB im]=some (Sp.elem 129 (inB im),b):=w2;have g0: [re,im].getD 0 0=re:=rfl;have g1: [re,im].getD 1 0=im:=rfl;have g2: [re,im].length=2:=rfl;refine(Uj (S:=List Bs) (R:=Unit) (mk:=λi s=>((i:Int),b,s,[re,im])) (List.range 2) 0 (λ_ s=>s.length=2) (λi s=>.inr (bif [re,im].getD i 0 != -1 then s.set i (Sp.elem (128+i) (inB ([re,im].getD i 0)))else s)) (λ_=>none) (λs=>Jq (JR N b s) λr=>some (r.1,r.2)) ?_ ?_ ?_ N [[],[]] rfl (by rw[DW];omega)).trans ?_
 .intro i s hi hI k;rw[DW]at hi;rw[wE hi];have hl:s.length=2:=hI;rcases(by omega:i=0\/i=1)with rfl | rfl
  .dsimp only[U4];simp (disch:=omega) only[JD,hl,g0,g2,p1,w1',JW];cases re != -1<;>rfl
  .dsimp only[U4];simp (disch:=omega) only[JD,hl,g1,g2,p2,w2',JW];cases im != -1<;>rfl
 .intro i s s' hi hI he;injection he with he;subst he;cases [re,im].getD ((List.range 2).getD i 0) 0 != -1
  .exact hI
  .show(s.set _ _).length=2;rw[FN];exact hI
 .intro s k hI;rw[DW];dsimp only[U4];simp (disch:=omega) only[JD]
 .show(Jq (JR N b (bif im != -1 then(bif re != -1 then [Sp.elem 128 (inB re),[]]else [[],[]]).set 1 (Sp.elem 129 (inB im))else(bif re != -1 then [Sp.elem 128 (inB re),[]]else [[],[]]))) λr=>some (r.1,r.2))=_;have e:(bif im != -1 then(bif re != -1 then [Sp.elem 128 (inB re),[]]else [[],[]]).set 1 (Sp.elem 129 (inB im))else(bif re != -1 then [Sp.elem 128 (inB re),[]]else [[],[]]))=[bif re != -1 then Sp.elem 128 (inB re)else [],bif im != -1 then Sp.elem 129 (inB im)else []]:=by cases re != -1<;>cases im != -1<;>rfl
  rw[e,Ab6 N hN b _ (by simp) ?_,Js,QG]
  .rfl
  .rw[QG,Dp];cases re != -1<;>cases im != -1<;>simp only[cond_true,cond_false,List.length_nil]<;>omega
theorem AjD (b:Bool) (x:Info) (h:spI x.2.2.2.2.2.2.2.2.2.1=true):Oo N b x=some (Sp.elem 2 (inB x.2.2.2.2.2.2.2.2.2.1),b):=by
 unfold Oo;try simp -zeta only[Ap]
 rw[ArI N hN b h,Js]
theorem Aog (b:Bool) (x:Info) (hs:Lh x.2.2.2.2.2.2.2.2.2.2.1) (h:x.2.2.2.2.2.2.2.2.2.2.1.length<=16/\Kw (λg=>LP g false) x.2.2.2.2.2.2.2.2.2.2.1=0) (h0:x.2.2.2.2.2.2.2.2.2.2.1≠ []):PD N b x=some (Sp.elem 48 (Np x.2.2.2.2.2.2.2.2.2.2.1),b):=by
 have hl:=bJ h.2 h.1;unfold PD;try simp -zeta only[Ap]
 rw[YX N _ hN hs,jV h0 h.1 h.2,Js,TD,Js];have hq:=Ab6 N hN b [Np x.2.2.2.2.2.2.2.2.2.2.1] (by simp) (by rw[JL];omega);rw[JL]at hq;show Jq (JR N (b||false) [Np x.2.2.2.2.2.2.2.2.2.2.1]) _=_;rw[EO,hq,Js]
theorem Ac9 (b:Bool) (x:Info) (hx:PX x):NZ N b x=some ((OU (x.2.2.2.2.2.2.2.2.2.2.2.2.1,x.2.2.2.2.2.2.2.2.2.2.2.2.2.1)).1,b||(OU (x.2.2.2.2.2.2.2.2.2.2.2.2.1,x.2.2.2.2.2.2.2.2.2.2.2.2.2.1)).2 != 0):=by
 unfold NZ;try simp -zeta only[Ap]
 rw[AcS N (x.2.2.2.2.2.2.2.2.2.2.2.2.1,x.2.2.2.2.2.2.2.2.2.2.2.2.2.1) hN hx.pe hx.ex,Js,TD,Js];congr 3;by_cases h:(OU (x.2.2.2.2.2.2.2.2.2.2.2.2.1,x.2.2.2.2.2.2.2.2.2.2.2.2.2.1)).2=0<;>simp [h]
theorem AjE (b:Bool) (x:Info) (h:x.2.2.2.2.2.2.2.2.2.2.2.2.2.2.1.length<=32):Oq N b x=some (Sp.elem 4 x.2.2.2.2.2.2.2.2.2.2.2.2.2.2.1,b):=by
 have w:JA N b 4 [x.2.2.2.2.2.2.2.2.2.2.2.2.2.2.1]=_:=WX N 4 b [x.2.2.2.2.2.2.2.2.2.2.2.2.2.2.1] (by omega) (by omega) hN (by simp) (by rw[JL];omega);rw[JL]at w;unfold Oq;try simp -zeta only[Ap]
 rw[w,Js]
theorem Agf (b:Bool) (x:Info) (h:x.2.2.2.2.2.2.2.2.2.2.2.2.2.2.2.1.length<=32):NC N b x=some (Sp.elem 48 (Sp.elem 128 x.2.2.2.2.2.2.2.2.2.2.2.2.2.2.2.1),b):=by
 have hl:=Sp.JS 128 x.2.2.2.2.2.2.2.2.2.2.2.2.2.2.2.1;have w:JA N b 128 [x.2.2.2.2.2.2.2.2.2.2.2.2.2.2.2.1]=_:=WX N 128 b [x.2.2.2.2.2.2.2.2.2.2.2.2.2.2.2.1] (by omega) (by omega) hN (by simp) (by rw[JL];omega);rw[JL]at w;have hq:=Ab6 N hN b [Sp.elem 128 x.2.2.2.2.2.2.2.2.2.2.2.2.2.2.2.1] (by simp) (by rw[JL];omega);rw[JL]at hq;unfold NC;try simp -zeta only[Ap]
 rw[w,Js];dsimp only;rw[hq,Js]
theorem Am6 (b:Bool) (x:Info) (hx:PX x):QA N b x=some ((KP x.2.2.2.2.2.2.2.2.2.2.2.2.2.2.2.2.1).1,b||(KP x.2.2.2.2.2.2.2.2.2.2.2.2.2.2.2.2.1).2 != 0):=by
 unfold QA;try simp -zeta only[Ap]
 rw[WN N _ hN hx.pt,Js,TD,Js];congr 3;by_cases h:(KP x.2.2.2.2.2.2.2.2.2.2.2.2.2.2.2.2.1).2=0<;>simp [h]
theorem Ah7 (b:Bool) (x:Info) (hx:PX x):Pv N b x=some ((KP x.2.2.2.2.2.2.2.2.2.2.2.2.2.2.2.2.2.1).1,b||(KP x.2.2.2.2.2.2.2.2.2.2.2.2.2.2.2.2.2.1).2 != 0):=by
 unfold Pv;try simp -zeta only[Ap]
 rw[WN N _ hN hx.fr,Js,TD,Js];congr 3;by_cases h:(KP x.2.2.2.2.2.2.2.2.2.2.2.2.2.2.2.2.2.1).2=0<;>simp [h]
omit hN in
theorem Avw (x:Info) (i:Nat) (hi:i<13):(uQ x).getD i false=((OT x).getD i noX).1:=by
 obtain⟨B,C,D,F,G,H,I,re,im,J,K,L,M,O,P,Q,T,U,V⟩:=x;have:i=0\/i=1\/i=2\/i=3\/i=4\/i=5\/i=6\/i=7\/i=8\/i=9\/i=10\/i=11\/i=12:=by omega
 rcases this with rfl | rfl | rfl | rfl | rfl | rfl | rfl | rfl | rfl | rfl | rfl | rfl | rfl<;>rfl
omit hN in
theorem At1 (x:Info) (i:Nat) (hi:i<13):((V7.getD i ([],0,0,0,0)).1,(V7.getD i ([],0,0,0,0)).2.1==1||(V7.getD i ([],0,0,0,0)).1==[50,46,53,46,50,57,46,51,51])=(((OT x).getD i noX).2.2.1,((OT x).getD i noX).2.2.2.1):=by
 obtain⟨B,C,D,F,G,H,I,re,im,J,K,L,M,O,P,Q,T,U,V⟩:=x;have:i=0\/i=1\/i=2\/i=3\/i=4\/i=5\/i=6\/i=7\/i=8\/i=9\/i=10\/i=11\/i=12:=by omega
 rcases this with rfl | rfl | rfl | rfl | rfl | rfl | rfl | rfl | rfl | rfl | rfl | rfl | rfl<;>rfl
theorem AuD (b:Bool) (x:Info) (hx:PX x) (h0:Qp x=0) (i:Nat) (hi:i<13) (hh:((OT x).getD i noX).1=true):AgR N (V7.getD i ([],0,0,0,0)).2.2.2.1 (b,x)=some (((OT x).getD i noX).2.2.2.2,b||((OT x).getD i noX).2.1):=by
 have e0:=λh=>Aof N hN b x h;have e1:=λh=>Aoh N hN b x h;have e2:=λh=>AhA N hN b x hx.pu.2 h;have e3:=λh=>Ah9 N hN b x hx.po.2 h;have e4:=λh=>Ah8 N hN b x hx.ma h;have e5:=λh1 h2=>Am5 N hN b x h1 h2;have e6:=λh=>AjD N hN b x h;have e7:=λh h0=>Aog N hN b x hx.na h h0;have e8:=Ac9 N hN b x hx;have e9:=λh=>AjE N hN b x h;have e10:=λh=>Agf N hN b x h;have e11:=Am6 N hN b x hx;have e12:=Ah7 N hN b x hx;obtain⟨B,C,D,F,G,H,I,re,im,J,K,L,M,O,P,Q,T,U,V⟩:=x;obtain⟨ok,_⟩:=AdU h0;have hor:b=(b||false):=(EO b).symm;have:i=0\/i=1\/i=2\/i=3\/i=4\/i=5\/i=6\/i=7\/i=8\/i=9\/i=10\/i=11\/i=12:=by omega
 rcases this with rfl | rfl | rfl | rfl | rfl | rfl | rfl | rfl | rfl | rfl | rfl | rfl | rfl
 .show P9 N b _=some (aT C D,b||false);rw[<- hor];exact e0 ok.sp.1
 .show PE N b _=some (_,b||false);rw[<- hor];exact e1 ok.us
 .show NW N b _=some (_,b||false);rw[<- hor];exact e2 ok.pu
 .show NV N b _=some (_,b||false);rw[<- hor];exact e3 ok.po
 .show NU N b _=some (_,b||false);rw[<- hor];exact e4 ok.ma
 .show OV N b _=some (_,b||false);rw[<- hor];exact e5 ok.sp.2.1 ok.sp.2.2.1
 .show Oo N b _=some (_,b||false);rw[<- hor];exact e6 ok.sp.2.2.2
 .show PD N b _=some (_,b||false);rw[<- hor];refine e7 ok.na ?_;intro hna;have hna:K=[]:=hna;subst hna;cases hh
 .exact e8
 .show Oq N b _=some (_,b||false);rw[<- hor];exact e9 ok.sk
 .show NC N b _=some (_,b||false);rw[<- hor];exact e10 ok.ak
 .exact e11
 .exact e12
end
def Ata: ∀(l:List (Bool×Bool×Ex)) (s:Bool×List Ex),Pn (R:=Unit) (λr s=>.inr (s.1||QW r,s.2++KX r)) l s= .inr (s.1||l.any QW,s.2++l.flatMap KX):=by
 intro l
 induction l with
 | nil=>intro s;rw[List.any_nil,List.flatMap_nil,EO,DT];rfl
 | cons r t ih =>intro s;rw[NG];show Pn (R:=Unit) _ t _=_;rw[ih,List.any_cons,Fq,Bool.or_assoc,Ea]
def AiK (x:Info):(OT x).length=13:=rfl
def Oi (r:Bool×Bool×Ex):(KX r).length<=1:=by unfold KX;cases r.1<;>simp
def Acs (N:Nat) (x:Info) (hN:1048578<N) (hx:PX x):Wl N x=some (encI x):=by
 have hdisp:=Aln N x;have hput:=fun(b:Bool) (h0:Qp x=0)=>AuD N hN b x hx h0;have hhas:=Avw x;have hcrit:=At1 x;have hlen:=AiK x;have hrl:=Ae2;have hck:=iT N x hN hx;have hun:=hx.un.1;unfold Wl encI;try simp only[clR]
 rw[hck,Js,<- JX];refine KN λh0=> ?_;have h0:Qp x=0:=by simpa using h0
 obtain⟨B,C,D,F,G,H,I,J,K,L,M,O,P,Q,T,U,V,W,Y⟩:=x;have hun:Y.length<=1048576:=hun;generalize hX:(B,C,D,F,G,H,I,J,K,L,M,O,P,Q,T,U,V,W,Y)=X at *
 rw[show PZ N=some V7 from rfl,Js];subst hX;refine(Uj (S:=Bool×List Ex) (R:=Unit) (mk:=λi s=>((i:Int),B,C,D,F,G,H,I,J,K,L,M,O,P,Q,T,U,V,W,Y,s.1,s.2)) (OT (B,C,D,F,G,H,I,J,K,L,M,O,P,Q,T,U,V,W,Y)) noX (λi s=>s.2.length<=i) (λr s=>.inr (s.1||QW r,s.2++KX r)) (λ_=>none) (λs=>bif s.1 then some ([],2)else Vm.chk (decide ((s.2.length+Y.length)*41<=140737488355328)) (some (s.2++Y,0))) ?_ ?_ ?_ N (false,[]) (DD _) (by rw[hlen];omega)).trans ?_
 .intro i s hi hI k;rw[hlen]at hi;have hI:s.2.length<=i:=hI;have hd:=hdisp i hi;rw[hhas i hi]at hd;have hp:=hput s.1 h0 i hi;have hcr:=hcrit i hi;dsimp only[U22];rw[Int.toNat_natCast];generalize (OT (B,C,D,F,G,H,I,J,K,L,M,O,P,Q,T,U,V,W,Y)).getD i noX=r at *
  generalize V7.getD i ([],0,0,0,0)=q at *
  obtain⟨hc1,hc2⟩:=Prod.mk.inj hcr;simp (disch:=omega) only[JD,hrl,hd,JW];unfold QW KX;cases hr:r.1 with
  | false=>rw[cond_false,cond_false,EW,EO,DT]
  | true =>rw[cond_true,hp hr,Js,cond_true,ER];dsimp only;rw[hc2,hc1]
 .intro i s s' hi hI he;injection he with he;subst he;have:=Oi ((OT (B,C,D,F,G,H,I,J,K,L,M,O,P,Q,T,U,V,W,Y)).getD i noX);have hI:s.2.length<=i:=hI;show(s.2++KX _).length<=i+1;rw[Dp];omega
 .intro s k hI;rw[hlen];dsimp only[U22];rw[hrl,Vw,cond_false];rfl
 .rw[Ata,AgO]
  have hl:((OT (B,C,D,F,G,H,I,J,K,L,M,O,P,Q,T,U,V,W,Y)).flatMap KX).length<=13:=by
   have: ∀ l:List (Bool×Bool×Ex),(l.flatMap KX).length<=l.length:=by
    intro l
    induction l with
    | nil=>simp
    | cons r t ih =>have:=Oi r;rw[Fq,Dp,List.length_cons];omega
   have:=this (OT (B,C,D,F,G,H,I,J,K,L,M,O,P,Q,T,U,V,W,Y));rw[hlen]at this;exact this
  dsimp only;rw[EL,List.nil_append,Oz,Ju,JX]
end Go.Proofs.YtacidcemomccpaaGreatDoor.Pl
