import Derived.Test.YtehkhflpjkokeaaGreatDoorA18
set_option linter.all false
namespace Go.Proofs.YtehkhflpjkokeaaGreatDoor.Pl
open IntKind (i64 u8 u32 u64)
open Go Vm
def wrap_u64 (x:Int):u64.wrap x=x % 18446744073709551616:=by simp [IntKind.wrap,IntKind.bits,IntKind.signed]
def bad_eq (a b:UInt8) (r:Bs):Sp.VK (a::b::r)=((((a.toNat:Int)==0)&&decide ((b.toNat:Int)<128))||(((a.toNat:Int)==255)&& !decide ((b.toNat:Int)<128))):=by
 have e1:((a.toNat:Int)==0)=decide (a.toNat=0):=by rw[Fj];simp
 have e2:((a.toNat:Int)==255)=decide (a.toNat=255):=by rw[Fj];simp;omega
 have e3:decide ((b.toNat:Int)<128)=decide (b.toNat<128):=by rw[Fj];simp;omega
 rw[e1,e2,e3];show(_||_&&decide (128<=b.toNat))=_;rw[show decide (128<=b.toNat)= !decide (b.toNat<128) by rw[Fj];simp]
def AwG (k:Nat):(2:Int) ^ (8*k)=256 ^ k:=by rw[Int.pow_mul];rfl
def Ax3 (q:Int):Vm.byteOf (u8.wrap q)=Sp.byteOf q:=by unfold Vm.byteOf Sp.byteOf;rw[w8]
def Awn (f:Nat->Int) (l:List Nat):List.all (l.map fun i=>u8.wrap (f i)) isByte=true:=by rw[DD];intro x hx;obtain⟨i,_,rfl⟩:=DF.1 hx;exact Tc _
def Ad9 (v:Int): ∀ n:Nat,(List.range n).map (fun i=>Sp.byteOf (v / 256 ^ (n - 1 - i)))=Sp.LU v n:=by
 intro n
 induction n with
 | zero=>rfl
 | succ n ih =>
  rw[H8,Em,EW];show _=Sp.byteOf (v / 256 ^ n)::Sp.LU v n;rw[<- ih];have e:(List.range n).map ((fun i=>Sp.byteOf (v / 256 ^ (n+1 - 1 - i)))∘Nat.succ)=(List.range n).map (fun i=>Sp.byteOf (v / 256 ^ (n - 1 - i))):=ED fun i hi=>by show Sp.byteOf (v / 256 ^ (n+1 - 1 - (i+1)))=_;rw[show n+1 - 1 - (i+1)=n - 1 - i by omega]
  rw[e];rfl
def AuQ (q:Int):(decide (q< -128)||decide (q>127))= !decide (Sp.fits q):=by
 by_cases h:Sp.fits q
 .rw[Di h];have h: -128<=q/\q<=127:=h;rw[Ay8,Ay8];rfl
 .rw[Dn h];have h: ¬(-128<=q/\q<=127):=h;by_cases h':q< -128
  .rw[Di h'];rfl
  .rw[Di (show q>127 by omega),Ew];rfl
def Zo (N:Nat) (v:Int) (hN:16<N) (h1: -9223372036854775808<=v) (h2:v<=9223372036854775807):Pz N v=some (Sp.LC v):=by
 obtain⟨k,hk7,hf,hm⟩:=Sp.Aeg v 7 (Sp.AuP v h1 h2);rw[Sp.uP v k hk7 hf hm]
 have hlow: ∀ j,j<k-> ¬ Sp.fits (v / 256 ^ j):=by
  intro j hj h;rcases hm with rfl | ⟨m,rfl,hm⟩
  .omega
  .obtain⟨d,rfl⟩: ∃ d,m=j+d:=⟨m - j,by omega⟩
   exact hm (Sp.Agl v j h d)
 unfold Pz;try simp only[clR]
 have key: ∀(d j n:Nat) (kx:Int->Option Bs),j+d=k->d<n->Jz (X:=Int×Int) (Y:=Int) (U2 fun t3a t4a k1 x2=>bif decide (t4a<((-128):Int))||decide (t4a>(127:Int))then(k1 (i64.wrap (t3a+(1:Int)),t4a.fdiv (256)))else(x2 t3a)) n ((j:Int)+1,v / 256 ^ j) kx=kx ((k:Int)+1):=by
  intro d
  induction d with
  | zero =>
   intro j n kx hj hn;obtain⟨n,rfl⟩: ∃ m,n=m+1:=⟨n - 1,by omega⟩
   have:j=k:=by omega
   subst this;rw[Ls];dsimp only[U2];rw[AuQ,Di hf];rfl
  | succ d ih =>
   intro j n kx hj hn;obtain⟨n,rfl⟩: ∃ m,n=m+1:=⟨n - 1,by omega⟩
   rw[Ls];dsimp only[U2];rw[AuQ,Dn (hlow j (by omega)),DY,cond_true,w64,Gl _ (by decide),<- Sp.dO];exact ih (j+1) n kx (by omega) (by omega)
 have k0:=key k 0 N;rw[show v / 256 ^ 0=v by simp]at k0;refine(k0 _ (by omega) (by omega)).trans ?_;refine(Yr (fun i acc=>((i:Int),acc)) (List.range (k+1)) 0 (fun i=>u8.wrap (v / 256 ^ (k - i))) (fun l=>chk (List.all l isByte) (some (l.map Vm.byteOf))) ?_ ?_ N (by rw[DK];omega)).trans ?_
 .intro i acc hi ha kk;rw[DK]at hi;rw[Adc hi];dsimp only[U2];have e:i64.wrap (i64.wrap ((k:Int)+1 - 1) - (i:Int))=((k - i:Nat):Int):=by rw[w64 (x:=(k:Int)+1 - 1),w64];omega
  rw[e,wu64 (x:=((k - i:Nat):Int)) (by omega),wu64 (x:=8*((k - i:Nat):Int)) (by omega)];rw[Di (show(i:Int)<(k:Int)+1 by omega),cond_true,Di (show(0:Int)<=8*((k - i:Nat):Int) by omega),Jv,Di (show(acc.length+1)*2<=140737488355328 by omega),Jv,w64 (x:=(i:Int)+1)];rw[show min (8*((k - i:Nat):Int)).toNat 64=8*(k - i) by omega,AwG,Gl _ (IA (by decide))];rfl
 .intro acc kk ha;rw[DK];dsimp only[U2];rw[Dn (show ¬((k+1:Nat):Int)<(k:Int)+1 by omega)];rfl
 .rw[Awn (fun i=>v / 256 ^ (k - i)),Jv,EW];refine congrArg some ?_;rw[<- Ad9 v (k+1)];refine ED fun i _=> ?_;have e:k+1 - 1 - i=k - i:=by omega
  show Vm.byteOf (u8.wrap (v / 256 ^ (k - i)))=Sp.byteOf (v / 256 ^ (k+1 - 1 - i));rw[e];exact Ax3 _
def AsX (a b:UInt8) (r:Bs):Sp.VK (a::b::r)=((((a.toNat:Int)==0)&&decide ((b.toNat:Int)<128))||(((a.toNat:Int)==255)&&decide ((b.toNat:Int)>=128))):=by
 have h:(!decide ((b.toNat:Int)<128))=decide ((b.toNat:Int)>=128):=by
  by_cases h:(b.toNat:Int)<128
  .rw[Di h,Ay8];rfl
  .rw[Dn h,Di];rfl
 rw[bad_eq,h]
def As3 (N:Nat) (B:List Int->(List Int->Option Bs)->(List Int->Option Bs)->Option Bs) (fin:List Int->Option Bs)
 (h1: ∀(a:UInt8) k,B [(a.toNat:Int)] k fin=fin [(a.toNat:Int)])
 (h2: ∀(a b:UInt8) (r:Bs) k,r.length<=6->B ((a::b::r).map fun c=>(c.toNat:Int)) k fin=bif Sp.VK (a::b::r)then k ((b::r).map fun c=>(c.toNat:Int))else fin ((a::b::r).map fun c=>(c.toNat:Int))) :
 ∀(l:Bs) (n:Nat),l≠ []->l.length<=8->l.length<n->Jz B n (l.map fun c=>(c.toNat:Int)) fin=fin ((Sp.strip l).map fun c=>(c.toNat:Int)):=by
 intro l
 induction l with
 | nil=>intro n h;exact absurd rfl h
 | cons a r ih =>
  intro n _ h8 hn;obtain⟨n,rfl⟩: ∃ m,n=m+1:=⟨n - 1,by omega⟩
  rw[Ls];cases r with
  | nil=>exact h1 a _
  | cons b r =>
   rw[h2 a b r _ (by simp at h8;omega)];show _=fin ((if Sp.VK (a::b::r)then Sp.strip (b::r)else a::b::r).map _);cases hb:Sp.VK (a::b::r)with
   | true=>rw[cond_true,Dp rfl];exact ih n (by simp) (by simp at h8 ⊢;omega) (by simp at hn ⊢;omega)
   | false=>rfl
def aI (N:Nat) (v:Int) (hN:16<N):TD N v=some (Sp.LC v):=by
 unfold TD;try simp -zeta only[Ap]
 have hw: ∀ e:Nat,e<=7->(u8.wrap ((u64.wrap v).fdiv (2 ^ (8*e))))=((Sp.byteOf (v / 256 ^ e)).toNat:Int):=by
  intro e he;rw[w8,wrap_u64,Sp.byteOf_toNat,Gl _ (IA (by decide)),AwG];have:e=0\/e=1\/e=2\/e=3\/e=4\/e=5\/e=6\/e=7:=by omega
  rcases this with rfl | rfl | rfl | rfl | rfl | rfl | rfl | rfl<;>simp only[show((256:Int) ^ 0)=1 from rfl,show((256:Int) ^ 1)=256 from rfl,show((256:Int) ^ 2)=65536 from rfl,show((256:Int) ^ 3)=16777216 from rfl,show((256:Int) ^ 4)=4294967296 from rfl,show((256:Int) ^ 5)=1099511627776 from rfl,show((256:Int) ^ 6)=281474976710656 from rfl,show((256:Int) ^ 7)=72057594037927936 from rfl]<;>omega
 have key: ∀ fin:List Int->Option Bs,Jz (X:=Int×List Int) (Y:=List Int) (U2 fun t5a l k1 x2=>bif decide (t5a>=(0:Int))then(chk (decide ((0:Int)<=i64.wrap ((8:Int)*t5a))) <|
  let x16:Int:=(u64.wrap v).fdiv (2 ^ (min (i64.wrap ((8:Int)*t5a)).toNat 64))
  chk (decide ((l.length+1)*2<=140737488355328)) <|
  k1 (i64.wrap (t5a - (1:Int)),l++([u8.wrap x16]:List Int)))else(x2 l)) N (7,([]:List Int)) fin=fin ((List.range 8).map fun i=>((Sp.byteOf (v / 256 ^ (7 - i))).toNat:Int)):=by
  intro fin;refine Yr (fun i acc=>(7 - (i:Int),acc)) (List.range 8) 0 (fun i=>((Sp.byteOf (v / 256 ^ (7 - i))).toNat:Int)) fin ?_ ?_ N (by rw[DK];omega)
  .intro i acc hi ha kk;rw[DK]at hi;rw[Adc hi];dsimp only[U2];rw[Di (show 7 - (i:Int)>=0 by omega),cond_true,w64 (x:=8*(7 - (i:Int))),Di (show(0:Int)<=8*(7 - (i:Int)) by omega),Jv,Di (show(acc.length+1)*2<=140737488355328 by omega),Jv,w64 (x:=7 - (i:Int) - 1)];rw[show min (8*(7 - (i:Int))).toNat 64=8*(7 - i) by omega,hw (7 - i) (by omega),show 7 - (i:Int) - 1=7 - ((i+1:Nat):Int) by omega]
  .intro acc kk ha;rw[DK];dsimp only[U2];rw[Dn (show ¬(7 - ((8:Nat):Int))>=0 by omega),cond_false]
 refine(key _).trans ?_;have e:(List.range 8).map (fun i=>((Sp.byteOf (v / 256 ^ (7 - i))).toNat:Int))=(Sp.LU v 8).map fun c=>(c.toNat:Int):=by rw[<- Ad9 v 8,EW];rfl
 rw[e];refine(As3 N _ _ ?_ ?_ (Sp.LU v 8) N (by simp [Sp.LU]) (by rw[Sp.ZA];omega) (by rw[Sp.ZA];omega)).trans ?_
 .intro a k;have h1:decide ((([(a.toNat:Int)]:List Int).length:Int)>1)=false:=rfl;dsimp only;rw[h1];simp only[Yq,Fa,DY,Ew,Jv,cond_false,DR,EN]
 .intro a b r k hr;rw[AsX];have q0:decide (((1:Nat):Int)<=((List.map (fun c:UInt8=>(c.toNat:Int)) (a::b::r)).length:Int))=true:=Di (by simp;omega);have q1:decide ((1:Int)<((List.map (fun c:UInt8=>(c.toNat:Int)) (a::b::r)).length:Int))=true:=Di (by simp;omega);have q2:decide (((List.map (fun c:UInt8=>(c.toNat:Int)) (a::b::r)).length:Int)>1)=true:=q1;have q3:decide ((0:Int)<((List.map (fun c:UInt8=>(c.toNat:Int)) (a::b::r)).length:Int))=true:=Di (by simp;omega);have q4:decide ((1:Int)<=((List.map (fun c:UInt8=>(c.toNat:Int)) (a::b::r)).length:Int))=true:=Di (by simp;omega);simp only[q1,q2,q3,q4];have g0:(List.map (fun c:UInt8=>(c.toNat:Int)) (a::b::r)).getD 0 0=(a.toNat:Int):=rfl;have g1:(List.map (fun c:UInt8=>(c.toNat:Int)) (a::b::r)).getD 1 0=(b.toNat:Int):=rfl;have g2:J6 (List.map (fun c:UInt8=>(c.toNat:Int)) (a::b::r)) 1 (List.map (fun c:UInt8=>(c.toNat:Int)) (a::b::r)).length=List.map (fun c:UInt8=>(c.toNat:Int)) (b::r):=by simp only[J6,Em,List.length_cons,IM,FP,Nat.add_sub_cancel];rw[Fb (by simp)];rfl
  simp only[g0,g1,g2,Yq];generalize ((a.toNat:Int)==0)=c1;generalize ((a.toNat:Int)==255)=c2;generalize decide ((b.toNat:Int)<128)=c3;generalize decide ((b.toNat:Int)>=128)=c4;cases c1<;>cases c2<;>cases c3<;>cases c4<;>simp (disch:=omega) only[JZ]
 .have h1: ∀ l:Bs,List.all (l.map fun c=>(c.toNat:Int)) isByte=true:=fun l=>by
   rw[DD];intro x hx;obtain⟨c,_,rfl⟩:=DF.1 hx;have:=Hq c;unfold isByte;simp;omega
  rw[h1,Jv,EW];refine congrArg some ?_;show _=Sp.strip (Sp.LU v 8);generalize Sp.strip (Sp.LU v 8)=l;have h2: ∀ c:UInt8,Vm.byteOf (c.toNat:Int)=c:=fun c=>by unfold Vm.byteOf;have:=Hq c;apply Ig.1;rw[Fp];simp
  exact(ED fun c _=>h2 c).trans (Gw l)
def Ol (g:Gn):Bs:=bif g.1==4 then Sp.elem 164 (nmB g.2.2)else Sp.elem (128+g.1).toNat g.2.1
def AtU {s:Bs} (h:OB s=true):s.length<=128:=by
 rcases Es 128 s.length with hl | hl
 .rw[AeC hl]at h;cases h
 .exact hl
def AnQ {s:Bs} (h:Qh s=true):s.length<=128:=by
 rcases Es 128 s.length with hl | hl
 .rw[Ahq hl]at h;cases h
 .exact hl
def Av5 {k:Int} {s:Bs} {c:Bool} (h:Ac9 k s c=true):s.length<=128/\(k=1\/k=2\/k=7):=by
 unfold Ac9 at h;by_cases h1:k=1
 .subst h1;refine⟨?_,.inl rfl⟩;rw[PH rfl,cond_true]at h;cases c with
  | true =>unfold mbP at h;rw[cond_true,Du,Dz]at h;exact h.1
  | false=>exact AtU h
 .rw[NP h1,cond_false]at h;by_cases h2:k=2
  .subst h2;refine⟨?_,.inr (.inl rfl)⟩;rw[PH rfl,cond_true]at h;cases c with
   | true =>
    unfold pF at h;rw[cond_true,Eo]at h;rcases h with h | h
    .have:s=[]:=by simpa using h
     subst this;exact EG _
    .exact AnQ h
   | false =>
    rw[cond_false]at h;unfold rQ at h;cases hq:Lib.hasPrefix s [42,46]with
    | true =>rw[hq,cond_true,Du,Du,Dz]at h;exact h.1.1
    | false=>rw[hq]at h;exact AnQ h
  .rw[NP h2,cond_false]at h;by_cases h7:k=7
   .subst h7;refine⟨?_,.inr (.inr rfl)⟩;rw[PH rfl,cond_true]at h;cases c with
    | true =>
     rw[cond_true]at h;unfold sG at h;cases hq:(decide (s.length=8)||decide (s.length=32))with
     | false=>rw[hq]at h;cases h
     | true=>rw[Eo,Dz,Dz]at hq;omega
    | false =>rw[cond_false]at h;unfold oV at h;rw[Eo,Dz,Dz]at h;omega
   .rw[NP h7]at h;cases h
def Agn {g:Gn} {c:Bool} (h:N8 g c=0):(g.1=4/\g.2.1=[]/\MN g.2.2=0)\/((g.1=1\/g.1=2\/g.1=7)/\g.2.1.length<=128/\g.2.2=[]/\Ac9 g.1 g.2.1 c=true):=by
 unfold N8 at h;by_cases h4:g.1=4
 .rw[PH h4,cond_true]at h;cases hq:g.2.1==[]with
  | true=>rw[hq]at h;exact .inl ⟨h4,by simpa using hq,h⟩
  | false=>rw[hq]at h;cases h
 .rw[NP h4,cond_false]at h;cases hq:Ac9 g.1 g.2.1 c&&g.2.2.isEmpty with
  | false=>rw[hq]at h;cases h
  | true =>rw[Du]at hq;obtain⟨h1,h2⟩:=Av5 hq.1;exact .inr ⟨h2,h1,by simpa using hq.2,hq.1⟩
theorem Yj {g:Gn} {c:Bool} (h:N8 g c=0):(Ol g).length<=4498:=by
 unfold Ol;rcases Agn h with ⟨h1,_,h3⟩ | ⟨h1,h2,_,_⟩
 .rw[PH h1,cond_true];have:=Sp.JO 164 (nmB g.2.2);have:=(WW h3).1;omega
 .rw[NP,cond_false];have:=Sp.JO (128+g.1).toNat g.2.1;omega
def qL (g:Gn) (c:Bool):Bs×Int:=bif N8 g c != 0 then([],N8 g c)else(Ol g,0)
def Xu (N:Nat) (g:Gn) (c:Bool) (hN:1048578<N) (hs:gQ g):Om N g c=some (qL g c):=by
 unfold Om qL;try simp only[clR]
 rw[Yk N g c hN hs,Jr,<- Oe];refine U1 fun h0=> ?_;have h0:N8 g c=0:=by simpa using h0
 unfold Ol;rcases Agn h0 with ⟨h1,_,h3⟩ | ⟨h1,h2,_,_⟩
 .have hl:=(WW h3).1;have w:KI N 164 [nmB g.2.2]=_:=gW N 164 [nmB g.2.2] (by omega) (by omega) hN (by simp) (by rw[JR];omega);rw[JR]at w;rw[lU h1,cond_false,PH h1,cond_true,jA N g.2.2 hN hs.2,Jr,h3,h1];show Jq (KI N 164 [nmB g.2.2]) _=_;rw[w,Jr]
 .have hk:(128+g.1)=((128+g.1).toNat:Int):=by omega
  have w:=gW N (128+g.1).toNat [g.2.1] (by omega) (by omega) hN (by simp) (by rw[JR];omega);rw[JR,<- hk]at w;rw[dF (by omega),cond_true,NP,cond_false,w64,w,Jr]
def Acp (N:Nat) (g:Gn) (c:Bool) (hN:1048578<N) (hs:gQ g):Q5 N g c=some (qL g c):=by
 unfold Q5 qL;try simp only[clR]
 rw[iP N g c hN hs,Jr,<- Oe];refine U1 fun h0=> ?_;have h0:N8 g c=0:=by simpa using h0
 unfold Ol;rcases Agn h0 with ⟨h1,_,h3⟩ | ⟨h1,h2,_,_⟩
 .have hl:=(WW h3).1;have w:JP N 164 [nmB g.2.2]=_:=RX N 164 [nmB g.2.2] (by omega) (by omega) hN (by simp) (by rw[JR];omega);rw[JR]at w;rw[PH h1,cond_true,cond_true,tV N g.2.2 hN hs.2,Jr,h3,h1];show Jq (JP N 164 [nmB g.2.2]) _=_;rw[w,Jr]
 .have hk:(128+g.1)=((128+g.1).toNat:Int):=by omega
  have w:=RX N (128+g.1).toNat [g.2.1] (by omega) (by omega) hN (by simp) (by rw[JR];omega);rw[JR,<- hk]at w;rw[NP,cond_false,cond_false,w64,w,Jr]
def YA (c:Bool) (g:Gn):Bs:=bif N8 g c != 0 then []else Ol g
def Ahu (c:Bool) (g:Gn):(YA c g).length<=4498:=by
 unfold YA;cases h:N8 g c != 0 with
 | true=>exact EG _
 | false=>exact Yj (c:=c) (by simpa using h)
def Arx (g:Gn) (c:Bool):qL g c=(YA c g,N8 g c):=by
 unfold qL YA;cases h:N8 g c != 0 with
 | true=>rfl
 | false=>rw[show N8 g c=0 by simpa using h];rfl
def Ahv {c:Bool} {l:List Gn} (h:KP (fun g=>N8 g c) l=0):l.map (YA c)=l.map Ol:=by refine ED fun g hg=> ?_;have:=Zl h g hg;unfold YA;rw[show N8 g c=0 from this];rfl
def Me (l:List Gn):Bs:=(l.map Ol).flatten
def Abb (l:List Gn):Bs×Int:=bif l.isEmpty then([],7)else bif decide (16<l.length)then([],2)else bif QZ l false != 0 then([],QZ l false)else(Me l,0)
def zC {l:List Gn} {c:Bool} (h:KP (fun g=>N8 g c) l=0) (h16:l.length<=16):(Me l).length<=71968:=by have:=Oa (g:=Ol) (M:=4498) (l:=l) (fun g hg=>Yj (c:=c) (Zl h g hg));unfold Me;omega
def Ya (N:Nat) (l:List Gn) (hN:1048578<N) (hs:LZ l):NF N l=some (Abb l):=by
 unfold NF Abb YB;try simp only[clR]
 rw[len0,show decide (((l.length:Nat):Int)>16)=decide (16<l.length)from S9 _ 16];cases he:l.isEmpty with
 | true=>rfl
 | false =>
  rw[cond_false,cond_false];by_cases h16:16<l.length
  .rw[Di h16];rfl
  .rw[Dn h16,cond_false,cond_false,Jr];show Jz _ N _ _=_;refine(pJ (mk:=fun i t=>(t,(i:Int))) l (0,[],[]) (fun g=>N8 g false) (YA false) (fun e=>some ([],e)) (fun t=>some (t,0)) ?_ ?_ N).trans ?_
   .intro i t hi ht k;have hg:=Xu N _ false hN (hs _ (getD_mem (0,[],[]) hi));have hl:=Oa (g:=YA false) (M:=4498) (l:=l) (fun g _=>Ahu false g);rw[Arx]at hg;simp (disch:=omega) only[JZ,hg,KU]
   .intro t k;simp (disch:=omega) only[JZ]
   .unfold QZ;rw[<- Oe];refine U1 fun h=> ?_;rw[Ahv (by simpa using h)];rfl
def tN (N:Nat) (l:List Gn) (hN:1048578<N) (hs:LZ l):Qw N l=some (Abb l):=by
 unfold Qw Abb;try simp only[clR]
 rw[len0,show decide (((l.length:Nat):Int)>16)=decide (16<l.length)from S9 _ 16];cases he:l.isEmpty with
 | true=>rfl
 | false =>
  rw[cond_false,cond_false];by_cases h16:16<l.length
  .rw[Di h16];rfl
  .rw[Dn h16,cond_false,cond_false];refine(pJ (mk:=fun i t=>(t,(i:Int))) l (0,[],[]) (fun g=>N8 g false) (YA false) (fun e=>some ([],e)) (fun t=>some (t,0)) ?_ ?_ N).trans ?_
   .intro i t hi ht k;have hg:=Acp N _ false hN (hs _ (getD_mem (0,[],[]) hi));have hl:=Oa (g:=YA false) (M:=4498) (l:=l) (fun g _=>Ahu false g);rw[Arx]at hg;simp (disch:=omega) only[JZ,hg,KU]
   .intro t k;simp (disch:=omega) only[JZ]
   .unfold QZ;rw[<- Oe];refine U1 fun h=> ?_;rw[Ahv (by simpa using h)];rfl
def kN (t:Nat) (c:Bs):Bs×Int:=((KJ t c).getD [],if(KJ t c).isNone then 2 else 0)
def flB (n:Int):Bs:=((QG 70 n).getD ([],0)).1
def flags_all (M:Nat): ∀ n:Fin 512,QG (M+70) (n.val:Int)=some (flB (n.val:Int),0)/\V4 (M+70) (n.val:Int)=some (flB (n.val:Int),0)/\(flB (n.val:Int)).length<=3 :=
 D9 (by kernel_rfl)
def Y4 (N:Nat) (n:Int) (hN:1048578<N) (h0:0<=n) (h1:n<512):QG N n=some (flB n,0)/\V4 N n=some (flB n,0)/\(flB n).length<=3:=by
 obtain⟨M,rfl⟩: ∃ M,N=M+70:=⟨N - 70,by omega⟩
 have:=flags_all M ⟨n.toNat,by omega⟩;rw[show((⟨n.toNat,by omega⟩:Fin 512).val:Int)=n from GY h0]at this;exact this
def Ld (n:Int):List Int:=[48+n / 10,48+n % 10]
def AuU (N:Nat) (hN:16<N) (a b c d e:Int) (ha:0<=a/\a<=99) (hb:0<=b/\b<=99) (hc:0<=c/\c<=99) (hd:0<=d/\d<=99) (he:0<=e/\e<=99) (l:List Int) (hl:l.length<=100) {ρ :Type} (kx:List Int->Option ρ) :
 Jz (X:=Int×List Int×List Int) (Y:=(List Int)) (U3 fun t40b l42496b l1000000b k2 x3 =>
  bif decide (t40b<(5:Int))then(chk (decide ((0:Int)<=t40b)) <|
  chk (decide (t40b<(l42496b.length:Int))) <|
  chk (decide (t40b.toNat<l42496b.length)) <|
  Jq (Qe N l1000000b (l42496b.getD t40b.toNat 0) 2) fun r46 =>
  k2 (i64.wrap (t40b+(1:Int)),l42496b,r46))
  else(x3 l1000000b)) N (0,[a,b,c,d,e],l) kx=kx (l++(Ld a++(Ld b++(Ld c++(Ld d++Ld e))))):=by
 obtain⟨M,rfl⟩: ∃ M,N=M+8:=⟨N - 8,by omega⟩
 have hN':16<M+8:=hN
 have g: ∀(i:Int) (l:List Int) (v:Int) (n:Nat),i=(n:Int)->n<5->([a,b,c,d,e]:List Int).getD n 0=v->0<=v/\v<=99->l.length<=110-> ∀ F,Jz (X:=Int×List Int×List Int) (Y:=(List Int)) (U3 fun t40b l42496b l1000000b k2 x3 =>
  bif decide (t40b<(5:Int))then(chk (decide ((0:Int)<=t40b)) <|
  chk (decide (t40b<(l42496b.length:Int))) <|
  chk (decide (t40b.toNat<l42496b.length)) <|
  Jq (Qe (M+8) l1000000b (l42496b.getD t40b.toNat 0) 2) fun r46 =>
  k2 (i64.wrap (t40b+(1:Int)),l42496b,r46))
  else(x3 l1000000b)) (F+1) (i,[a,b,c,d,e],l) kx=Jz (X:=Int×List Int×List Int) (Y:=(List Int)) (U3 fun t40b l42496b l1000000b k2 x3 =>
  bif decide (t40b<(5:Int))then(chk (decide ((0:Int)<=t40b)) <|
  chk (decide (t40b<(l42496b.length:Int))) <|
  chk (decide (t40b.toNat<l42496b.length)) <|
  Jq (Qe (M+8) l1000000b (l42496b.getD t40b.toNat 0) 2) fun r46 =>
  k2 (i64.wrap (t40b+(1:Int)),l42496b,r46))
  else(x3 l1000000b)) F (i+1,[a,b,c,d,e],l++Ld v) kx:=by
  intro i l v n hi hn hv h99 hl F;have h5:([a,b,c,d,e]:List Int).length=5:=rfl;rw[Ls];dsimp only[U3];rw[h5,Di,cond_true,Di,Jv,Di,Jv,Di,Jv,show i.toNat=n by omega,hv,Ag9 _ hN' l v h99.1 h99.2 (by omega),Jr,w64];rfl
 have ll: ∀(l:List Int) (v:Int),(l++Ld v).length=l.length+2:=fun l v=>by rw[Dx];rfl
 rw[g 0 l a 0 rfl (by omega) rfl ha (by omega),g (0+1) _ b 1 rfl (by omega) rfl hb (by rw[ll];omega),g (0+1+1) _ c 2 rfl (by omega) rfl hc (by rw[ll,ll];omega),g (0+1+1+1) _ d 3 rfl (by omega) rfl hd (by rw[ll,ll,ll];omega),g (0+1+1+1+1) _ e 4 rfl (by omega) rfl he (by rw[ll,ll,ll,ll];omega),Ls];dsimp only[U3];rw[Ay8,cond_false];refine congrArg kx ?_;simp only[Ej]
def xX (x:Int):Prop:=48<=x/\x<=57
def dC {n:Int} (h:0<=n/\n<=99): ∀ x∈Ld n,xX x:=by intro x hx;simp only[Ld,D6,Fv,Hl]at hx;unfold xX;rcases hx with rfl | rfl<;>omega
def Aki {l:List Int} (h: ∀ x∈l,xX x):List.all l isByte=true:=by rw[DD];intro x hx;have:=h x hx;unfold xX at this;unfold isByte;simp;omega
section
variable (N:Nat) (hN:1048578<N)
include hN
theorem AlP (t:Nat) (l:List Bs) (ht:t<256) (h31:t % 32≠31) (hl:l.length<=1000) (hs:l.flatten.length<=131072):Rj N (t:Int) l=some (Sp.elem t l.flatten,0):=by rw[ZM N t l ht h31,RY hs];rfl
theorem As6 (t:Int) (h0:0<=t) (h1:t<=254033452799): ∃ b,MF N t=some (b,0)/\Lc N t=some (b,0)/\b.length<=30/\ ∃ k c,b=Sp.elem k c/\(k=23\/k=24)/\c.length<=25:=by
 obtain⟨⟨⟨y,mo,da,h,mi,s⟩,e⟩,hC,hok,he⟩:=Aq2 N hN t h0 h1;dsimp only at he;subst he;obtain⟨⟨y0,y1⟩,⟨mo0,mo1⟩,⟨da0,da1⟩,⟨hh0,hh1⟩,⟨mi0,mi1⟩,s0,s1⟩:=hok;dsimp only at y0 y1 mo0 mo1 da0 da1 hh0 hh1 mi0 mi1 s0 s1;have hC':=(Aoj N t h0 h1).trans hC;have h16:16<N:=by omega
 have hy:0<=y.tmod 100/\y.tmod 100<=99:=by rw[DU (by omega)];omega
 have T: ∀ x:Int,0<=x/\x<=99->NV N x 2=some ((Ld x).map Vm.byteOf):=fun x hx=>AvG N h16 x hx.1 hx.2;have hl2: ∀ x:Int,((Ld x).map Vm.byteOf).length=2:=fun x=>rfl
 have ten: ∀ pre:List Int,(∀ x∈pre,xX x)-> ∀ x∈pre++(Ld mo++(Ld da++(Ld h++(Ld mi++Ld s)))),xX x:=by
  intro pre hp x hx;simp only[DJ]at hx;rcases hx with hx | hx | hx | hx | hx | hx
  .exact hp x hx
  .exact dC (by omega) x hx
  .exact dC (by omega) x hx
  .exact dC (by omega) x hx
  .exact dC (by omega) x hx
  .exact dC (by omega) x hx
 by_cases hY:y<2050
 .refine⟨Sp.elem 23 ((Ld (y.tmod 100)++(Ld mo++(Ld da++(Ld h++(Ld mi++Ld s))))).map Vm.byteOf++[90]),?_,?_,?_,23,_,rfl,.inl rfl,by simp [Ld]⟩
  .unfold MF;try simp -zeta only[Ap]
   rw[hC,Jr];dsimp only;rw[show((0:Int) != 0)=false from rfl,cond_false,Ag9 N h16 [] _ hy.1 hy.2 (by simp),Jr,NU];rw[Ay8,cond_false];dsimp only[U8];rw[AuU N h16 mo da h mi s (by omega) (by omega) (by omega) (by omega) (by omega) _ (by simp)];rw[List.nil_append];rw[show([48+y.tmod 100 / 10,48+y.tmod 100 % 10]:List Int)=Ld (y.tmod 100)from rfl,Aki (ten _ (dC hy)),Jv];rw[show(23:Int)=((23:Nat):Int)from rfl,gW N 23 _ (by omega) (by omega) hN (by simp) (by simp [Ld]),Jr];simp [Ld]
  .unfold Lc;try simp -zeta only[Ap]
   rw[hC',Jr];dsimp only;rw[show((0:Int) != 0)=false from rfl,cond_false,T mo (by omega),Jr,T da (by omega),Jr,T h (by omega),T mi (by omega),T s (by omega),T _ hy];simp only[Jr,Dx,hl2];rw[Di hY,cond_true];simp only[List.length_singleton,Gf,Jv];rw[show(23:Int)=((23:Nat):Int)from rfl,AlP N hN 23 _ (by omega) (by omega) (by simp) (by simp [Ld]),Jr];simp [Ld,Jv]
  .have:=Sp.JO 23 ((Ld (y.tmod 100)++(Ld mo++(Ld da++(Ld h++(Ld mi++Ld s))))).map Vm.byteOf++[90]);simp [Ld]at this ⊢;omega
 .have f4: ∀ x∈([48+y / 1000,48+y / 100 % 10,48+y / 10 % 10,48+y % 10]:List Int),xX x:=by
   intro x hx;simp only[D6,Fv,Hl]at hx;unfold xX;rcases hx with rfl | rfl | rfl | rfl<;>omega
  refine⟨Sp.elem 24 (([48+y / 1000,48+y / 100 % 10,48+y / 10 % 10,48+y % 10]++(Ld mo++(Ld da++(Ld h++(Ld mi++Ld s))))).map Vm.byteOf++[90]),?_,?_,?_,24,_,rfl,.inr rfl,by simp [Ld]⟩
  .unfold MF;try simp -zeta only[Ap]
   rw[hC,Jr];dsimp only;rw[show((0:Int) != 0)=false from rfl,cond_false,Ag9 N h16 [] _ hy.1 hy.2 (by simp),Jr,NU];rw[Di,cond_true,AvJ N h16 y (by omega) (by omega),Jr];dsimp only[U8];rw[AuU N h16 mo da h mi s (by omega) (by omega) (by omega) (by omega) (by omega) _ (by simp)];rw[Aki (ten _ f4),Jv];rw[show(24:Int)=((24:Nat):Int)from rfl,gW N 24 _ (by omega) (by omega) hN (by simp) (by simp [Ld]),Jr];simp [Ld]
  .unfold Lc;try simp -zeta only[Ap]
   rw[hC',Jr];dsimp only;rw[show((0:Int) != 0)=false from rfl,cond_false,T mo (by omega),Jr,T da (by omega),Jr,T h (by omega),T mi (by omega),T s (by omega),AvH N h16 y (by omega) (by omega)];simp only[Jr,Dx,hl2];rw[Dn hY,cond_false];simp only[List.length_singleton,Gf,Jv,D5,List.length_cons,List.length_nil];rw[show(24:Int)=((24:Nat):Int)from rfl,AlP N hN 24 _ (by omega) (by omega) (by simp) (by simp [Ld]),Jr];simp [Ld,Jv]
  .have:=Sp.JO 24 (([48+y / 1000,48+y / 100 % 10,48+y / 10 % 10,48+y % 10]++(Ld mo++(Ld da++(Ld h++(Ld mi++Ld s))))).map Vm.byteOf++[90]);simp [Ld]at this ⊢;omega
def wO:Bs:=(Nh 300).getD []
def AuH (M:Nat):Bool:=Nh (M+300)==some wO&&Rk (M+300)==some wO
omit hN in
theorem Avi (M:Nat):AuH M=true:=by kernel_rfl
omit hN in
theorem AsQ (M:Nat):Nh (M+300)=some wO/\Rk (M+300)=some wO:=by have h:=Avi M;unfold AuH at h;rw[Du,EI,EI]at h;exact h
omit hN in
theorem AsR:wO.length<=40:=by decide +kernel
theorem AnH:Nh N=some wO/\Rk N=some wO:=by
 obtain⟨M,rfl⟩: ∃ M,N=M+300:=⟨N - 300,by omega⟩
 exact AsQ M
omit hN in
theorem Abh (v:Int) (h1: -9223372036854775808<=v) (h2:v<=9223372036854775807):(Sp.LC v).length<=8:=by obtain⟨k,hk7,hf,hm⟩:=Sp.Aeg v 7 (Sp.AuP v h1 h2);rw[Sp.uP v k hk7 hf hm,Sp.ZA];omega
def ZI (v:Int):Bs:=Sp.elem 2 (Sp.LC v)
theorem QD (v:Int) (h1: -9223372036854775808<=v:=by omega) (h2:v<=9223372036854775807:=by omega):(∀ b,MX N b v=some (ZI v,b))/\LH N 2 v=some (ZI v)/\(ZI v).length<=13:=by
 have hl:=Abh v h1 h2;refine⟨fun b=> ?_,?_,?_⟩
 .unfold MX;rw[Zo N v (by omega) h1 h2,Jr,show(2:Int)=((2:Nat):Int)from rfl,ZT N 2 b _ (by omega) (by omega) hN (by simp) (by rw[JR];omega),Jr,JR];rfl
 .unfold LH;rw[aI N v (by omega),Jr,show(2:Int)=((2:Nat):Int)from rfl,RX N 2 _ (by omega) (by omega) hN (by simp) (by rw[JR];omega),Jr,JR];rfl
 .have:=Sp.JO 2 (Sp.LC v);unfold ZI;omega
end
def zE:Ex:=([],false,[])
def Q8 (k:Bs) (x:Ex):Bool:=x.1==k
def dY (k:Bs) (l:List Ex):Option Int:=Option.map (fun n:Nat=>(n:Int)) (l.findIdx? (Q8 k))
def Afg (a b:Bs):(Ty.str .nil).same a b=(a==b):=by show((a==b)&&true)=_;rw[FK]
def Aua (k k':Bs) (v:Int): ∀ M:List (Bs×Int),O9 (.str .nil) k (VG (.str .nil) k' v M)=bif k'==k then some v else O9 (.str .nil) k M:=by
 intro M
 induction M with
 | nil =>show(bif (Ty.str .nil).same k k' then some v else none)=_;rw[Afg,IK];rfl
 | cons p r ih =>
  show O9 (.str .nil) k (bif (Ty.str .nil).same k' p.1 then(p.1,v)::r else p::VG (.str .nil) k' v r)=bif k'==k then some v else(bif (Ty.str .nil).same k p.1 then some p.2 else O9 (.str .nil) k r);rw[Afg,Afg];by_cases h1:k'=p.1
  .have e1:(k'==p.1)=true:=EI.2 h1;rw[e1,cond_true];show(bif (Ty.str .nil).same k p.1 then some v else O9 (.str .nil) k r)=_;rw[Afg];by_cases h2:k=p.1
   .rw[EI.2 h2,EI.2 (h1.trans h2.symm)];rfl
   .rw[Ed h2,Ed (fun e=>h2 (e.symm.trans h1))];rfl
  .rw[Ed h1,cond_false];show(bif (Ty.str .nil).same k p.1 then some p.2 else O9 (.str .nil) k (VG (.str .nil) k' v r))=_;rw[Afg,ih];by_cases h2:k=p.1
   .rw[EI.2 h2,Ed (fun e=>h1 (e.trans h2))];rfl
   .rw[Ed h2];rfl
def Ahr (k:Bs) (l:List Ex) (x:Ex):dY k (l++[x])=match dY k l with | some j=>some j | none=>bif x.1==k then some (l.length:Int)else none:=by
 unfold dY;rw[IJ];cases h:l.findIdx? (Q8 k)with
 | some j=>rfl
 | none =>
  rw[Jf];show Option.map _ (Option.map _ (if Q8 k x=true then some 0 else _))=bif Q8 k x then _ else _;cases Q8 k x with
  | true=>simp
  | false=>rfl
section
variable (N:Nat) (hN:1048578<N)
include hN
theorem AtG (l:List Ex) (hl:l.length<=1048576): ∃ M,jB N l=some M/\ ∀ k:Bs,O9 (.str .nil) k M=dY k l:=by
 unfold jB;try simp only[clR]
 have key: ∀(n i F:Nat) (M:List (Bs×Int)),i+n=l.length->n<F->(∀ k:Bs,O9 (.str .nil) k M=dY k (l.take i))-> ∃ M',Jz (X:=Int×List (Bs×Int)) (Y:=(List (Bs×Int))) (U2 fun t11a m34816a k1 x2 =>
  bif decide (t11a<(l.length:Int))then(chk (decide ((0:Int)<=t11a)) <|
  chk (decide (t11a<(l.length:Int))) <|
  let x21:Int:=((O9 (.str .nil) ((l.getD t11a.toNat (([]:Bs),false,([]:Bs))).1) m34816a).getD 0)
  let x22:Bool:=(O9 (.str .nil) ((l.getD t11a.toNat (([]:Bs),false,([]:Bs))).1) m34816a).isSome
  bif !x22 then(let y34816:List (Bs×Int):=VG (.str .nil) ((l.getD t11a.toNat (([]:Bs),false,([]:Bs))).1) t11a m34816a
  k1 (i64.wrap (t11a+(1:Int)),y34816))
  else(k1 (i64.wrap (t11a+(1:Int)),m34816a)))
  else(x2 m34816a)) F ((i:Int),M) (fun m34816b=>some m34816b)=some M'/\ ∀ k:Bs,O9 (.str .nil) k M'=dY k l:=by
  intro n
  induction n with
  | zero =>
   intro i F M hi hF hM;obtain⟨F,rfl⟩: ∃ G,F=G+1:=⟨F - 1,by omega⟩
   refine⟨M,?_,fun k=> ?_⟩
   .rw[Ls];dsimp only[U2];rw[Ay8,cond_false]
   .rw[hM k,Fb (by omega)]
  | succ n ih =>
   intro i F M hi hF hM;obtain⟨F,rfl⟩: ∃ G,F=G+1:=⟨F - 1,by omega⟩
   have hlt:i<l.length:=by omega
   rw[Ls];dsimp only[U2];rw[Di,cond_true,Di,Jv,Jv,Int.toNat_natCast,w64];have ht:l.take (i+1)=l.take i++[l.getD i zE]:=by rw[FC,DC hlt,getD_lt l i zE hlt];rfl
   have hlen:(l.take i).length=i:=by rw[DZ];omega
   cases hf:dY (l.getD i zE).1 (l.take i)with
   | some j =>
    have e1:O9 (.str .nil) (l.getD i ([],false,[])).1 M=some j:=(hM _).trans hf;simp only[e1,Option.isSome_some,Eh,cond_false];refine ih (i+1) F M (by omega) (by omega) fun k=> ?_;rw[hM k,ht,Ahr];cases hk:dY k (l.take i)with
    | some _=>rfl
    | none =>
     by_cases e:(l.getD i zE).1=k
     .rw[e]at hf;rw[hf]at hk;cases hk
     .rw[Ed e];rfl
   | none =>
    have e1:O9 (.str .nil) (l.getD i ([],false,[])).1 M=none:=(hM _).trans hf;simp only[e1,Option.isSome_none,DY,cond_true];refine ih (i+1) F (VG (.str .nil) (l.getD i zE).1 (i:Int) M) (by omega) (by omega) fun k=> ?_;rw[Aua,hM k,ht,Ahr,hlen];by_cases e:(l.getD i zE).1=k
    .rw[e]at hf;rw[EI.2 e,hf]
    .rw[Ed e];cases dY k (l.take i)<;>rfl
 exact key l.length 0 N [] (by omega) (by omega) (fun k=>rfl)
def exI (l:List Ex) (i:Nat):Int:=bif !SX (l.getD i zE).1 then 11 else bif (l.take i).any (Q8 (l.getD i zE).1)then 10 else Sp.chk (l.getD i zE).2.2
def UG (l:List Ex):Int:=bif l.isEmpty then 7 else bif decide (24<l.length)then 2 else KP (exI l) (List.range l.length)
omit hN in
theorem Av1 (l:List Ex) (i:Nat) (hi:i<l.length): ∃ j:Nat,dY (l.getD i zE).1 l=some (j:Int)/\decide ((j:Int)<(i:Int))=(l.take i).any (Q8 (l.getD i zE).1):=by
 generalize hk:(l.getD i zE).1=k;have hs:Q8 k (l[i])=true:=by rw[<- getD_lt l i zE hi];exact EI.2 hk
 unfold dY;have e:l=l.take i++(l[i]::l.drop (i+1)):=by rw[<- Ep hi,GM]
 have e2:l.findIdx? (Q8 k)=(l.take i++(l[i]::l.drop (i+1))).findIdx? (Q8 k):=congrArg (List.findIdx? (Q8 k)) e;rw[e2,IJ];have ha:=List.findIdx?_isSome (xs:=l.take i) (p:=Q8 k);cases h:(l.take i).findIdx? (Q8 k)with
 | some j =>rw[h]at ha;have hj:=(List.findIdx?_eq_some_iff_findIdx_eq.1 h).1;rw[DZ]at hj;refine⟨j,rfl,?_⟩;rw[<- ha,Di];rfl
 | none =>
  rw[h]at ha;refine⟨i,?_,?_⟩
  .rw[Jf,Dp hs,DZ];show some (((0+min i l.length:Nat)):Int)=some (i:Int);rw[show 0+min i l.length=i by omega]
  .rw[<- ha,Ay8];rfl
theorem Akv (l:List Ex) (hs: ∀ x∈l,VT x):Ze N l=some (UG l):=by
 unfold Ze UG;try simp only[clR]
 rw[len0];cases l.isEmpty with
 | true=>rfl
 | false =>
  rw[cond_false,cond_false,show decide ((l.length:Int)>24)=decide (24<l.length)from S9 _ 24];by_cases h24:24<l.length
  .rw[Di h24];rfl
  rw[Dn h24,cond_false,cond_false];obtain⟨M,hM,hk⟩:=AtG N hN l (by omega);rw[hM,Jr];refine(aV (mk:=fun i=>((i:Int),M)) l.length (exI l) (fun e=>some e) (some 0) ?_ ?_ N).trans (first_some _)
  .intro i hi k;dsimp only[U2];obtain⟨j,hj,hd⟩:=Av1 l i hi;have hx:=hs _ (getD_mem zE hi);rw[Di,cond_true,Di,Jv,Jv,Int.toNat_natCast,w64];show Jq (UQ N (l.getD i zE).1) _=_;rw[Ali N _ hN hx.1,Jr];unfold exI;cases SX (l.getD i zE).1 with
   | false=>rfl
   | true =>have e1:O9 (.str .nil) (l.getD i ([],false,[])).1 M=some (j:Int):=(hk _).trans hj;simp only[e1];show(bif decide ((j:Int)<(i:Int))then some 10 else Jq (Z4 N (l.getD i zE).2.2) _)=_;have h2:(l.getD i zE).2.2.length<=1048576:=hx.2;rw[hd,Amd N _ (by omega) (by omega) (by omega),Jr];cases (l.take i).any (Q8 (l.getD i zE).1)<;>rfl
  .intro k;dsimp only[U2];rw[Ay8];rfl
theorem Aj4 (l:List Ex) (hs: ∀ x∈l,VT x):P5 N l=some (UG l):=by
 unfold P5 UG;rw[len0];cases l.isEmpty with
 | true=>rfl
 | false =>
  rw[cond_false,cond_false,show decide ((l.length:Int)>24)=decide (24<l.length)from S9 _ 24];by_cases h24:24<l.length
  .rw[Di h24];rfl
  rw[Dn h24,cond_false,cond_false];unfold XO;try simp -zeta only[Ap]
  refine(congrArg (fun o=>Jq o fun r10=>some r10) ((aV (mk:=fun i=>(i:Int)) l.length (exI l) (fun e=>some e) (some 0) ?_ ?_ N).trans (first_some _))).trans rfl
  .intro i hi k;dsimp only;have hx:=hs _ (getD_mem zE hi);rw[Di,cond_true,Di (show(0:Int)<=(i:Int) by omega),Jv,Jv,Int.toNat_natCast,w64];show Jq (OQ N (l.getD i zE).1) _=_;rw[Aml N _ hN hx.1,Jr];unfold exI;cases SX (l.getD i zE).1 with
   | false=>rfl
   | true =>show chk (decide ((0:Int)<=(i:Int))) (chk (decide ((i:Int)<=(l.length:Int))) (Jq (XN N (J6 l 0 i) (l.getD i zE).1) _))=_;rw[Di,Jv,Di,Jv,xQ];obtain⟨r,hr⟩:=Ave N (l.take i) (l.getD i zE).1 (by rw[DZ];omega) (by rw[DZ];omega);rw[hr,Jr];show(bif (l.take i).any (Q8 (l.getD i zE).1)then some 10 else Jq (VQ N (l.getD i zE).2.2) _)=_;have h2:(l.getD i zE).2.2.length<=1048576:=hx.2;all_goals grind[AgC,Jr,Q8,zE]
  .intro k;dsimp only;rw[Ay8];rfl
def XB (x:Ex) (v:Bs):Bs:=Sp.elem 6 (NJ x.1)++((bif x.2.1 then Sp.elem 1 [255]else [])++v)
def OO (x:Ex):Option Bs:=(KJ 4 x.2.2).bind fun v=>KJ 48 (XB x v)
theorem Akq (x:Ex) (hs:VT x) (h:SX x.1=true): ∃ e,TU N x=some ((OO x).getD [],e)/\(e != 0)=(OO x).isNone:=by
 obtain⟨hc,hl⟩:=WX h;have h0:(NJ x.1).length<=131072:=by omega
 have hE:TB N x.1=some (NJ x.1,0):=by rw[uO N x.1 (by omega) hs.1,hc]
 unfold TU OO;try simp -zeta only[Ap]
 rw[hE,Jr];dsimp only;rw[show((0:Int) != 0)=false from rfl,cond_false,show(6:Int)=((6:Nat):Int)from rfl,gW N 6 _ (by omega) (by omega) hN (by simp) (by rw[JR];omega),Jr,JR];dsimp only;rw[show((0:Int) != 0)=false from rfl,cond_false]
 have fin: ∀ c:Bs,(c=bif x.2.1 then Sp.elem 1 [255]else [])-> ∃ e,(Jq (KI N 4 [x.2.2]) fun r46=>chk (decide ((2:Int)<(([Sp.elem 6 (NJ x.1),c,[]]:List Bs).length:Int)))<|chk (decide (2<([Sp.elem 6 (NJ x.1),c,[]]:List Bs).length)) <|
  bif (r46.2 != (0:Int))then(some (([]:Bs),r46.2))else(Jq (KI N 48 (([Sp.elem 6 (NJ x.1),c,[]]:List Bs).set 2 r46.1)) fun r54=>some (r54.1,r54.2)))=some (((KJ 4 x.2.2).bind fun v=>KJ 48 (XB x v)).getD [],e)/\(e != 0)=((KJ 4 x.2.2).bind fun v=>KJ 48 (XB x v)).isNone:=by
  intro c hc;rw[show(4:Int)=((4:Nat):Int)from rfl,VV N 4 _ (by omega) (by omega) (by simp;omega) (by simp),Jr,JR];rw[show decide ((2:Int)<(([Sp.elem 6 (NJ x.1),c,[]]:List Bs).length:Int))=true from rfl,Jv,show decide (2<([Sp.elem 6 (NJ x.1),c,[]]:List Bs).length)=true from rfl,Jv];cases hw:KJ 4 x.2.2 with
  | none=>exact⟨6,rfl,rfl⟩
  | some v =>dsimp only;show ∃ e,(Jq (KI N 48 [Sp.elem 6 (NJ x.1),c,v]) fun r54=>some (r54.1,r54.2))=some ((KJ 48 (XB x v)).getD [],e)/\_;rw[show(48:Int)=((48:Nat):Int)from rfl,VV N 48 _ (by omega) (by omega) (by simp;omega) (by simp),Jr,flat3,hc];refine⟨_,rfl,?_⟩;all_goals grind[KJ,XB]
 cases hb:x.2.1 with
 | true =>rw[NU,cond_true];have hp:Rf N true=some [255]:=rfl;rw[hp,Jr,show(1:Int)=((1:Nat):Int)from rfl,gW N 1 _ (by omega) (by omega) hN (by simp) (by rw[JR];decide),Jr,JR];dsimp only;rw[show((0:Int) != 0)=false from rfl,cond_false];exact fin (Sp.elem 1 [255]) (by rw[hb];rfl)
 | false =>rw[NU,cond_false];exact fin [] (by rw[hb];rfl)
def Oi (l:List Ex):Bs×Int:=bif UG l != 0 then([],UG l)else bif l.any (fun x=>(OO x).isNone)then([],2)else kN 48 (l.map fun x=>(OO x).getD []).flatten
omit hN in
theorem Agi {l:List Ex} (h:UG l=0):l≠ []/\l.length<=24/\ ∀ x∈l,SX x.1=true:=by
 unfold UG at h;cases he:l.isEmpty with
 | true=>rw[he]at h;cases h
 | false =>
  rw[he,cond_false]at h;by_cases h24:24<l.length
  .simp_all[Ex,UG,SX]
  .rw[Dn h24,cond_false]at h;refine⟨(fun e=>by rw[e]at he;cases he),by omega,fun x hx=> ?_⟩;obtain⟨i,hi,rfl⟩:=FT.1 hx;have h1:=Zl h i (GK.2 hi);all_goals grind[exI,getD_lt,zE,hi,SX]
omit hN in
theorem Auf (x:Ex):((OO x).getD []).length<=131077:=by grind[OO,KJ,Xd]
omit hN in
theorem Ars (l:List Ex):KP (fun x=>bif (OO x).isNone then(2:Int)else 0) l=bif l.any (fun x=>(OO x).isNone)then 2 else 0:=by
 induction l with
 | nil=>rfl
 | cons x r ih=>grind[RN,OO]
theorem uJ (l:List Ex) (hs: ∀ x∈l,VT x):Vr N l=some (Oi l):=by
 unfold Vr Oi;try simp -zeta only[Ap]
 rw[Akv N hN l hs,Jr];by_cases h0:UG l=0
 .obtain⟨h1,h2,h3⟩:=Agi h0;rw[h0,show((0:Int) != 0)=false from rfl,cond_false,cond_false];refine(AkA (mk:=fun i acc=>((i:Int),acc)) l zE (fun x=>bif (OO x).isNone then(2:Int)else 0) (fun x=>(OO x).getD []) (fun _=>some ([],2)) (fun ls=>some (kN 48 ls.flatten)) ?_ ?_ N (by omega)).trans ?_
  .intro i acc hi ha k;dsimp only[U2];have hm:=getD_mem zE hi;rw[Di,cond_true,Di (show(0:Int)<=(i:Int) by omega),Jv,Jv,Int.toNat_natCast];obtain⟨e,he,hn⟩:=Akq N hN (l.getD i zE) (hs _ hm) (h3 _ hm);show Jq (TU N (l.getD i zE)) _=_;rw[he,Jr];dsimp only;rw[hn,Di,Jv,w64];cases (OO (l.getD i zE)).isNone<;>rfl
  .intro acc k ha;dsimp only[U2];rw[Ay8,cond_false,show(48:Int)=((48:Nat):Int)from rfl,VV N 48 _ (by omega) (by omega),Jr];unfold kN;cases KJ 48 acc.flatten<;>rfl
  .rw[Ars];cases l.any (fun x=>(OO x).isNone)<;>rfl
 .rw[show(UG l != 0)=true from Ey.2 h0];rfl
theorem tK (l:List Ex) (hs: ∀ x∈l,VT x):MH N l=some (Oi l):=by
 unfold MH Oi;try simp -zeta only[Ap]
 rw[Aj4 N hN l hs,Jr];by_cases h0:UG l=0
 .obtain⟨h1,h2,h3⟩:=Agi h0;rw[h0,show((0:Int) != 0)=false from rfl,cond_false,cond_false];have hfl:(l.map fun x=>(OO x).getD []).flatten.length<=131077*l.length:=Oa fun x _=>Auf x;refine(pJ (mk:=fun i t=>(t,(i:Int))) l zE (fun x=>bif (OO x).isNone then(2:Int)else 0) (fun x=>(OO x).getD []) (fun _=>some ([],2)) (fun t=>Jq (MI N 48 [t]) fun r57=>some (r57.1,r57.2)) ?_ ?_ N).trans ?_
  .intro i t hi ht k;dsimp only[U2];have hm:=getD_mem zE hi;have hx:=hs _ hm;have hv:=h3 _ hm;rw[Di,cond_true,Di (show(0:Int)<=(i:Int) by omega),Jv,Jv,Int.toNat_natCast];have e:l.getD i ([],false,[])=l.getD i zE:=rfl;rw[e];generalize l.getD i zE=x at hx hv ht ⊢;obtain⟨hc,hl⟩:=WX hv;have h22:x.2.2.length<=1048576:=hx.2
   have fin: ∀ c:Bs,(c=bif x.2.1 then Sp.elem 1 [255]else [])->(Jq (MI N 4 ([x.2.2]:List Bs)) fun r32 =>
    bif (r32.2 != (0:Int))then(some (([]:Bs),r32.2))
    else(Jq (UU N x.1) fun r41 =>
    Jq (MI N 48 ([r41,c,r32.1]:List Bs)) fun r45 =>
    bif (r45.2 != (0:Int))then(some (([]:Bs),r45.2))
    else(chk (decide (t.length+r45.1.length<=140737488355328)) <|
    k (t++r45.1,i64.wrap ((i:Int)+(1:Int))))))=bif (bif (OO x).isNone then(2:Int)else 0) != 0 then some ([],2)else k (t++(OO x).getD [],((i+1:Nat):Int)):=by
    intro c hc';have hcl:c.length<=10:=by rw[hc'];cases x.2.1<;>decide
    rw[show(4:Int)=((4:Nat):Int)from rfl,YV N 4 _ (by omega) (by omega) (by simp;omega) (by simp) (by rw[JR];omega),Jr,JR];unfold OO at ht ⊢;cases hw:KJ 4 x.2.2 with
    | none=>rfl
    | some v =>
     have hvl:v.length<=131077:=by have:=Xd (t:=4) (c:=x.2.2);rw[hw]at this;exact this
     dsimp only;rw[hw]at ht;have h6:=Sp.JO 6 (NJ x.1);rw[show((if(some v).isNone=true then(2:Int)else 0) != 0)=false from rfl,cond_false,show(some v).getD ([]:Bs)=v from rfl];rw[Afe N x.1 hN hx.1 hv,Jr,show(48:Int)=((48:Nat):Int)from rfl,YV N 48 _ (by omega) (by omega) (by simp;omega) (by simp) (by rw[flat3,Dx,Dx];omega),Jr,flat3,hc'];have ho:(some v).bind (fun v=>KJ 48 (XB x v))=KJ 48 (XB x v):=rfl;rw[ho]at ht ⊢;rw[show Sp.elem 6 (NJ x.1)++((bif x.2.1 then Sp.elem 1 [255]else [])++v)=XB x v from rfl];dsimp only;generalize KJ 48 (XB x v)=o at ht ⊢;cases o with
     | none=>rfl
     | some z =>have ht':t.length+z.length<=131077*l.length:=He ht hfl;show chk (decide (t.length+z.length<=140737488355328)) (k (t++z,_))=k (t++z,_);rw[Di,Jv,w64];rfl
   rw[NU];cases hb:x.2.1 with
   | true =>rw[cond_true];have hp:Qu N true=some [255]:=rfl;rw[hp,Jr,show(1:Int)=((1:Nat):Int)from rfl,RX N 1 _ (by omega) (by omega) hN (by simp) (by rw[JR];decide),Jr,JR];exact fin _ (by rw[hb];rfl)
   | false =>rw[cond_false];exact fin _ (by rw[hb];rfl)
  .intro t k;dsimp only[U2];rw[Ay8,cond_false]
  .rw[Ars];cases l.any (fun x=>(OO x).isNone)with
   | true=>rfl
   | false =>show(Jq (MI N 48 [_]) fun r57=>some (r57.1,r57.2))=some (kN 48 _);rw[show(48:Int)=((48:Nat):Int)from rfl,YV N 48 _ (by omega) (by omega) (by simp;omega) (by simp) (by rw[JR];omega),Jr,JR];rfl
 .rw[show(UG l != 0)=true from Ey.2 h0];rfl
end
def AnX {r:Int} (h0: -9223372036854775808<=r) (h1:r<=9223372036854775807) (h:J9 .andNot .i64 r 510=0):0<=r/\r<512:=by
 have e:J9 .andNot .i64 r 510=i64.wrap ((BitVec.ofInt 64 r &&& ~~~(510#64)).toNat:Int):=rfl;rw[e]at h;generalize hb:BitVec.ofInt 64 r=b at h
 have hz:(b &&& ~~~(510#64)).toNat=0:=by
  have hlt:=(b &&& ~~~(510#64)).isLt;generalize (b &&& ~~~(510#64)).toNat=n at h hlt;have e2:i64.wrap (n:Int)=if 9223372036854775808<=(n:Int) % 18446744073709551616 then(n:Int) % 18446744073709551616 - 18446744073709551616 else(n:Int) % 18446744073709551616:=by show(if(true&&decide ((n:Int) % 18446744073709551616>=9223372036854775808))=true then _ else _)=_;all_goals grind[J9]
  rw[e2]at h;split at h<;>omega
 have hz2:b &&& ~~~(510#64)=0#64:=BitVec.eq_of_toNat_eq (by rw[hz];rfl)
 have hle:b.toNat<=510:=by
  have:b=b &&& 510#64:=by
   apply BitVec.eq_of_getLsbD_eq;intro i hi;have hq:(b &&& ~~~(510#64)).getLsbD i=false:=by rw[hz2];simp
   rw[Jg,BitVec.getLsbD_not]at hq;rw[Jg];have hd:decide (i<64)=true:=Di hi;all_goals simp_all[hd,J9]
  rw[this,BitVec.toNat_and];exact Nat.and_le_right
 have hn:(b.toNat:Int)=r % 18446744073709551616:=by rw[<- hb,BitVec.toNat_ofInt];all_goals grind[J9]
 omega
def pnB (l:List Gn):Bs:=bif l.isEmpty then []else Sp.elem 160 (Sp.elem 160 (Me l))
def pfB (t:Nat) (r:Int):Bs:=bif r==0 then []else Sp.elem t (flB r)
def piB (b:Bool) (n:List (List Att)):Bs:=bif b then Sp.elem 162 (Ol (4,[],n))else []
def Qs (p:Pt):Bs:=Sp.elem 48 (pnB p.1++(pfB 129 p.2.1++piB p.2.2.1 p.2.2.2))
structure Aon (p:Pt):Prop where
 n16:p.1.length<=16
 ns:KP (fun g=>N8 g false) p.1=0
 r:0<=p.2.1/\p.2.1<512
 i:p.2.2.1=true->MN p.2.2.2=0/\p.2.2.2≠ []
 ne:p.1=[]->p.2.2.1=true
 nb:p.2.2.1=false->p.2.2.2=[]
def AwI {p:Pt} (hs:Nu p) (h:ptI p=0):Aon p:=by
 obtain⟨g,r,b,n⟩:=p;obtain⟨_,_,hr0,hr1⟩:=hs;unfold ptI at h;dsimp only at h hr0 hr1;cases h1:(g.isEmpty&& !b)||(!n.isEmpty&& !b)with
 | true=>rw[h1]at h;cases h
 | false =>
  rw[h1,cond_false]at h;cases h2:J9 .andNot .i64 r 510 != 0 with
  | true=>rw[h2]at h;cases h
  | false =>
   rw[h2,cond_false]at h;cases h3:decide (16<g.length)with
   | true=>rw[h3]at h;cases h
   | false =>
    rw[h3,cond_false]at h;cases h4:QZ g false != 0 with
    | true=>rw[h4,cond_true]at h;rw[h]at h4;cases h4
    | false =>
     rw[h4,cond_false]at h;have:=Et h3;refine⟨by dsimp only;omega,by simpa [QZ]using h4,AnX hr0 hr1 (by simpa using h2),?_,?_,?_⟩
     .intro hb;dsimp only at hb ⊢;subst hb;rw[Eh,cond_false]at h;cases h5:n.isEmpty with
      | true=>rw[h5]at h;cases h
      | false =>rw[h5,cond_false]at h;exact⟨h,by intro hn;subst hn;cases h5⟩
     .intro hg;dsimp only at hg ⊢;subst hg;cases b with
      | true=>rfl
      | false=>cases h1
     .intro hb;dsimp only at hb ⊢;subst hb;cases n with
      | nil=>rfl
      | cons x y=>simp at h1
def Ag5 {p:Pt} (h:Aon p):(pnB p.1).length<=71978/\(Me p.1).length<=71968:=by have h1:=zC h.ns h.n16;all_goals grind[Sp.JO,Me,pnB]
theorem nC {r:Int} (h:0<=r/\r<512):(flB r).length<=3:=(Y4 1048579 r (by omega) h.1 h.2).2.2
def Aob {t:Nat} {r:Int} (h:0<=r/\r<512):(pfB t r).length<=8:=by grind[nC,Sp.JO,flB,pfB]
theorem dN {n:List (List Att)} (h:MN n=0):N8 (4,[],n) false=0:=by simp_all[N8,PH,Att,MN]
def Ag4 {b:Bool} {n:List (List Att)} (h:b=true->MN n=0/\n≠ []):(piB b n).length<=4503/\(b=true->(Ol (4,[],n)).length<=4498):=by grind[piB,Yj,dN,Sp.JO,Ol]
def bG {p:Pt} (h:Aon p):(Qs p).length<=76494/\(pnB p.1++(pfB 129 p.2.1++piB p.2.2.1 p.2.2.2)).length<=76489:=by have h1:=(Ag5 h).1;have h2:=Aob (t:=129) h.r;have h3:=(Ag4 h.i).1;all_goals grind[Sp.JO,pnB,pfB,piB,Qs]
def Aoc {l:List Pt} (hs: ∀ p∈l,Nu p) (h:VH l=0):l.length<=4/\ ∀ p∈l,Aon p:=by
 unfold VH at h;cases h1:decide (4<l.length)with
 | true=>rw[h1]at h;cases h
 | false =>rw[h1,cond_false]at h;have:=Et h1;exact⟨by omega,fun p hp=>AwI (hs p hp) (Zl h p hp)⟩
def ZJ (l:List Pt):Bs×Int:=bif l.isEmpty then([],7)else bif VH l != 0 then([],VH l)else kN 48 (l.map Qs).flatten
def qW {l:List Gn} (h0:l≠ []) (h16:l.length<=16) (h:KP (fun g=>N8 g false) l=0):Abb l=(Me l,0):=by unfold Abb QZ;rw[show l.isEmpty=false by cases l with | nil=>exact absurd rfl h0 | cons _ _=>rfl,cond_false,Ay8,cond_false,h];rfl
def qC {n:List (List Att)} (h:LX n):gQ (4,[],n):=⟨EG _,h⟩
def iC (N:Nat) (l:List Pt) (hN:1048578<N) (hs: ∀ p∈l,Nu p):PN N l=some (ZJ l):=by
 unfold PN ZJ;try simp only[clR]
 rw[len0,VM N l hN hs];cases he:l.isEmpty with
 | true=>rfl
 | false =>
  rw[cond_false,cond_false,Jr,<- Oe];show(bif VH l != 0 then some ([],VH l)else _)=bif VH l != 0 then _ else _;refine U1 fun h0=> ?_;obtain⟨h4,hok⟩:=Aoc hs (by simpa using h0);refine(Yr (mk:=fun i a=>((i:Int),false,a)) l ([],0,false,[]) Qs (fun a=>Jq (Ko N false a) fun r88=>Jq (MW N r88.snd) fun r90=>bif r90.fst then some ([],2)else some (r88.fst,0)) ?_ ?_ N).trans ?_
  .intro i a hi ha k;have hsm:=hs _ (getD_mem ([],0,false,[]) hi);have hp:=hok _ (getD_mem ([],0,false,[]) hi);dsimp only[U3];rw[Int.toNat_natCast];generalize l.getD i ([],0,false,[])=p at *
   obtain⟨g,r,b,n⟩:=p;have l1:=Ag5 hp;have l2:=nC hp.r;have l3:=Ag4 hp.i;have l4:=bG hp;dsimp only at l1 l2 l3 l4;have hl160:=Sp.JO 160 (Me g);have e1: ∀ K:Bool×Bs->Option (Bs×Int),True:=fun _=>trivial;have hseq:Ko N false [pnB g,pfB 129 r,piB b n]=some (Qs (g,r,b,n),false):=by unfold Ko;have w:JJ N false 48 [pnB g,pfB 129 r,piB b n]=_:=ZT N 48 false [pnB g,pfB 129 r,piB b n] (by omega) (by omega) hN (by simp) (by rw[flat3];omega);rw[w,Jr,flat3];rfl
   have fin: ∀(x:Bool×List Bs×List Bs),x=(false,[pnB g,pfB 129 r,piB b n],a)->U3 (fun b38144_0d l39936d l1012288d=>Jq (Ko N b38144_0d l39936d) fun r82=>Vm.chk (decide ((l1012288d.length+1)*17<=140737488355328)) (k (i64.wrap ((i:Int)+1),r82.snd,l1012288d++[r82.fst]))) x=k (((i+1:Nat):Int),false,a++[Qs (g,r,b,n)]):=by intro x hx;subst hx;dsimp only[U3];rw[hseq,Jr];simp (disch:=omega) only[JZ,KU]
   have gen:Om N (4,[],n) false=some (qL (4,[],n) false):=Xu N (4,[],n) false hN (qC hsm.2.1);rw[Y8 (show(i:Int)<(l.length:Int) by omega),cond_true,Vq,Jv,Jv];simp only[JX]
   have step1: ∀(J:List Gn×Int×Bool×List (List Att)×Bool×List Bs×List Bs->Option (Bs×Int)),(bif decide (((g.length:Nat):Int)>0)then Jq (NF N g) fun r39=>Jq (JV N false r39.fst r39.snd) fun r42=>Jq (JJ N r42.snd 160 [r42.fst]) fun r44=>Jq (JJ N r44.snd 160 [r44.fst]) fun r46=>J (g,r,b,n,r46.snd,[r46.fst,[],[]],a)else J (g,r,b,n,false,[[],[],[]],a))=J (g,r,b,n,false,[pnB g,[],[]],a):=by
    intro J;rw[SE];unfold pnB;cases hg:g.isEmpty with
    | true=>rfl
    | false =>
     have hg0:g≠ []:=by intro h;subst h;cases hg
     have w1:JJ N false 160 [Me g]=_:=ZT N 160 false [Me g] (by omega) (by omega) hN (by simp) (by rw[JR];omega);have w2:JJ N false 160 [Sp.elem 160 (Me g)]=_:=ZT N 160 false [Sp.elem 160 (Me g)] (by omega) (by omega) hN (by simp) (by rw[JR];omega);rw[JR]at w1 w2;rw[DY,cond_true,cond_false,Ya N g hN hsm.1,qW hg0 hp.n16 hp.ns,Jr,lM,Jr];show Jq (JJ N false 160 [Me g]) _=_;rw[w1,Jr];show Jq (JJ N false 160 [Sp.elem 160 (Me g)]) _=_;rw[w2,Jr]
   refine(step1 _).trans ?_;dsimp only[U7]
   have last: ∀ x:Bs,x=pfB 129 r->(bif b then Jq (Om N (4,[],n) false) fun r72=>Jq (JV N false r72.fst r72.snd) fun r75=>Jq (JJ N r75.snd 162 [r75.fst]) fun r77=>Vm.chk (decide (2<(([pnB g,x,[]]:List Bs).length:Int))) (Vm.chk (decide (2<([pnB g,x,[]]:List Bs).length)) (U3 (fun b38144_0d l39936d l1012288d=>Jq (Ko N b38144_0d l39936d) fun r82=>Vm.chk (decide ((l1012288d.length+1)*17<=140737488355328)) (k (i64.wrap ((i:Int)+1),r82.snd,l1012288d++[r82.fst]))) (r77.snd,([pnB g,x,[]]:List Bs).set 2 r77.fst,a)))else U3 (fun b38144_0d l39936d l1012288d=>Jq (Ko N b38144_0d l39936d) fun r82=>Vm.chk (decide ((l1012288d.length+1)*17<=140737488355328)) (k (i64.wrap ((i:Int)+1),r82.snd,l1012288d++[r82.fst]))) (false,[pnB g,x,[]],a))=k (((i+1:Nat):Int),false,a++[Qs (g,r,b,n)]):=by
    intro x hx;subst hx;cases hb:b with
    | false =>subst hb;rw[cond_false];exact fin _ rfl
    | true =>subst hb;have hn:=hp.i rfl;have l5:=l3.2 rfl;have w1:JJ N false 162 [Ol (4,[],n)]=_:=ZT N 162 false [Ol (4,[],n)] (by omega) (by omega) hN (by simp) (by rw[JR];omega);rw[JR]at w1;unfold qL at gen;rw[dN hn.1]at gen;rw[cond_true,gen,Jr,lM,Jr];show Jq (JJ N false 162 [Ol (4,[],n)]) _=_;rw[w1,Jr];exact fin _ rfl
   by_cases hr:r=0
   .rw[lU hr,cond_false];refine last [] ?_;unfold pfB;rw[PH hr];rfl
   .have w1:JJ N false 129 [flB r]=_:=ZT N 129 false [flB r] (by omega) (by omega) hN (by simp) (by rw[JR];omega);rw[JR]at w1;rw[dF hr,cond_true,(Y4 N r hN hp.r.1 hp.r.2).1,Jr,lM,Jr];show Jq (JJ N false 129 [flB r]) _=_;rw[w1,Jr];refine last (Sp.elem 129 (flB r)) ?_;unfold pfB;rw[NP hr];rfl
  .intro a k ha;simp (disch:=omega) only[JZ]
  .have hl:=Oa (g:=Qs) (M:=76494) (l:=l) (fun p hp=>(bG (hok p hp)).1);rw[lK N false _ (by rw[D5];omega) (by rw[D5];omega),Jr];unfold kN MW;cases KJ 48 (l.map Qs).flatten<;>rfl
def yL (N:Nat) (g:List Gn) (hN:1048578<N) (hs:LZ g) (h16:g.length<=16) (h:KP (fun g=>N8 g false) g=0):Ov N g=some (pnB g):=by
 have hl:=zC h h16;have hl160:=Sp.JO 160 (Me g);unfold Ov pnB;try simp only[clR]
 rw[len0];cases hg:g.isEmpty with
 | true=>rfl
 | false =>
  have hg0:g≠ []:=by intro h;subst h;cases hg
  have w1:JP N 160 [Me g]=_:=RX N 160 [Me g] (by omega) (by omega) hN (by simp) (by rw[JR];omega);have w2:JP N 160 [Sp.elem 160 (Me g)]=_:=RX N 160 [Sp.elem 160 (Me g)] (by omega) (by omega) hN (by simp) (by rw[JR];omega);rw[JR]at w1 w2;rw[cond_false,cond_false,tN N g hN hs,qW hg0 h16 h,Jr];dsimp only;rw[w1,Jr,w2,Jr]
def Ak5 (N t:Nat) (r:Int) (ht:t<256) (h31:t % 32≠31) (hN:1048578<N) (hr:0<=r/\r<512):Qb N (t:Int) r=some (pfB t r):=by
 have hl:=nC hr;unfold Qb pfB;try simp only[clR]
 by_cases h0:r=0
 .rw[PH h0];rfl
 .have w1:=RX N t [flB r] ht h31 hN (by simp) (by rw[JR];omega);rw[JR]at w1;rw[NP h0,cond_false,cond_false,(Y4 N r hN hr.1 hr.2).2.1,Jr];dsimp only;rw[w1,Jr]
def xY (N:Nat) (n:List (List Att)) (hN:1048578<N) (hs:LX n) (h:MN n=0):Ro N n=some (Ol (4,[],n)):=by
 unfold Ro;have hf:KP (fun g=>N8 g false) [((4,[],n):Gn)]=0:=by rw[RN,dN h];rfl
 rw[tN N [(4,[],n)] hN (fun g hg=>by rw[DT.1 hg];exact qC hs),qW (by simp) (by simp) hf,Jr];unfold Me;simp
def oC (N:Nat) (l:List Pt) (hN:1048578<N) (hs: ∀ p∈l,Nu p):Rn N l=some (ZJ l):=by
 unfold Rn ZJ;try simp only[clR]
 rw[len0,XM N l hN hs];cases he:l.isEmpty with
 | true=>rfl
 | false =>
  rw[cond_false,cond_false,Jr,<- Oe];show(bif VH l != 0 then some ([],VH l)else _)=bif VH l != 0 then _ else _;refine U1 fun h0=> ?_;obtain⟨h4,hok⟩:=Aoc hs (by simpa using h0);have hl:=Oa (g:=Qs) (M:=76494) (l:=l) (fun p hp=>(bG (hok p hp)).1);refine(Af8 (mk:=fun i a=>(a,(i:Int))) l ([],0,false,[]) Qs (fun a=>Jq (MI N 48 [a]) fun r44=>some (r44.fst,r44.snd)) ?_ ?_ N).trans ?_
  .intro i a hi ha k;have hsm:=hs _ (getD_mem ([],0,false,[]) hi);have hp:=hok _ (getD_mem ([],0,false,[]) hi);dsimp only[U2];rw[Int.toNat_natCast];generalize l.getD i ([],0,false,[])=p at *
   obtain⟨g,r,b,n⟩:=p;have l1:=Ag5 hp;have l2:=nC hp.r;have l3:=Ag4 hp.i;have l4:=bG hp;dsimp only at l1 l2 l3 l4;have f1:=yL N g hN hsm.1 hp.n16 hp.ns;have f2:Qb N 129 r=_:=Ak5 N 129 r (by omega) (by omega) hN hp.r;have w:JP N 48 [pnB g,pfB 129 r,piB b n]=_:=RX N 48 [pnB g,pfB 129 r,piB b n] (by omega) (by omega) hN (by simp) (by rw[flat3];omega);rw[flat3]at w;have fin: ∀ x:Bs,x=piB b n->U5 (fun t8b b34560_0b b34560_1b b34560_2b b34560_3b=>Jq (Ov N b34560_0b) fun r33=>Jq (Qb N 129 b34560_1b) fun r36=>Jq (JP N 48 [r33,r36,t8b]) fun r39=>Vm.chk (decide (List.length a+List.length r39<=140737488355328)) (k (a++r39,i64.wrap ((i:Int)+1)))) (x,g,r,b,n)=k (a++Qs (g,r,b,n),((i+1:Nat):Int)):=by intro x hx;subst hx;dsimp only[U5];rw[f1,Jr,f2,Jr,w,Jr];have hw:Sp.elem 48 (pnB g++(pfB 129 r++piB b n))=Qs (g,r,b,n):=rfl;simp (disch:=omega) only[JZ,hw,KU]
   rw[Y8 (show(i:Int)<(l.length:Int) by omega),cond_true,Vq,Jv,Jv];simp only[JX];cases hb:b with
   | false =>subst hb;rw[cond_false];exact fin [] rfl
   | true =>subst hb;have hn:=hp.i rfl;have l5:=l3.2 rfl;have w1:JP N 162 [Ol (4,[],n)]=_:=RX N 162 [Ol (4,[],n)] (by omega) (by omega) hN (by simp) (by rw[JR];omega);rw[JR]at w1;rw[cond_true,xY N n hN hsm.2.1 hn.1,Jr,w1,Jr];exact fin _ rfl
  .intro a k;simp (disch:=omega) only[JZ]
  .have f:MI N 48 [(l.map Qs).flatten]=_:=YV N 48 [(l.map Qs).flatten] (by omega) (by omega) (by show 1<N;omega) (by show 1<=_;omega) (by rw[JR];omega);rw[f,Jr,JR];rfl
abbrev RnT:Type:=List (Bs×Int×Bs)
abbrev GnT:Type:=Int×Bs×List RnT
abbrev PtT:Type:=List GnT×Int×Bool×List RnT
abbrev EnT:Type:=Int×Int×Int×Int×List RnT
abbrev LsT:Type:=Bs×Bs×List RnT×Int×Int×Int×Int×Bs×Bool×List GnT×Bool×Bool×Int×Bool×List PtT×List EnT×Bs
abbrev Y8T:Type:=Int×Int×Int×Int×Int×Int×Int×Int
abbrev HsT:Type:=Int×Int×Int×Int×Int×Int×Int×Int×List Int×Int
abbrev TrT:Type:=List (List Bs)×Bs×Bs×Int
abbrev SgT:Type:=Bs×Int×Int×List TrT
def Tot {α :Type} (Q: α ->Prop) (o:Option α):Prop:= ∃ v,o=some v/\Q v
def Tot.chk {α :Type} {Q: α ->Prop} {c:Bool} {k:Option α} (hc:c=true) (h:Tot Q k):Tot Q (Vm.chk c k):=by rw[hc];exact h
def Tot.call {α β :Type} [Inhabited α] {P: α ->Prop} {Q: β ->Prop} {x:Option α} {f: α ->Option β} (h:Tot P x) (hf: ∀ v,P v->Tot Q (f v)):Tot Q (Jq x f):=by obtain⟨v,rfl,hv⟩:=h;exact hf v hv
def Tot.bif {α :Type} {Q: α ->Prop} {b:Bool} {x y:Option α} (h1:b=true->Tot Q x) (h2:b=false->Tot Q y):Tot Q (bif b then x else y):=by
 cases b with
 | true=>exact h1 rfl
 | false=>exact h2 rfl
def Tot.some {α :Type} {Q: α ->Prop} {v: α} (h:Q v):Tot Q (some v):=⟨v,rfl,h⟩
def Tot.AhA {α :Type} {o:Option α} (h:o.isSome=true):Tot (fun _=>True) o:=by
 cases o with
 | none=>cases h
 | some v=>exact⟨v,rfl,trivial⟩
def Tot.mono {α :Type} {P Q: α ->Prop} {o:Option α} (h:Tot P o) (hq: ∀ v,P v->Q v):Tot Q o:=let ⟨v,e,p⟩:=h;⟨v,e,hq v p⟩
def AmQ (l:List Int):l=(List.range l.length).map fun i=>l.getD i 0:=by
 apply List.ext_getElem
 .simp
 .intro i h1 h2;simp [Dj,h1]
def Ao3 (M:Nat) (p0:Y8T) (f:Nat->Int):(Qj (M+70) p0 ((List.range 64).map f)).isSome=true:=by kernel_rfl
def Ahf {N:Nat} (hN:70<=N) (p0:Y8T) {l:List Int} (hl:l.length=64):Tot (fun _=>True) (Qj N p0 l):=by obtain⟨M,rfl⟩:=Nat.exists_eq_add_of_le' hN;have h:=Ao3 M p0 fun i=>l.getD i 0;rw[<- hl,<- AmQ]at h;exact Tot.AhA h
def Yh {α :Type} (l:List α) (a b:Nat) (h:b<=l.length:=by omega):(J6 l a b).length=b - a:=by simp [J6];omega
abbrev Af7 (r:HsT):List Int:=r.2.2.2.2.2.2.2.2.1
def AbY (N:Nat):Tot (fun _=>True) (Xv N):=Tot.AhA (by kernel_rfl)
def AsC {N:Nat} (hN:70<=N) (hM:N<=1000000000) (p0:HsT) (h8:(Af7 p0).length<64) (p1:Bs) (hl:p1.length+64<N):Tot (fun r=>(Af7 r).length<64) (Si N p0 p1):=by
 unfold Si;try simp -zeta only[Ap]
 refine Tot.bif (fun _=>Tot.some h8) fun _=> ?_;refine Ah2 (fun x=>x.2.2.2.2.2.2.2.2.1.length<64) (Tot _) (fun j hj=>Tot.bif (fun _=>(AbY N).call fun v _=>hj _ h8) fun _=>hj _ h8) ?_;rintro ⟨b0,b1,b2,b3,b4,b5,b6,b7,b8,b9⟩ hb;have hb:b8.length<64:=hb;dsimp only[U10];refine Tot.chk (Di) (Tot.chk (Di (by rw[D5];omega)) ?_);refine QV (fun x=>x.1.length<N) (fun x=>x.1.length) (Tot _) ?_ N _ (by show(b8++p1.map _).length<N;rw[Dx,D5];omega) (by show(b8++p1.map _).length<N;rw[Dx,D5];omega);rintro ⟨t,c0,c1,c2,c3,c4,c5,c6,c7,c8,c9⟩ hI k hk;have hI:t.length<N:=hI;dsimp only[U11];refine Tot.bif (fun h=> ?_) fun h=> ?_
 .have h:=D9 h;refine Tot.chk (Di) ((Ahf hN _ (by rw[Yh _ _ _])).call fun v _=>Tot.chk (Di) (hk _ ?_ ?_))
  .show(J6 t 64 t.length).length<N;rw[Yh _ _ _ (DN _)];omega
  .show(J6 t 64 t.length).length<t.length;rw[Yh _ _ _ (DN _)];omega
 .have h:=Et h;refine Tot.chk (Di) (Tot.some ?_);show t.length<64;omega
def Axb (n:Nat):(n:Int).tmod 64=((n % 64:Nat):Int):=by rw[DU (by omega)];omega
def Avh {N:Nat} (hN:150<=N) (p0:HsT) (h8:(Af7 p0).length<64):Tot (fun r=>r.1.length=32) (Ut N p0):=by
 unfold Ut;try simp -zeta only[Ap]
 refine(AbY N).call fun v _=>Tot.chk rfl ?_;refine Ah2 (fun x=>x.2.2.2.2.2.2.2.2.2.2.2.1.length=8/\x.2.2.2.2.2.2.2.2.2.2.2.2.length<64) (Tot _) (fun j hj=>Tot.bif (fun _=>Tot.chk (Di (by have:p0.2.2.2.2.2.2.2.2.1.length<64:=h8;omega)) (hj _ ⟨rfl,h8⟩)) fun _=>hj _ ⟨rfl,by show 0<64;omega⟩) ?_;rintro ⟨t,b0,b1,b2,b3,b4,b5,b6,b7,b8,b9,l1,l2⟩ ⟨h1,h2⟩;have h1:l1.length=8:=h1;have h2:l2.length<64:=h2;dsimp only[U13];refine Tot.chk (Di) ?_;refine QV (fun x=>x.2.2.2.2.2.2.2.2.2.2.1.length=8/\x.2.2.2.2.2.2.2.2.2.2.2.length<=120) (fun x=>120 - x.2.2.2.2.2.2.2.2.2.2.2.length) (Tot _) ?_ N _ ⟨h1,by show(l2++_).length<=120;simp;omega⟩ (by show 120 - _<N;omega);rintro ⟨b0,b1,b2,b3,b4,b5,b6,b7,b8,b9,l1,l2⟩ ⟨h1,h2⟩ k hk;have h1:l1.length=8:=h1;have h2:l2.length<=120:=h2;dsimp only[U12];rw[Axb];refine Tot.bif (fun h=> ?_) fun h=> ?_
 .have h: ¬((l2.length % 64:Nat):Int)=56:=Ey.1 h;refine Tot.chk (Di) (hk _ ⟨h1,?_⟩ ?_)
  .show(l2++[0]).length<=120;simp;omega
  .show 120 - (l2++[0]).length<120 - l2.length;simp;omega
 .have h:((l2.length % 64:Nat):Int)=56:=by simpa using h
  clear k hk;refine QV (fun x=>x.2.2.2.2.2.2.2.2.2.2.2.1.length=8/\ -1<=x.1/\x.1<=7/\((x.2.2.2.2.2.2.2.2.2.2.2.2.length:Int)+x.1+1) % 64=0/\(x.2.2.2.2.2.2.2.2.2.2.2.2.length:Int)+x.1+1<=128) (fun x=>(x.1+1).toNat) (Tot _) ?_ N _ ⟨h1,by show(-1:Int)<=7;omega,by show(7:Int)<=7;omega,by show((l2.length:Int)+7+1) % 64=0;omega,by show(l2.length:Int)+7+1<=128;omega⟩ (by show((7:Int)+1).toNat<N;omega);rintro ⟨t,b0,b1,b2,b3,b4,b5,b6,b7,b8,b9,l1,l2⟩ ⟨h1,h3,h4,h5,h6⟩ k hk;have h1:l1.length=8:=h1;have h3: -1<=t:=h3;have h4:t<=7:=h4;have h5:((l2.length:Int)+t+1) % 64=0:=h5;have h6:(l2.length:Int)+t+1<=128:=h6;dsimp only[U13];refine Tot.bif (fun h=> ?_) fun h=> ?_
  .have h:=D9 h;refine Tot.chk (Di (by rw[wu64 (x:=t) (by omega),wu64 (by omega)];omega)) (Tot.chk (Di) (hk _ ⟨h1,?_⟩ ?_))
   .show -1<=i64.wrap (t - 1)/\i64.wrap (t - 1)<=7/\(((l2++[_]).length:Int)+i64.wrap (t - 1)+1) % 64=0/\((l2++[_]).length:Int)+i64.wrap (t - 1)+1<=128;rw[w64];simp;omega
   .show(i64.wrap (t - 1)+1).toNat<(t+1).toNat
    rw[w64];omega
  .have h:=Et h;have ht:t= -1:=by omega
   subst ht;clear k hk;refine QV (fun x=>x.2.2.2.2.2.2.2.2.2.2.2.length=8/\x.1.length % 64=0/\x.1.length<=128) (fun x=>x.1.length) (Tot _) ?_ N _ ⟨h1,by show l2.length % 64=0;omega,by show l2.length<=128;omega⟩ (by show l2.length<N;omega);rintro ⟨t,b0,b1,b2,b3,b4,b5,b6,b7,b8,b9,l1⟩ ⟨h1,h2,h3⟩ k hk;have h1:l1.length=8:=h1;have h2:t.length % 64=0:=h2;have h3:t.length<=128:=h3;dsimp only[U12];refine Tot.bif (fun h=> ?_) fun h=> ?_
   .have h:=D9 h;refine Tot.chk (by rw[h1];rfl) (Tot.chk (Di) ((Ahf (by omega) _ (by rw[Yh _ _ _])).call fun v _=>Tot.chk (by rw[h1];rfl) (Tot.chk (Di) (hk _ ⟨rfl,?_⟩ ?_))))
    .show(J6 t 64 t.length).length % 64=0/\(J6 t 64 t.length).length<=128;rw[Yh _ _ _ (DN _)];omega
    .show(J6 t 64 t.length).length<t.length;rw[Yh _ _ _ (DN _)];omega
   .clear k hk h;dsimp only[U11];refine Tot.chk (by rw[h1];rfl) ?_;refine QV (fun x=>0<=x.1/\x.1<=8/\(x.2.2.2.2.2.2.2.2.2.2.2.length:Int)=4*x.1/\x.2.2.2.2.2.2.2.2.2.2.2.all Vm.isByte=true) (fun x=>(8 - x.1).toNat) (Tot _) ?_ N _ ⟨by show(0:Int)<=0;omega,by show(0:Int)<=8;omega,rfl,rfl⟩ (by show((8:Int) - 0).toNat<N;omega);rintro ⟨t,b0,b1,b2,b3,b4,b5,b6,b7,b8,b9,l⟩ ⟨h1,h2,h3,h4⟩ k hk;have h1:0<=t:=h1;have h2:t<=8:=h2;have h3:(l.length:Int)=4*t:=h3;have h4:l.all Vm.isByte=true:=h4;dsimp only[U12];refine Tot.bif (fun h=> ?_) fun h=> ?_
    .have h:=D9 h;refine Tot.chk (Di) (Tot.chk (Di) (Tot.chk (Di) (hk _ ?_ ?_)))
     .show 0<=i64.wrap (t+1)/\i64.wrap (t+1)<=8/\((l++[_,_,_,_]).length:Int)=4*i64.wrap (t+1)/\(l++[_,_,_,_]).all Vm.isByte=true;rw[w64];refine⟨by omega,by omega,by simp;omega,?_⟩;rw[Ha,h4];simp only[List.all_cons,Tc,List.all_nil,Gj]
     .show(8 - i64.wrap (t+1)).toNat<(8 - t).toNat
      rw[w64];omega
    .have h:=Et h;dsimp only[U11];refine Tot.chk h4 (Tot.some ?_);show(l.map Vm.byteOf).length=32;rw[D5];omega
def AtA {N:Nat} (hN:150<=N) (hM:N<=1000000000) {l:List Bs} (hl:l.length<N) (hs: ∀ s∈l,s.length+64<N):Tot (fun r=>r.length=32) (qO N l):=by
 unfold qO;try simp -zeta only[Ap]
 refine Tot.call (P:=fun r=>(Af7 r).length<64) ⟨_,rfl,by show 0<64;omega⟩ fun v hv=> ?_;refine QV (fun x=>0<=x.1/\x.1<=(l.length:Int)/\(Af7 x.2).length<64) (fun x=>((l.length:Int) - x.1).toNat) (Tot _) ?_ N _ ⟨by show(0:Int)<=0;omega,by show(0:Int)<=l.length;omega,hv⟩ (by show((l.length:Int) - 0).toNat<N;omega);rintro ⟨t,b0,b1,b2,b3,b4,b5,b6,b7,b8,b9⟩ ⟨h1,h2,h3⟩ k hk;have h1:0<=t:=h1;have h2:t<=(l.length:Int):=h2;dsimp only[U11];refine Tot.bif (fun h=> ?_) fun h=> ?_
 .have h:=D9 h;have hlt:t.toNat<l.length:=by omega
  refine Tot.chk (Di h1) (Tot.chk (Di h) ((AsC (by omega) hM _ h3 _ (by rw[getD_lt _ _ _ hlt];exact hs _ (Ef hlt))).call fun v hv=>hk _ ?_ ?_))
  .show 0<=i64.wrap (t+1)/\i64.wrap (t+1)<=(l.length:Int)/\(Af7 v).length<64;rw[w64];exact⟨by omega,by omega,hv⟩
  .show((l.length:Int) - i64.wrap (t+1)).toNat<((l.length:Int) - t).toNat
   rw[w64];omega
 .dsimp only[U10];exact(Avh hN _ h3).call fun v hv=>Tot.some hv
def Aq5 {N:Nat} (hN:150<=N) (hM:N<=1000000000) {l:List Bs} (hl:l.length<N) (hs: ∀ s∈l,s.length+64<N):Tot (fun r=>r.length=16) (MM N l):=by
 unfold MM;try simp -zeta only[Ap]
 refine(AtA hN hM hl hs).call fun v hv=>Tot.chk (Di) (Tot.some ?_);rw[Yh _ _ _]
end Go.Proofs.YtehkhflpjkokeaaGreatDoor.Pl
