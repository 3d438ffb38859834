import Derived.Test.YtdihmdelaolelaaGreatDoorA24
set_option linter.all false
namespace Go.Proofs.YtdihmdelaolelaaGreatDoor.Pl
open IntKind (i64 u8 u32 u64)
open Go Vm
def wrap_u64 (x:Int):u64.wrap x=x % 18446744073709551616:=by simp [IntKind.wrap,IntKind.bits,IntKind.signed]
def bad_eq (a b:UInt8) (r:Bs):Sp.WZ (a::b::r)=((((a.toNat:Int)==0)&&decide ((b.toNat:Int)<128))||(((a.toNat:Int)==255)&& !decide ((b.toNat:Int)<128))):=by
 have e1:((a.toNat:Int)==0)=decide (a.toNat=0):=by rw[Fv];simp
 have e2:((a.toNat:Int)==255)=decide (a.toNat=255):=by rw[Fv];simp;omega
 have e3:decide ((b.toNat:Int)<128)=decide (b.toNat<128):=by rw[Fv];simp;omega
 rw[e1,e2,e3];show(_||_&&decide (128<=b.toNat))=_;rw[show decide (128<=b.toNat)= !decide (b.toNat<128) by rw[Fv];simp]
def AyI (k:Nat):(2:Int) ^ (8*k)=256 ^ k:=by rw[Int.pow_mul];rfl
def Az5 (q:Int):Vm.byteOf (u8.wrap q)=Sp.byteOf q:=by unfold Vm.byteOf Sp.byteOf;rw[w8]
def Ayq (f:Nat->Int) (l:List Nat):List.all (l.map fun i=>u8.wrap (f i)) isByte=true:=by rw[DF];intro x hx;obtain⟨i,_,rfl⟩:=DN.1 hx;exact OT _
def Afn (v:Int): ∀ n:Nat,(List.range n).map (fun i=>Sp.byteOf (v / 256 ^ (n - 1 - i)))=Sp.MJ v n:=by
 intro n
 induction n with
 | zero=>rfl
 | succ n ih =>
  rw[Hl,Ei,EU];show _=Sp.byteOf (v / 256 ^ n)::Sp.MJ v n;rw[<- ih];have e:(List.range n).map ((fun i=>Sp.byteOf (v / 256 ^ (n+1 - 1 - i)))∘Nat.succ)=(List.range n).map (fun i=>Sp.byteOf (v / 256 ^ (n - 1 - i))):=Ez fun i hi=>by show Sp.byteOf (v / 256 ^ (n+1 - 1 - (i+1)))=_;rw[show n+1 - 1 - (i+1)=n - 1 - i by omega]
  rw[e];rfl
def AwM (q:Int):(decide (q< -128)||decide (q>127))= !decide (Sp.fits q):=by
 by_cases h:Sp.fits q
 .rw[Dk h];have h: -128<=q/\q<=127:=h;rw[A0x,A0x];rfl
 .rw[Dq h];have h: ¬(-128<=q/\q<=127):=h;by_cases h':q< -128
  .rw[Dk h'];rfl
  .rw[Dk (show q>127 by omega),EM];rfl
def Abs (N:Nat) (v:Int) (hN:16<N) (h1: -9223372036854775808<=v) (h2:v<=9223372036854775807):NK N v=some (Sp.Ux v):=by
 obtain⟨k,hk7,hf,hm⟩:=Sp.AfF v 7 (Sp.AwL v h1 h2);rw[Sp.yE v k hk7 hf hm]
 have hlow: ∀ j,j<k-> ¬ Sp.fits (v / 256 ^ j):=by
  intro j hj h;rcases hm with rfl | ⟨m,rfl,hm⟩
  .omega
  .obtain⟨d,rfl⟩: ∃ d,m=j+d:=⟨m - j,by omega⟩
   exact hm (Sp.AhA v j h d)
 unfold NK;try simp only[clR]
 have key: ∀(d j n:Nat) (kx:Int->Option Bs),j+d=k->d<n->J3 (X:=Int×Int) (Y:=Int) (U2 fun t3a t4a k1 x2=>bif decide (t4a<((-128):Int))||decide (t4a>(127:Int))then(k1 (i64.wrap (t3a+(1:Int)),t4a.fdiv (256)))else(x2 t3a)) n ((j:Int)+1,v / 256 ^ j) kx=kx ((k:Int)+1):=by
  intro d
  induction d with
  | zero =>
   intro j n kx hj hn;obtain⟨n,rfl⟩: ∃ m,n=m+1:=⟨n - 1,by omega⟩
   have:j=k:=by omega
   subst this;rw[L8];dsimp only[U2];rw[AwM,Dk hf];rfl
  | succ d ih =>
   intro j n kx hj hn;obtain⟨n,rfl⟩: ∃ m,n=m+1:=⟨n - 1,by omega⟩
   rw[L8];dsimp only[U2];rw[AwM,Dq (hlow j (by omega)),Eu,cond_true,w64,FZ _ (by decide),<- Sp.jQ];exact ih (j+1) n kx (by omega) (by omega)
 have k0:=key k 0 N;rw[show v / 256 ^ 0=v by simp]at k0;refine(k0 _ (by omega) (by omega)).trans ?_;refine(Ti (fun i acc=>((i:Int),acc)) (List.range (k+1)) 0 (fun i=>u8.wrap (v / 256 ^ (k - i))) (fun l=>chk (List.all l isByte) (some (l.map Vm.byteOf))) ?_ ?_ N (by rw[DI];omega)).trans ?_
 .intro i acc hi ha kk;rw[DI]at hi;rw[wQ hi];dsimp only[U2];have e:i64.wrap (i64.wrap ((k:Int)+1 - 1) - (i:Int))=((k - i:Nat):Int):=by rw[w64 (x:=(k:Int)+1 - 1),w64];omega
  rw[e,wu64 (x:=((k - i:Nat):Int)) (by omega),wu64 (x:=8*((k - i:Nat):Int)) (by omega)];rw[Dk (show(i:Int)<(k:Int)+1 by omega),cond_true,Dk (show(0:Int)<=8*((k - i:Nat):Int) by omega),Jz,Dk (show(acc.length+1)*2<=140737488355328 by omega),Jz,w64 (x:=(i:Int)+1)];rw[show min (8*((k - i:Nat):Int)).toNat 64=8*(k - i) by omega,AyI,FZ _ (IA (by decide))];rfl
 .intro acc kk ha;rw[DI];dsimp only[U2];rw[Dq (show ¬((k+1:Nat):Int)<(k:Int)+1 by omega)];rfl
 .rw[Ayq (fun i=>v / 256 ^ (k - i)),Jz,EU];refine congrArg some ?_;rw[<- Afn v (k+1)];refine Ez fun i _=> ?_;have e:k+1 - 1 - i=k - i:=by omega
  show Vm.byteOf (u8.wrap (v / 256 ^ (k - i)))=Sp.byteOf (v / 256 ^ (k+1 - 1 - i));rw[e];exact Az5 _
def Avd (a b:UInt8) (r:Bs):Sp.WZ (a::b::r)=((((a.toNat:Int)==0)&&decide ((b.toNat:Int)<128))||(((a.toNat:Int)==255)&&decide ((b.toNat:Int)>=128))):=by
 have h:(!decide ((b.toNat:Int)<128))=decide ((b.toNat:Int)>=128):=by
  by_cases h:(b.toNat:Int)<128
  .rw[Dk h,A0x];rfl
  .rw[Dq h,Dk];rfl
 rw[bad_eq,h]
def AuB (N:Nat) (B:List Int->(List Int->Option Bs)->(List Int->Option Bs)->Option Bs) (fin:List Int->Option Bs)
 (h1: ∀(a:UInt8) k,B [(a.toNat:Int)] k fin=fin [(a.toNat:Int)])
 (h2: ∀(a b:UInt8) (r:Bs) k,r.length<=6->B ((a::b::r).map fun c=>(c.toNat:Int)) k fin=bif Sp.WZ (a::b::r)then k ((b::r).map fun c=>(c.toNat:Int))else fin ((a::b::r).map fun c=>(c.toNat:Int))) :
 ∀(l:Bs) (n:Nat),l≠ []->l.length<=8->l.length<n->J3 B n (l.map fun c=>(c.toNat:Int)) fin=fin ((Sp.strip l).map fun c=>(c.toNat:Int)):=by
 intro l
 induction l with
 | nil=>intro n h;exact absurd rfl h
 | cons a r ih =>
  intro n _ h8 hn;obtain⟨n,rfl⟩: ∃ m,n=m+1:=⟨n - 1,by omega⟩
  rw[L8];cases r with
  | nil=>exact h1 a _
  | cons b r =>
   rw[h2 a b r _ (by simp at h8;omega)];show _=fin ((if Sp.WZ (a::b::r)then Sp.strip (b::r)else a::b::r).map _);cases hb:Sp.WZ (a::b::r)with
   | true=>rw[cond_true,Du rfl];exact ih n (by simp) (by simp at h8 ⊢;omega) (by simp at hn ⊢;omega)
   | false=>rfl
def Adq (N:Nat) (v:Int) (hN:16<N):P9 N v=some (Sp.Ux v):=by
 unfold P9;try simp -zeta only[Ap]
 have hw: ∀ e:Nat,e<=7->(u8.wrap ((u64.wrap v).fdiv (2 ^ (8*e))))=((Sp.byteOf (v / 256 ^ e)).toNat:Int):=by
  intro e he;rw[w8,wrap_u64,Sp.byteOf_toNat,FZ _ (IA (by decide)),AyI];have:e=0\/e=1\/e=2\/e=3\/e=4\/e=5\/e=6\/e=7:=by omega
  rcases this with rfl | rfl | rfl | rfl | rfl | rfl | rfl | rfl<;>simp only[show((256:Int) ^ 0)=1 from rfl,show((256:Int) ^ 1)=256 from rfl,show((256:Int) ^ 2)=65536 from rfl,show((256:Int) ^ 3)=16777216 from rfl,show((256:Int) ^ 4)=4294967296 from rfl,show((256:Int) ^ 5)=1099511627776 from rfl,show((256:Int) ^ 6)=281474976710656 from rfl,show((256:Int) ^ 7)=72057594037927936 from rfl]<;>omega
 have key: ∀ fin:List Int->Option Bs,J3 (X:=Int×List Int) (Y:=List Int) (U2 fun t5a l k1 x2=>bif decide (t5a>=(0:Int))then(chk (decide ((0:Int)<=i64.wrap ((8:Int)*t5a))) <|
  let x16:Int:=(u64.wrap v).fdiv (2 ^ (min (i64.wrap ((8:Int)*t5a)).toNat 64))
  chk (decide ((l.length+1)*2<=140737488355328)) <|
  k1 (i64.wrap (t5a - (1:Int)),l++([u8.wrap x16]:List Int)))else(x2 l)) N (7,([]:List Int)) fin=fin ((List.range 8).map fun i=>((Sp.byteOf (v / 256 ^ (7 - i))).toNat:Int)):=by
  intro fin;refine Ti (fun i acc=>(7 - (i:Int),acc)) (List.range 8) 0 (fun i=>((Sp.byteOf (v / 256 ^ (7 - i))).toNat:Int)) fin ?_ ?_ N (by rw[DI];omega)
  .intro i acc hi ha kk;rw[DI]at hi;rw[wQ hi];dsimp only[U2];rw[Dk (show 7 - (i:Int)>=0 by omega),cond_true,w64 (x:=8*(7 - (i:Int))),Dk (show(0:Int)<=8*(7 - (i:Int)) by omega),Jz,Dk (show(acc.length+1)*2<=140737488355328 by omega),Jz,w64 (x:=7 - (i:Int) - 1)];rw[show min (8*(7 - (i:Int))).toNat 64=8*(7 - i) by omega,hw (7 - i) (by omega),show 7 - (i:Int) - 1=7 - ((i+1:Nat):Int) by omega]
  .intro acc kk ha;rw[DI];dsimp only[U2];rw[Dq (show ¬(7 - ((8:Nat):Int))>=0 by omega),cond_false]
 refine(key _).trans ?_;have e:(List.range 8).map (fun i=>((Sp.byteOf (v / 256 ^ (7 - i))).toNat:Int))=(Sp.MJ v 8).map fun c=>(c.toNat:Int):=by rw[<- Afn v 8,EU];rfl
 rw[e];refine(AuB N _ _ ?_ ?_ (Sp.MJ v 8) N (by simp [Sp.MJ]) (by rw[Sp.dW];omega) (by rw[Sp.dW];omega)).trans ?_
 .intro a k;have h1:decide ((([(a.toNat:Int)]:List Int).length:Int)>1)=false:=rfl;dsimp only;rw[h1];simp only[XX,Fa,Eu,EM,Jz,cond_false,Ea,EK]
 .intro a b r k hr;rw[Avd];have q0:decide (((1:Nat):Int)<=((List.map (fun c:UInt8=>(c.toNat:Int)) (a::b::r)).length:Int))=true:=Dk (by simp;omega);have q1:decide ((1:Int)<((List.map (fun c:UInt8=>(c.toNat:Int)) (a::b::r)).length:Int))=true:=Dk (by simp;omega);have q2:decide (((List.map (fun c:UInt8=>(c.toNat:Int)) (a::b::r)).length:Int)>1)=true:=q1;have q3:decide ((0:Int)<((List.map (fun c:UInt8=>(c.toNat:Int)) (a::b::r)).length:Int))=true:=Dk (by simp;omega);have q4:decide ((1:Int)<=((List.map (fun c:UInt8=>(c.toNat:Int)) (a::b::r)).length:Int))=true:=Dk (by simp;omega);simp only[q1,q2,q3,q4];have g0:(List.map (fun c:UInt8=>(c.toNat:Int)) (a::b::r)).getD 0 0=(a.toNat:Int):=rfl;have g1:(List.map (fun c:UInt8=>(c.toNat:Int)) (a::b::r)).getD 1 0=(b.toNat:Int):=rfl;have g2:J6 (List.map (fun c:UInt8=>(c.toNat:Int)) (a::b::r)) 1 (List.map (fun c:UInt8=>(c.toNat:Int)) (a::b::r)).length=List.map (fun c:UInt8=>(c.toNat:Int)) (b::r):=by simp only[J6,Ei,List.length_cons,IM,Gy,Nat.add_sub_cancel];rw[Fg (by simp)];rfl
  simp only[g0,g1,g2,XX];generalize ((a.toNat:Int)==0)=c1;generalize ((a.toNat:Int)==255)=c2;generalize decide ((b.toNat:Int)<128)=c3;generalize decide ((b.toNat:Int)>=128)=c4;cases c1<;>cases c2<;>cases c3<;>cases c4<;>simp (disch:=omega) only[JF]
 .have h1: ∀ l:Bs,List.all (l.map fun c=>(c.toNat:Int)) isByte=true:=fun l=>by
   rw[DF];intro x hx;obtain⟨c,_,rfl⟩:=DN.1 hx;have:=GR c;unfold isByte;simp;omega
  rw[h1,Jz,EU];refine congrArg some ?_;show _=Sp.strip (Sp.MJ v 8);generalize Sp.strip (Sp.MJ v 8)=l;have h2: ∀ c:UInt8,Vm.byteOf (c.toNat:Int)=c:=fun c=>by unfold Vm.byteOf;have:=GR c;apply H5.1;rw[FH];simp
  exact(Ez fun c _=>h2 c).trans (Gj l)
def PS (g:Gn):Bs:=bif g.1==4 then Sp.elem 164 (nmB g.2.2)else Sp.elem (128+g.1).toNat g.2.1
def AvN {s:Bs} (h:OY s=true):s.length<=128:=by
 rcases Eo 128 s.length with hl | hl
 .rw[Agn hl]at h;cases h
 .exact hl
def ApL {s:Bs} (h:QU s=true):s.length<=128:=by
 rcases Eo 128 s.length with hl | hl
 .rw[AiJ hl]at h;cases h
 .exact hl
def Axz {k:Int} {s:Bs} {c:Bool} (h:Ael k s c=true):s.length<=128/\(k=1\/k=2\/k=7):=by
 unfold Ael at h;by_cases h1:k=1
 .subst h1;refine⟨?_,.inl rfl⟩;rw[RU rfl,cond_true]at h;cases c with
  | true =>unfold mbP at h;rw[cond_true,Dx,D6]at h;exact h.1
  | false=>exact AvN h
 .rw[QO h1,cond_false]at h;by_cases h2:k=2
  .subst h2;refine⟨?_,.inr (.inl rfl)⟩;rw[RU rfl,cond_true]at h;cases c with
   | true =>
    unfold uB at h;rw[cond_true,Ej]at h;rcases h with h | h
    .have:s=[]:=by simpa using h
     subst this;exact Em _
    .exact ApL h
   | false =>
    rw[cond_false]at h;unfold wL at h;cases hq:Lib.hasPrefix s [42,46]with
    | true =>rw[hq,cond_true,Dx,Dx,D6]at h;exact h.1.1
    | false=>rw[hq]at h;exact ApL h
  .rw[QO h2,cond_false]at h;by_cases h7:k=7
   .subst h7;refine⟨?_,.inr (.inr rfl)⟩;rw[RU rfl,cond_true]at h;cases c with
    | true =>
     rw[cond_true]at h;unfold xA at h;cases hq:(decide (s.length=8)||decide (s.length=32))with
     | false=>rw[hq]at h;cases h
     | true=>rw[Ej,D6,D6]at hq;omega
    | false =>rw[cond_false]at h;unfold tY at h;rw[Ej,D6,D6]at h;omega
   .rw[QO h7]at h;cases h
def AhC {g:Gn} {c:Bool} (h:LU g c=0):(g.1=4/\g.2.1=[]/\Nk g.2.2=0)\/((g.1=1\/g.1=2\/g.1=7)/\g.2.1.length<=128/\g.2.2=[]/\Ael g.1 g.2.1 c=true):=by
 unfold LU at h;by_cases h4:g.1=4
 .rw[RU h4,cond_true]at h;cases hq:g.2.1==[]with
  | true=>rw[hq]at h;exact .inl ⟨h4,by simpa using hq,h⟩
  | false=>rw[hq]at h;cases h
 .rw[QO h4,cond_false]at h;cases hq:Ael g.1 g.2.1 c&&g.2.2.isEmpty with
  | false=>rw[hq]at h;cases h
  | true =>rw[Dx]at hq;obtain⟨h1,h2⟩:=Axz hq.1;exact .inr ⟨h2,h1,by simpa using hq.2,hq.1⟩
theorem Z4 {g:Gn} {c:Bool} (h:LU g c=0):(PS g).length<=4498:=by
 unfold PS;rcases AhC h with ⟨h1,_,h3⟩ | ⟨h1,h2,_,_⟩
 .rw[RU h1,cond_true];have:=Sp.JQ 164 (nmB g.2.2);have:=(ZH h3).1;omega
 .rw[QO,cond_false];have:=Sp.JQ (128+g.1).toNat g.2.1;omega
def oC (g:Gn) (c:Bool):Bs×Int:=bif LU g c != 0 then([],LU g c)else(PS g,0)
def Y8 (N:Nat) (g:Gn) (c:Bool) (hN:1048578<N) (hs:kZ g):PT N g c=some (oC g c):=by
 unfold PT oC;try simp only[clR]
 rw[Z7 N g c hN hs,Jt,<- JY];refine KJ fun h0=> ?_;have h0:LU g c=0:=by simpa using h0
 unfold PS;rcases AhC h0 with ⟨h1,_,h3⟩ | ⟨h1,h2,_,_⟩
 .have hl:=(ZH h3).1;have w:Kw N 164 [nmB g.2.2]=_:=XJ N 164 [nmB g.2.2] (by omega) (by omega) hN (by simp) (by rw[JO];omega);rw[JO]at w;rw[qA h1,cond_false,RU h1,cond_true,Y1 N g.2.2 hN hs.2,Jt,h3,h1];show Jr (Kw N 164 [nmB g.2.2]) _=_;rw[w,Jt]
 .have hk:(128+g.1)=((128+g.1).toNat:Int):=by omega
  have w:=XJ N (128+g.1).toNat [g.2.1] (by omega) (by omega) hN (by simp) (by rw[JO];omega);rw[JO,<- hk]at w;rw[bM (by omega),cond_true,QO,cond_false,w64,w,Jt]
def jF (N:Nat) (g:Gn) (c:Bool) (hN:1048578<N) (hs:kZ g):Pm N g c=some (oC g c):=by
 unfold Pm oC;try simp only[clR]
 rw[Yk N g c hN hs,Jt,<- JY];refine KJ fun h0=> ?_;have h0:LU g c=0:=by simpa using h0
 unfold PS;rcases AhC h0 with ⟨h1,_,h3⟩ | ⟨h1,h2,_,_⟩
 .have hl:=(ZH h3).1;have w:JK N 164 [nmB g.2.2]=_:=Q9 N 164 [nmB g.2.2] (by omega) (by omega) hN (by simp) (by rw[JO];omega);rw[JO]at w;rw[RU h1,cond_true,cond_true,dR N g.2.2 hN hs.2,Jt,h3,h1];show Jr (JK N 164 [nmB g.2.2]) _=_;rw[w,Jt]
 .have hk:(128+g.1)=((128+g.1).toNat:Int):=by omega
  have w:=Q9 N (128+g.1).toNat [g.2.1] (by omega) (by omega) hN (by simp) (by rw[JO];omega);rw[JO,<- hk]at w;rw[QO,cond_false,cond_false,w64,w,Jt]
def aF (c:Bool) (g:Gn):Bs:=bif LU g c != 0 then []else PS g
def AiM (c:Bool) (g:Gn):(aF c g).length<=4498:=by
 unfold aF;cases h:LU g c != 0 with
 | true=>exact Em _
 | false=>exact Z4 (c:=c) (by simpa using h)
def AtA (g:Gn) (c:Bool):oC g c=(aF c g,LU g c):=by
 unfold oC aF;cases h:LU g c != 0 with
 | true=>rfl
 | false=>rw[show LU g c=0 by simpa using h];rfl
def AiN {c:Bool} {l:List Gn} (h:Ky (fun g=>LU g c) l=0):l.map (aF c)=l.map PS:=by refine Ez fun g hg=> ?_;have:=VO h g hg;unfold aF;rw[show LU g c=0 from this];rfl
def Nj (l:List Gn):Bs:=(l.map PS).flatten
def Acz (l:List Gn):Bs×Int:=bif l.isEmpty then([],7)else bif decide (16<l.length)then([],2)else bif Ph l false != 0 then([],Ph l false)else(Nj l,0)
def dB {l:List Gn} {c:Bool} (h:Ky (fun g=>LU g c) l=0) (h16:l.length<=16):(Nj l).length<=71968:=by have:=Lp (g:=PS) (M:=4498) (l:=l) (fun g hg=>Z4 (c:=c) (VO h g hg));unfold Nj;omega
def Zh (N:Nat) (l:List Gn) (hN:1048578<N) (hs:Lh l):Py N l=some (Acz l):=by
 unfold Py Acz oD;try simp only[clR]
 rw[len0,show decide (((l.length:Nat):Int)>16)=decide (16<l.length)from MX _ 16];cases he:l.isEmpty with
 | true=>rfl
 | false =>
  rw[cond_false,cond_false];by_cases h16:16<l.length
  .rw[Dk h16];rfl
  .rw[Dq h16,cond_false,cond_false,Jt];show J3 _ N _ _=_;refine(uG (mk:=fun i t=>(t,(i:Int))) l (0,[],[]) (fun g=>LU g false) (aF false) (fun e=>some ([],e)) (fun t=>some (t,0)) ?_ ?_ N).trans ?_
   .intro i t hi ht k;have hg:=Y8 N _ false hN (hs _ (getD_mem (0,[],[]) hi));have hl:=Lp (g:=aF false) (M:=4498) (l:=l) (fun g _=>AiM false g);rw[AtA]at hg;simp (disch:=omega) only[JF,hg,JX]
   .intro t k;simp (disch:=omega) only[JF]
   .unfold Ph;rw[<- JY];refine KJ fun h=> ?_;rw[AiN (by simpa using h)];rfl
def dQ (N:Nat) (l:List Gn) (hN:1048578<N) (hs:Lh l):PD N l=some (Acz l):=by
 unfold PD Acz;try simp only[clR]
 rw[len0,show decide (((l.length:Nat):Int)>16)=decide (16<l.length)from MX _ 16];cases he:l.isEmpty with
 | true=>rfl
 | false =>
  rw[cond_false,cond_false];by_cases h16:16<l.length
  .rw[Dk h16];rfl
  .rw[Dq h16,cond_false,cond_false];refine(uG (mk:=fun i t=>(t,(i:Int))) l (0,[],[]) (fun g=>LU g false) (aF false) (fun e=>some ([],e)) (fun t=>some (t,0)) ?_ ?_ N).trans ?_
   .intro i t hi ht k;have hg:=jF N _ false hN (hs _ (getD_mem (0,[],[]) hi));have hl:=Lp (g:=aF false) (M:=4498) (l:=l) (fun g _=>AiM false g);rw[AtA]at hg;simp (disch:=omega) only[JF,hg,JX]
   .intro t k;simp (disch:=omega) only[JF]
   .unfold Ph;rw[<- JY];refine KJ fun h=> ?_;rw[AiN (by simpa using h)];rfl
def Xz (g:Gn):Bs:=Sp.elem 48 (PS g)
def AuG {g:Gn} (h:LU g true=0):(Xz g).length<=4503:=by have:=Z4 h;have:=Sp.JQ 48 (PS g);unfold Xz;omega
def Rt (t:Nat) (l:List Gn):Bs:=bif l.isEmpty then []else Sp.elem t (l.map Xz).flatten
def Ach {l:List Gn} (h: ∀ g∈l,LU g true=0) (h16:l.length<=16):(l.map Xz).flatten.length<=72048:=by have:=Lp (g:=Xz) (M:=4503) (l:=l) (fun g hg=>AuG (h g hg));omega
def Ajg {t:Nat} {l:List Gn} (h: ∀ g∈l,LU g true=0) (h16:l.length<=16):(Rt t l).length<=72053:=by
 have h1:=Ach h h16;have:=Sp.JQ t (l.map Xz).flatten;unfold Rt;cases l.isEmpty with
 | true=>exact Em _
 | false=>rw[cond_false];omega
def yB (N t:Nat) (l:List Gn) (ht:t<256) (h31:t % 32≠31) (hN:1048578<N) (hs:Lh l) (h: ∀ g∈l,LU g true=0) (h16:l.length<=16):Ny N (t:Int) l=some (Rt t l,0):=by
 unfold Ny Rt;try simp only[clR]
 rw[len0];cases he:l.isEmpty with
 | true=>rfl
 | false =>
  rw[cond_false,cond_false];have hl:=Ach h h16;refine(Ti (mk:=fun i a=>((i:Int),a)) l (0,[],[]) Xz (fun l=>Jr (Kw N (t:Int) l) fun r45=>some (r45.fst,r45.snd)) ?_ ?_ N).trans ?_
  .intro i a hi ha k;have hg0:=h _ (getD_mem (0,[],[]) hi);have hg:=Y8 N _ true hN (hs _ (getD_mem (0,[],[]) hi));have hb:=Z4 hg0;have w:Kw N 48 [PS (l.getD i (0,[],[]))]=_:=XJ N 48 [PS (l.getD i (0,[],[]))] (by omega) (by omega) hN (by simp) (by rw[JO];omega);rw[JO]at w;unfold oC at hg;rw[hg0]at hg;have w':Sp.elem 48 (PS (l.getD i (0,[],[])))=Xz (l.getD i (0,[],[])):=rfl;simp (disch:=omega) only[JF,hg,w,w',JX]
  .intro a k ha;simp (disch:=omega) only[JF]
  .rw[XJ N t (l.map Xz) ht h31 hN (by rw[D7];omega) (by omega),Jt]
def ApW (N t:Nat) (l:List Gn) (ht:t<256) (h31:t % 32≠31) (hN:1048578<N) (hs:Lh l) (h: ∀ g∈l,LU g true=0) (h16:l.length<=16):U1 N (t:Int) l=some (Rt t l,0):=by
 unfold U1 Rt;try simp only[clR]
 rw[len0];cases he:l.isEmpty with
 | true=>rfl
 | false =>
  rw[cond_false,cond_false];have hl:=Ach h h16;refine(Zm (mk:=fun i a=>(a,(i:Int))) l (0,[],[]) Xz (fun s=>Jr (LV N (t:Int) [s]) fun r34=>some (r34.fst,r34.snd)) ?_ ?_ N).trans ?_
  .intro i a hi ha k;have hg0:=h _ (getD_mem (0,[],[]) hi);have hg:=jF N _ true hN (hs _ (getD_mem (0,[],[]) hi));have hb:=Z4 hg0;have w:JK N 48 [PS (l.getD i (0,[],[]))]=_:=Q9 N 48 [PS (l.getD i (0,[],[]))] (by omega) (by omega) hN (by simp) (by rw[JO];omega);rw[JO]at w;unfold oC at hg;rw[hg0]at hg;have w':Sp.elem 48 (PS (l.getD i (0,[],[])))=Xz (l.getD i (0,[],[])):=rfl;simp (disch:=omega) only[JF,hg,w,w',JX]
  .intro a k;simp (disch:=omega) only[JF]
  .rw[bG N t [(l.map Xz).flatten] ht h31 (by show 1<N;omega) (by show 1<=_;omega) (by rw[JO];omega),JO,ZV (by omega),Jt];rfl
def Y7 (t:Nat) (c:Bs):Bs×Int:=((KT t c).getD [],if(KT t c).isNone then 2 else 0)
def OL (s:St2):Bs×Int:=bif ZP s != 0 then([],ZP s)else Y7 48 (Rt 160 s.1++Rt 161 s.2)
def Aqh {s:St2} (h:ZP s=0):s.1.length<=16/\s.2.length<=16/\(∀ g∈s.1,LU g true=0)/\ ∀ g∈s.2,LU g true=0:=by
 unfold ZP at h;cases h1:s.1.isEmpty&&s.2.isEmpty with
 | true=>rw[h1]at h;cases h
 | false =>
  rw[h1,cond_false]at h;cases h2:(decide (16<s.1.length)||decide (16<s.2.length))with
  | true=>rw[h2]at h;cases h
  | false =>rw[h2,cond_false]at h;rw[Fe,Eh,Eh]at h2;have:=VO h;exact⟨by omega,by omega,fun g hg=>this g (DL _ hg),fun g hg=>this g (DJ _ hg)⟩
def Ads (N:Nat) (s:St2) (hN:1048578<N) (h1:Lh s.1) (h2:Lh s.2):WN N s=some (OL s):=by
 unfold WN OL;try simp only[clR]
 rw[l9 N s hN h1 h2,Jt,<- JY];refine KJ fun h0=> ?_;obtain⟨a1,a2,a3,a4⟩:=Aqh (show ZP s=0 by simpa using h0);have e1:Ny N 160 s.1=_:=yB N 160 s.1 (by omega) (by omega) hN h1 a3 a1;have e2:Ny N 161 s.2=_:=yB N 161 s.2 (by omega) (by omega) hN h2 a4 a2;have e3:Kw N 48 [Rt 160 s.1,Rt 161 s.2]=_:=Vg N 48 [Rt 160 s.1,Rt 161 s.2] (by omega) (by omega) (by show 2<N;omega) (by show 2<=_;omega);rw[OW]at e3;rw[e1,Jt,e2];simp only[Jt];rw[e3];simp only[Jt];unfold Y7;cases KT 48 (Rt 160 s.1++Rt 161 s.2)<;>rfl
def AcC (N:Nat) (s:St2) (hN:1048578<N) (h1:Lh s.1) (h2:Lh s.2):OH N s=some (OL s):=by
 unfold OH OL;try simp only[clR]
 rw[jE N s hN h1 h2,Jt,<- JY];refine KJ fun h0=> ?_;obtain⟨a1,a2,a3,a4⟩:=Aqh (show ZP s=0 by simpa using h0);have l1:=Ajg (t:=160) a3 a1;have l2:=Ajg (t:=161) a4 a2;have e1:U1 N 160 s.1=_:=ApW N 160 s.1 (by omega) (by omega) hN h1 a3 a1;have e2:U1 N 161 s.2=_:=ApW N 161 s.2 (by omega) (by omega) hN h2 a4 a2;have e3:LV N 48 [Rt 160 s.1,Rt 161 s.2]=_:=bG N 48 [Rt 160 s.1,Rt 161 s.2] (by omega) (by omega) (by show 2<N;omega) (by show 2<=_;omega) (by rw[OW,Dv];omega);rw[OW]at e3;rw[e1,Jt,e2];simp only[Jt];rw[e3];simp only[Jt];rfl
def flB (n:Int):Bs:=((RN 70 n).getD ([],0)).1
def inB (n:Int):Bs:=(NK 70 n).getD []
def flags_all (M:Nat): ∀ n:Fin 512,RN (M+70) (n.val:Int)=some (flB (n.val:Int),0)/\WC (M+70) (n.val:Int)=some (flB (n.val:Int),0)/\(flB (n.val:Int)).length<=3 :=
 DC (by kernel_rfl)
def AvG (M:Nat): ∀ n:Fin 66,NK (M+70) ((n.val:Int) - 1)=some (inB ((n.val:Int) - 1))/\P9 (M+70) ((n.val:Int) - 1)=some (inB ((n.val:Int) - 1))/\(inB ((n.val:Int) - 1)).length<=2 :=
 DC (by kernel_rfl)
def ZX (N:Nat) (n:Int) (hN:1048578<N) (h0:0<=n) (h1:n<512):RN N n=some (flB n,0)/\WC N n=some (flB n,0)/\(flB n).length<=3:=by
 obtain⟨M,rfl⟩: ∃ M,N=M+70:=⟨N - 70,by omega⟩
 have:=flags_all M ⟨n.toNat,by omega⟩;rw[show((⟨n.toNat,by omega⟩:Fin 512).val:Int)=n from H8 h0]at this;exact this
def UG (N:Nat) (n:Int) (hN:1048578<N) (h:spI n=true):NK N n=some (inB n)/\P9 N n=some (inB n)/\(inB n).length<=2:=by
 obtain⟨M,rfl⟩: ∃ M,N=M+70:=⟨N - 70,by omega⟩
 obtain⟨h0,h1⟩:=Au7 h;have:=AvG M ⟨(n+1).toNat,by omega⟩;rw[show((⟨(n+1).toNat,by omega⟩:Fin 66).val:Int) - 1=n from by show((n+1).toNat:Int) - 1=n;omega]at this;exact this
def L6 (n:Int):List Int:=[48+n / 10,48+n % 10]
def AwS (N:Nat) (hN:16<N) (a b c d e:Int) (ha:0<=a/\a<=99) (hb:0<=b/\b<=99) (hc:0<=c/\c<=99) (hd:0<=d/\d<=99) (he:0<=e/\e<=99) (l:List Int) (hl:l.length<=100) {ρ :Type} (kx:List Int->Option ρ) :
 J3 (X:=Int×List Int×List Int) (Y:=(List Int)) (U3 fun t40b l42496b l1000000b k2 x3 =>
  bif decide (t40b<(5:Int))then(chk (decide ((0:Int)<=t40b)) <|
  chk (decide (t40b<(l42496b.length:Int))) <|
  chk (decide (t40b.toNat<l42496b.length)) <|
  Jr (QT N l1000000b (l42496b.getD t40b.toNat 0) 2) fun r46 =>
  k2 (i64.wrap (t40b+(1:Int)),l42496b,r46))
  else(x3 l1000000b)) N (0,[a,b,c,d,e],l) kx=kx (l++(L6 a++(L6 b++(L6 c++(L6 d++L6 e))))):=by
 obtain⟨M,rfl⟩: ∃ M,N=M+8:=⟨N - 8,by omega⟩
 have hN':16<M+8:=hN
 have g: ∀(i:Int) (l:List Int) (v:Int) (n:Nat),i=(n:Int)->n<5->([a,b,c,d,e]:List Int).getD n 0=v->0<=v/\v<=99->l.length<=110-> ∀ F,J3 (X:=Int×List Int×List Int) (Y:=(List Int)) (U3 fun t40b l42496b l1000000b k2 x3 =>
  bif decide (t40b<(5:Int))then(chk (decide ((0:Int)<=t40b)) <|
  chk (decide (t40b<(l42496b.length:Int))) <|
  chk (decide (t40b.toNat<l42496b.length)) <|
  Jr (QT (M+8) l1000000b (l42496b.getD t40b.toNat 0) 2) fun r46 =>
  k2 (i64.wrap (t40b+(1:Int)),l42496b,r46))
  else(x3 l1000000b)) (F+1) (i,[a,b,c,d,e],l) kx=J3 (X:=Int×List Int×List Int) (Y:=(List Int)) (U3 fun t40b l42496b l1000000b k2 x3 =>
  bif decide (t40b<(5:Int))then(chk (decide ((0:Int)<=t40b)) <|
  chk (decide (t40b<(l42496b.length:Int))) <|
  chk (decide (t40b.toNat<l42496b.length)) <|
  Jr (QT (M+8) l1000000b (l42496b.getD t40b.toNat 0) 2) fun r46 =>
  k2 (i64.wrap (t40b+(1:Int)),l42496b,r46))
  else(x3 l1000000b)) F (i+1,[a,b,c,d,e],l++L6 v) kx:=by
  intro i l v n hi hn hv h99 hl F;have h5:([a,b,c,d,e]:List Int).length=5:=rfl;rw[L8];dsimp only[U3];rw[h5,Dk,cond_true,Dk,Jz,Dk,Jz,Dk,Jz,show i.toNat=n by omega,hv,AhY _ hN' l v h99.1 h99.2 (by omega),Jt,w64];rfl
 have ll: ∀(l:List Int) (v:Int),(l++L6 v).length=l.length+2:=fun l v=>by rw[Dv];rfl
 rw[g 0 l a 0 rfl (by omega) rfl ha (by omega),g (0+1) _ b 1 rfl (by omega) rfl hb (by rw[ll];omega),g (0+1+1) _ c 2 rfl (by omega) rfl hc (by rw[ll,ll];omega),g (0+1+1+1) _ d 3 rfl (by omega) rfl hd (by rw[ll,ll,ll];omega),g (0+1+1+1+1) _ e 4 rfl (by omega) rfl he (by rw[ll,ll,ll,ll];omega),L8];dsimp only[U3];rw[A0x,cond_false];refine congrArg kx ?_;simp only[Ee]
def Aa1 (x:Int):Prop:=48<=x/\x<=57
def jD {n:Int} (h:0<=n/\n<=99): ∀ x∈L6 n,Aa1 x:=by intro x hx;simp only[L6,D8,F6,Ho]at hx;unfold Aa1;rcases hx with rfl | rfl<;>omega
def AlU {l:List Int} (h: ∀ x∈l,Aa1 x):List.all l isByte=true:=by rw[DF];intro x hx;have:=h x hx;unfold Aa1 at this;unfold isByte;simp;omega
section
variable (N:Nat) (hN:1048578<N)
include hN
theorem AnI (t:Nat) (l:List Bs) (ht:t<256) (h31:t % 32≠31) (hl:l.length<=1000) (hs:l.flatten.length<=131072):SE N (t:Int) l=some (Sp.elem t l.flatten,0):=by rw[fB N t l ht h31,ZV hs];rfl
theorem AuE (t:Int) (h0:0<=t) (h1:t<=254033452799): ∃ b,QC N t=some (b,0)/\Oe N t=some (b,0)/\b.length<=30:=by
 obtain⟨⟨⟨y,mo,da,h,mi,s⟩,e⟩,hC,hok,he⟩:=AsE N hN t h0 h1;dsimp only at he;subst he;obtain⟨⟨y0,y1⟩,⟨mo0,mo1⟩,⟨da0,da1⟩,⟨hh0,hh1⟩,⟨mi0,mi1⟩,s0,s1⟩:=hok;dsimp only at y0 y1 mo0 mo1 da0 da1 hh0 hh1 mi0 mi1 s0 s1;have hC':=(Aqk N t h0 h1).trans hC;have h16:16<N:=by omega
 have hy:0<=y.tmod 100/\y.tmod 100<=99:=by rw[DT (by omega)];omega
 have T: ∀ x:Int,0<=x/\x<=99->Oo N x 2=some ((L6 x).map Vm.byteOf):=fun x hx=>AxF N h16 x hx.1 hx.2;have hl2: ∀ x:Int,((L6 x).map Vm.byteOf).length=2:=fun x=>rfl
 have ten: ∀ pre:List Int,(∀ x∈pre,Aa1 x)-> ∀ x∈pre++(L6 mo++(L6 da++(L6 h++(L6 mi++L6 s)))),Aa1 x:=by
  intro pre hp x hx;simp only[DR]at hx;rcases hx with hx | hx | hx | hx | hx | hx
  .exact hp x hx
  .exact jD (by omega) x hx
  .exact jD (by omega) x hx
  .exact jD (by omega) x hx
  .exact jD (by omega) x hx
  .exact jD (by omega) x hx
 by_cases hY:y<2050
 .refine⟨Sp.elem 23 ((L6 (y.tmod 100)++(L6 mo++(L6 da++(L6 h++(L6 mi++L6 s))))).map Vm.byteOf++[90]),?_,?_,?_⟩
  .unfold QC;try simp -zeta only[Ap]
   rw[hC,Jt];dsimp only;rw[show((0:Int) != 0)=false from rfl,cond_false,AhY N h16 [] _ hy.1 hy.2 (by simp),Jt,P6];rw[A0x,cond_false];dsimp only[U8];rw[AwS N h16 mo da h mi s (by omega) (by omega) (by omega) (by omega) (by omega) _ (by simp)];rw[List.nil_append];rw[show([48+y.tmod 100 / 10,48+y.tmod 100 % 10]:List Int)=L6 (y.tmod 100)from rfl,AlU (ten _ (jD hy)),Jz];rw[show(23:Int)=((23:Nat):Int)from rfl,XJ N 23 _ (by omega) (by omega) hN (by simp) (by simp [L6]),Jt];simp [L6]
  .unfold Oe;try simp -zeta only[Ap]
   rw[hC',Jt];dsimp only;rw[show((0:Int) != 0)=false from rfl,cond_false,T mo (by omega),Jt,T da (by omega),Jt,T h (by omega),T mi (by omega),T s (by omega),T _ hy];simp only[Jt,Dv,hl2];rw[Dk hY,cond_true];simp only[List.length_singleton,FV,Jz];rw[show(23:Int)=((23:Nat):Int)from rfl,AnI N hN 23 _ (by omega) (by omega) (by simp) (by simp [L6]),Jt];simp [L6,Jz]
  .have:=Sp.JQ 23 ((L6 (y.tmod 100)++(L6 mo++(L6 da++(L6 h++(L6 mi++L6 s))))).map Vm.byteOf++[90]);simp [L6]at this ⊢;omega
 .have f4: ∀ x∈([48+y / 1000,48+y / 100 % 10,48+y / 10 % 10,48+y % 10]:List Int),Aa1 x:=by
   intro x hx;simp only[D8,F6,Ho]at hx;unfold Aa1;rcases hx with rfl | rfl | rfl | rfl<;>omega
  refine⟨Sp.elem 24 (([48+y / 1000,48+y / 100 % 10,48+y / 10 % 10,48+y % 10]++(L6 mo++(L6 da++(L6 h++(L6 mi++L6 s))))).map Vm.byteOf++[90]),?_,?_,?_⟩
  .unfold QC;try simp -zeta only[Ap]
   rw[hC,Jt];dsimp only;rw[show((0:Int) != 0)=false from rfl,cond_false,AhY N h16 [] _ hy.1 hy.2 (by simp),Jt,P6];rw[Dk,cond_true,AxI N h16 y (by omega) (by omega),Jt];dsimp only[U8];rw[AwS N h16 mo da h mi s (by omega) (by omega) (by omega) (by omega) (by omega) _ (by simp)];rw[AlU (ten _ f4),Jz];rw[show(24:Int)=((24:Nat):Int)from rfl,XJ N 24 _ (by omega) (by omega) hN (by simp) (by simp [L6]),Jt];simp [L6]
  .unfold Oe;try simp -zeta only[Ap]
   rw[hC',Jt];dsimp only;rw[show((0:Int) != 0)=false from rfl,cond_false,T mo (by omega),Jt,T da (by omega),Jt,T h (by omega),T mi (by omega),T s (by omega),AxG N h16 y (by omega) (by omega)];simp only[Jt,Dv,hl2];rw[Dq hY,cond_false];simp only[List.length_singleton,FV,Jz,D7,List.length_cons,List.length_nil];rw[show(24:Int)=((24:Nat):Int)from rfl,AnI N hN 24 _ (by omega) (by omega) (by simp) (by simp [L6]),Jt];simp [L6,Jz]
  .have:=Sp.JQ 24 (([48+y / 1000,48+y / 100 % 10,48+y / 10 % 10,48+y % 10]++(L6 mo++(L6 da++(L6 h++(L6 mi++L6 s))))).map Vm.byteOf++[90]);simp [L6]at this ⊢;omega
omit hN in
theorem AmG (k:Int×Bs×Bs):TY N k=Nv N k:=by unfold TY Nv;first | rfl | (simp -zeta only[Ap];rfl) | (simp only[Ap];rfl)
def vS (k:Int×Bs×Bs):Int:=bif decide (k.1<0)||decide (k.1>8)||((k.2.1.length:Int) != 16)||((k.2.2.length:Int) != 16)then 18 else 0
omit hN in
theorem mQ (k:Int×Bs×Bs):Nv N k=some (vS k):=by
 unfold Nv vS;try simp only[clR]
 generalize decide (k.1<0)=a;generalize decide (k.1>8)=b;generalize ((k.2.1.length:Int) != 16)=c;generalize ((k.2.2.length:Int) != 16)=d;cases a<;>cases b<;>cases c<;>cases d<;>rfl
omit hN in
theorem Ax5 {k:Int×Bs×Bs} (h:vS k=0):0<=k.1/\k.1<=8/\k.2.1.length=16/\k.2.2.length=16:=by
 unfold vS at h;cases hb:(decide (k.1<0)||decide (k.1>8)||((k.2.1.length:Int) != 16)||((k.2.2.length:Int) != 16))with
 | true=>rw[hb]at h;cases h
 | false =>simp only[Fe,Eh,bne_eq_false_iff_eq]at hb;omega
def jG:Bs:=(MS 300).getD []
def AwE (M:Nat):Bool:=MS (M+300)==some jG&&Ql (M+300)==some jG
omit hN in
theorem Axi (M:Nat):AwE M=true:=by kernel_rfl
omit hN in
theorem AuY (M:Nat):MS (M+300)=some jG/\Ql (M+300)=some jG:=by have h:=Axi M;unfold AwE at h;rw[Dx,Fb,Fb]at h;exact h
omit hN in
theorem Al5:jG.length<=40:=by decide +kernel
theorem Acj:MS N=some jG/\Ql N=some jG:=by
 obtain⟨M,rfl⟩: ∃ M,N=M+300:=⟨N - 300,by omega⟩
 exact AuY M
def oI (k:Int×Bs×Bs):Bs:=([Vm.byteOf (u8.wrap k.1)]++k.2.1)++k.2.2
def AmF (k:Int×Bs×Bs):Bs:=Sp.elem 48 (jG++Sp.elem 3 ([0]++oI k))
theorem AhM {k:Int×Bs×Bs} (h:vS k=0):Wy N k=some (AmF k,0)/\V5 N k=some (AmF k,0)/\(AmF k).length<=200:=by
 obtain⟨_,_,k1,k2⟩:=Ax5 h;have hb:List.all ([u8.wrap k.1]:List Int) isByte=true:=by rw[List.all_cons,OT];rfl
 have hz:List.all ([u8.wrap 0]:List Int) isByte=true:=by rw[List.all_cons,OT];rfl
 have hl:(oI k).length=33:=by unfold oI;rw[Dv,Dv,k1,k2];rfl
 have ha:=Al5;have h3:=Sp.JQ 3 ([0]++oI k);have hc:([0]++oI k:Bs).length=34:=by rw[Dv,hl];rfl
 have h4:(jG++Sp.elem 3 ([0]++oI k)).length<=100:=by rw[Dv];omega
 have c1:(List.map Vm.byteOf [u8.wrap k.1]).length+k.2.1.length<=140737488355328:=by rw[k1];show 1+16<=_;decide
 have c2:(List.map Vm.byteOf [u8.wrap k.1]++k.2.1).length+k.2.2.length<=140737488355328:=by rw[Dv,k1,k2];show 1+16+16<=_;decide
 have m1:List.map Vm.byteOf [u8.wrap k.1]=[Vm.byteOf (u8.wrap k.1)]:=rfl;refine⟨?_,?_,?_⟩
 .unfold Wy;rw[mQ,Jt,h,show((0:Int) != 0)=false from rfl,cond_false];unfold YD;try simp -zeta only[Ap]
  rw[hb,Jz,Dk c1,Jz,Dk c2,Jz,Jt]
  have hp:VQ N (oI k) 0=some ([0]++oI k,0):=by
   unfold VQ YQ;try simp -zeta only[Ap]
   rw[show((0:Int)==0)=true from rfl,cond_true,Jt,show decide ((0:Int)<0)=false from rfl,show decide ((0:Int)>7)=false from rfl];simp only[Eu,EI,EM,Ea,Jz,cond_false,cond_true,hz];rw[Dk (by rw[hl];decide),Jz];rfl
  refine(congrArg (fun o=>Jr o _) hp).trans ?_;rw[Jt];dsimp only;rw[show((0:Int) != 0)=false from rfl,cond_false,show(3:Int)=((3:Nat):Int)from rfl,XJ N 3 _ (by omega) (by omega) hN (by simp) (by rw[JO];omega),Jt,JO];dsimp only;rw[show((0:Int) != 0)=false from rfl,cond_false,(Acj N hN).1,Jt,show(48:Int)=((48:Nat):Int)from rfl,XJ N 48 _ (by omega) (by omega) hN (by simp) (by rw[OW];omega),Jt,OW];rfl
 .unfold V5;try simp -zeta only[Ap]
  rw[AmG,mQ,Jt,h,show((0:Int) != 0)=false from rfl,cond_false,(Acj N hN).2,Jt];unfold AbN AeQ;try simp -zeta only[Ap]
  rw[hb,Jz,Jt,Dk c1,Jz,Dk c2,Jz,Jt];rw[m1];have e:([Vm.byteOf (u8.wrap k.1)]++k.2.1)++k.2.2=oI k:=rfl;rw[e,Dk (by rw[hl];decide),Jz,show(3:Int)=((3:Nat):Int)from rfl,Q9 N 3 _ (by omega) (by omega) hN (by simp) (by rw[JO];omega),Jt,JO];rw[show(48:Int)=((48:Nat):Int)from rfl,Q9 N 48 _ (by omega) (by omega) hN (by simp) (by rw[OW];omega),Jt,OW];rfl
 .have:=Sp.JQ 48 (jG++Sp.elem 3 ([0]++oI k));unfold AmF;omega
omit hN in
theorem AxJ (v:Int) (h1: -9223372036854775808<=v) (h2:v<=9223372036854775807):(Sp.Ux v).length<=8:=by obtain⟨k,hk7,hf,hm⟩:=Sp.AfF v 7 (Sp.AwL v h1 h2);rw[Sp.yE v k hk7 hf hm,Sp.dW];omega
def AeB (v:Int):Bs:=Sp.elem 2 (Sp.Ux v)
theorem Ya (v:Int) (h1: -9223372036854775808<=v:=by omega) (h2:v<=9223372036854775807:=by omega):(∀ b,N7 N b v=some (AeB v,b))/\LD N 2 v=some (AeB v)/\(AeB v).length<=13:=by
 have hl:=AxJ v h1 h2;refine⟨fun b=> ?_,?_,?_⟩
 .unfold N7;rw[Abs N v (by omega) h1 h2,Jt,show(2:Int)=((2:Nat):Int)from rfl,We N 2 b _ (by omega) (by omega) hN (by simp) (by rw[JO];omega),Jt,JO];rfl
 .unfold LD;rw[Adq N v (by omega),Jt,show(2:Int)=((2:Nat):Int)from rfl,Q9 N 2 _ (by omega) (by omega) hN (by simp) (by rw[JO];omega),Jt,JO];rfl
 .have:=Sp.JQ 2 (Sp.Ux v);unfold AeB;omega
end
def zE:Ex:=([],false,[])
def Ac7 (k:Bs) (x:Ex):Bool:=x.1==k
section
variable (N:Nat) (hN:1048578<N)
include hN
def exI (l:List Ex) (i:Nat):Int:=bif !LY (l.getD i zE).1 then 11 else bif (l.take i).any (Ac7 (l.getD i zE).1)then 10 else Sp.chk (l.getD i zE).2.2
def Y4 (l:List Ex):Int:=bif l.isEmpty then 7 else bif decide (24<l.length)then 2 else Ky (exI l) (List.range l.length)
theorem AiB (l:List Ex) (hs: ∀ x∈l,TZ x): ∀(r s:List Ex),s++r=l->Ul N s r=some (Ky (exI l) (List.range' s.length r.length))
 | [],_,_=>rfl
 | x::r,s,e=>by
  have hx:=hs x (by rw[<- e];simp);have h2:x.2.2.length<=1048576:=hx.2;have ih:=AiB l hs r (s++[x]) (by rw[<- e];simp);rw[Dv,show s.length+ [x].length=s.length+1 from rfl]at ih;have e1:exI l s.length=bif !LY x.1 then 11 else bif s.any (Ac7 x.1)then 10 else Sp.chk x.2.2:=by unfold exI;rw[<- e];simp
  rw[Ul,VP N _ hN hx.1,Jt,Ace N _ (by omega) (by omega) (by omega),Jt,ih,show(x::r).length=r.length+1 from rfl,List.range'_succ,PK,e1,show(fun y:Ex=>y.1==x.1)=Ac7 x.1 from rfl];cases LY x.1 with
  | false=>rfl
  | true =>
   cases s.any (Ac7 x.1)with
   | true=>rfl
   | false =>show(bif Sp.chk x.2.2 != 0 then some (Sp.chk x.2.2)else _)=some (bif Sp.chk x.2.2 != 0 then Sp.chk x.2.2 else _);cases Sp.chk x.2.2 != 0<;>rfl
theorem Ami (l:List Ex) (hs: ∀ x∈l,TZ x):VH N l=some (Y4 l):=by
 unfold VH Y4;cases l.isEmpty with
 | true=>rfl
 | false =>
  rw[cond_false,cond_false];cases decide (24<l.length)with
  | true=>rfl
  | false =>rw[cond_false,cond_false,show(l.all fun x=>decide (x.1.length<=1048576))=true from DF.2 fun x hx=>Dk (hs x hx).1,cond_true,AiB N hN l hs l [] rfl,List.range_eq_range'];rfl
theorem Alq (l:List Ex) (hs: ∀ x∈l,TZ x):Qn N l=some (Y4 l):=by
 unfold Qn Y4;rw[len0];cases l.isEmpty with
 | true=>rfl
 | false =>
  rw[cond_false,cond_false,show decide ((l.length:Int)>24)=decide (24<l.length)from MX _ 24];by_cases h24:24<l.length
  .rw[Dk h24];rfl
  rw[Dq h24,cond_false,cond_false];unfold YY;try simp -zeta only[Ap]
  refine(congrArg (fun o=>Jr o fun r10=>some r10) ((Un (mk:=fun i=>(i:Int)) l.length (exI l) (fun e=>some e) (some 0) ?_ ?_ N).trans (first_some _))).trans rfl
  .intro i hi k;dsimp only;have hx:=hs _ (getD_mem zE hi);rw[Dk,cond_true,Dk (show(0:Int)<=(i:Int) by omega),Jz,Jz,Int.toNat_natCast,w64];show Jr (LP N (l.getD i zE).1) _=_;rw[WY N _ hN hx.1,Jt];unfold exI;cases LY (l.getD i zE).1 with
   | false=>rfl
   | true =>show chk (decide ((0:Int)<=(i:Int))) (chk (decide ((i:Int)<=(l.length:Int))) (Jr (WI N (J6 l 0 i) (l.getD i zE).1) _))=_;rw[Dk,Jz,Dk,Jz,VE];obtain⟨r,hr⟩:=Ap7 N (l.take i) (l.getD i zE).1 (by rw[DD];omega) (by rw[DD];omega);rw[hr,Jt];show(bif (l.take i).any (Ac7 (l.getD i zE).1)then some 10 else Jr (Vb N (l.getD i zE).2.2) _)=_;have h2:(l.getD i zE).2.2.length<=1048576:=hx.2;all_goals grind[rZ,Jt,Ac7,zE]
  .intro k;dsimp only;rw[A0x];rfl
def wH (x:Ex) (v:Bs):Bs:=Sp.elem 6 (Na x.1)++((bif x.2.1 then Sp.elem 1 [255]else [])++v)
def RD (x:Ex):Option Bs:=(KT 4 x.2.2).bind fun v=>KT 48 (wH x v)
theorem Ame (x:Ex) (hs:TZ x) (h:LY x.1=true): ∃ e,UM N x=some ((RD x).getD [],e)/\(e != 0)=(RD x).isNone:=by
 obtain⟨hc,hl⟩:=Yb h;have h0:(Na x.1).length<=131072:=by omega
 have hE:SB N x.1=some (Na x.1,0):=by rw[eU N x.1 (by omega) hs.1,hc]
 unfold UM RD;try simp -zeta only[Ap]
 rw[hE,Jt];dsimp only;rw[show((0:Int) != 0)=false from rfl,cond_false,show(6:Int)=((6:Nat):Int)from rfl,XJ N 6 _ (by omega) (by omega) hN (by simp) (by rw[JO];omega),Jt,JO];dsimp only;rw[show((0:Int) != 0)=false from rfl,cond_false]
 have fin: ∀ c:Bs,(c=bif x.2.1 then Sp.elem 1 [255]else [])-> ∃ e,(Jr (Kw N 4 [x.2.2]) fun r46=>chk (decide ((2:Int)<(([Sp.elem 6 (Na x.1),c,[]]:List Bs).length:Int)))<|chk (decide (2<([Sp.elem 6 (Na x.1),c,[]]:List Bs).length)) <|
  bif (r46.2 != (0:Int))then(some (([]:Bs),r46.2))else(Jr (Kw N 48 (([Sp.elem 6 (Na x.1),c,[]]:List Bs).set 2 r46.1)) fun r54=>some (r54.1,r54.2)))=some (((KT 4 x.2.2).bind fun v=>KT 48 (wH x v)).getD [],e)/\(e != 0)=((KT 4 x.2.2).bind fun v=>KT 48 (wH x v)).isNone:=by
  intro c hc;rw[show(4:Int)=((4:Nat):Int)from rfl,Vg N 4 _ (by omega) (by omega) (by simp;omega) (by simp),Jt,JO];rw[show decide ((2:Int)<(([Sp.elem 6 (Na x.1),c,[]]:List Bs).length:Int))=true from rfl,Jz,show decide (2<([Sp.elem 6 (Na x.1),c,[]]:List Bs).length)=true from rfl,Jz];cases hw:KT 4 x.2.2 with
  | none=>exact⟨6,rfl,rfl⟩
  | some v =>dsimp only;show ∃ e,(Jr (Kw N 48 [Sp.elem 6 (Na x.1),c,v]) fun r54=>some (r54.1,r54.2))=some ((KT 48 (wH x v)).getD [],e)/\_;rw[show(48:Int)=((48:Nat):Int)from rfl,Vg N 48 _ (by omega) (by omega) (by simp;omega) (by simp),Jt,flat3,hc];refine⟨_,rfl,?_⟩;all_goals grind[KT,wH]
 cases hb:x.2.1 with
 | true =>rw[P6,cond_true];have hp:Vz N true=some [255]:=rfl;rw[hp,Jt,show(1:Int)=((1:Nat):Int)from rfl,XJ N 1 _ (by omega) (by omega) hN (by simp) (by rw[JO];decide),Jt,JO];dsimp only;rw[show((0:Int) != 0)=false from rfl,cond_false];exact fin (Sp.elem 1 [255]) (by rw[hb];rfl)
 | false =>rw[P6,cond_false];exact fin [] (by rw[hb];rfl)
def Um (l:List Ex):Bs×Int:=bif Y4 l != 0 then([],Y4 l)else bif l.any (fun x=>(RD x).isNone)then([],2)else Y7 48 (l.map fun x=>(RD x).getD []).flatten
omit hN in
theorem ApO {l:List Ex} (h:Y4 l=0):l≠ []/\l.length<=24/\ ∀ x∈l,LY x.1=true:=by
 unfold Y4 at h;cases he:l.isEmpty with
 | true=>rw[he]at h;cases h
 | false =>
  rw[he,cond_false]at h;by_cases h24:24<l.length
  .simp_all[Ex,Y4,LY]
  .rw[Dq h24,cond_false]at h;refine⟨(fun e=>by rw[e]at he;cases he),by omega,fun x hx=> ?_⟩;obtain⟨i,hi,rfl⟩:=FP.1 hx;have h1:=VO h i (Gx.2 hi);all_goals grind[exI,getD_lt,zE,hi,LY]
omit hN in
theorem AvY (x:Ex):((RD x).getD []).length<=131077:=by grind[RD,KT,dP]
omit hN in
theorem At5 (l:List Ex):Ky (fun x=>bif (RD x).isNone then(2:Int)else 0) l=bif l.any (fun x=>(RD x).isNone)then 2 else 0:=by
 induction l with
 | nil=>rfl
 | cons x r ih=>grind[PK,RD]
theorem AjJ (l:List Ex) (hs: ∀ x∈l,TZ x):iD N l=some (Um l):=by
 unfold iD Um;try simp -zeta only[Ap]
 rw[Ami N hN l hs,Jt];by_cases h0:Y4 l=0
 .obtain⟨h1,h2,h3⟩:=ApO h0;rw[h0,show((0:Int) != 0)=false from rfl,cond_false,cond_false];refine(Amw (mk:=fun i acc=>((i:Int),acc)) l zE (fun x=>bif (RD x).isNone then(2:Int)else 0) (fun x=>(RD x).getD []) (fun _=>some ([],2)) (fun ls=>some (Y7 48 ls.flatten)) ?_ ?_ N (by omega)).trans ?_
  .intro i acc hi ha k;dsimp only[U2];have hm:=getD_mem zE hi;rw[Dk,cond_true,Dk (show(0:Int)<=(i:Int) by omega),Jz,Jz,Int.toNat_natCast];obtain⟨e,he,hn⟩:=Ame N hN (l.getD i zE) (hs _ hm) (h3 _ hm);show Jr (UM N (l.getD i zE)) _=_;rw[he,Jt];dsimp only;rw[hn,Dk,Jz,w64];cases (RD (l.getD i zE)).isNone<;>rfl
  .intro acc k ha;dsimp only[U2];rw[A0x,cond_false,show(48:Int)=((48:Nat):Int)from rfl,Vg N 48 _ (by omega) (by omega),Jt];unfold Y7;cases KT 48 acc.flatten<;>rfl
  .rw[At5];cases l.any (fun x=>(RD x).isNone)<;>rfl
 .rw[show(Y4 l != 0)=true from EE.2 h0];rfl
theorem Ajw (l:List Ex) (hs: ∀ x∈l,TZ x):PM N l=some (Um l):=by
 unfold PM Um;try simp -zeta only[Ap]
 rw[Alq N hN l hs,Jt];by_cases h0:Y4 l=0
 .obtain⟨h1,h2,h3⟩:=ApO h0;rw[h0,show((0:Int) != 0)=false from rfl,cond_false,cond_false];have hfl:(l.map fun x=>(RD x).getD []).flatten.length<=131077*l.length:=Lp fun x _=>AvY x;refine(uG (mk:=fun i t=>(t,(i:Int))) l zE (fun x=>bif (RD x).isNone then(2:Int)else 0) (fun x=>(RD x).getD []) (fun _=>some ([],2)) (fun t=>Jr (LV N 48 [t]) fun r57=>some (r57.1,r57.2)) ?_ ?_ N).trans ?_
  .intro i t hi ht k;dsimp only[U2];have hm:=getD_mem zE hi;have hx:=hs _ hm;have hv:=h3 _ hm;rw[Dk,cond_true,Dk (show(0:Int)<=(i:Int) by omega),Jz,Jz,Int.toNat_natCast];have e:l.getD i ([],false,[])=l.getD i zE:=rfl;rw[e];generalize l.getD i zE=x at hx hv ht ⊢;obtain⟨hc,hl⟩:=Yb hv;have h22:x.2.2.length<=1048576:=hx.2
   have fin: ∀ c:Bs,(c=bif x.2.1 then Sp.elem 1 [255]else [])->(Jr (LV N 4 ([x.2.2]:List Bs)) fun r32 =>
    bif (r32.2 != (0:Int))then(some (([]:Bs),r32.2))
    else(Jr (PW N x.1) fun r41 =>
    Jr (LV N 48 ([r41,c,r32.1]:List Bs)) fun r45 =>
    bif (r45.2 != (0:Int))then(some (([]:Bs),r45.2))
    else(chk (decide (t.length+r45.1.length<=140737488355328)) <|
    k (t++r45.1,i64.wrap ((i:Int)+(1:Int))))))=bif (bif (RD x).isNone then(2:Int)else 0) != 0 then some ([],2)else k (t++(RD x).getD [],((i+1:Nat):Int)):=by
    intro c hc';have hcl:c.length<=10:=by rw[hc'];cases x.2.1<;>decide
    rw[show(4:Int)=((4:Nat):Int)from rfl,bG N 4 _ (by omega) (by omega) (by simp;omega) (by simp) (by rw[JO];omega),Jt,JO];unfold RD at ht ⊢;cases hw:KT 4 x.2.2 with
    | none=>rfl
    | some v =>
     have hvl:v.length<=131077:=by have:=dP (t:=4) (c:=x.2.2);rw[hw]at this;exact this
     dsimp only;rw[hw]at ht;have h6:=Sp.JQ 6 (Na x.1);rw[show((if(some v).isNone=true then(2:Int)else 0) != 0)=false from rfl,cond_false,show(some v).getD ([]:Bs)=v from rfl];rw[WJ N x.1 hN hx.1 hv,Jt,show(48:Int)=((48:Nat):Int)from rfl,bG N 48 _ (by omega) (by omega) (by simp;omega) (by simp) (by rw[flat3,Dv,Dv];omega),Jt,flat3,hc'];have ho:(some v).bind (fun v=>KT 48 (wH x v))=KT 48 (wH x v):=rfl;rw[ho]at ht ⊢;rw[show Sp.elem 6 (Na x.1)++((bif x.2.1 then Sp.elem 1 [255]else [])++v)=wH x v from rfl];dsimp only;generalize KT 48 (wH x v)=o at ht ⊢;cases o with
     | none=>rfl
     | some z =>have ht':t.length+z.length<=131077*l.length:=GI ht hfl;show chk (decide (t.length+z.length<=140737488355328)) (k (t++z,_))=k (t++z,_);rw[Dk,Jz,w64];rfl
   rw[P6];cases hb:x.2.1 with
   | true =>rw[cond_true];have hp:Uy N true=some [255]:=rfl;rw[hp,Jt,show(1:Int)=((1:Nat):Int)from rfl,Q9 N 1 _ (by omega) (by omega) hN (by simp) (by rw[JO];decide),Jt,JO];exact fin _ (by rw[hb];rfl)
   | false =>rw[cond_false];exact fin _ (by rw[hb];rfl)
  .intro t k;dsimp only[U2];rw[A0x,cond_false]
  .rw[At5];cases l.any (fun x=>(RD x).isNone)with
   | true=>rfl
   | false =>show(Jr (LV N 48 [_]) fun r57=>some (r57.1,r57.2))=some (Y7 48 _);rw[show(48:Int)=((48:Nat):Int)from rfl,bG N 48 _ (by omega) (by omega) (by simp;omega) (by simp) (by rw[JO];omega),Jt,JO];rfl
 .rw[show(Y4 l != 0)=true from EE.2 h0];rfl
end
def AxA {r:Int} (h0: -9223372036854775808<=r) (h1:r<=9223372036854775807) (h:JE .andNot .i64 r 510=0):0<=r/\r<512:=by
 have e:JE .andNot .i64 r 510=i64.wrap ((BitVec.ofInt 64 r &&& ~~~(510#64)).toNat:Int):=rfl;rw[e]at h;generalize hb:BitVec.ofInt 64 r=b at h
 have hz:(b &&& ~~~(510#64)).toNat=0:=by
  have hlt:=(b &&& ~~~(510#64)).isLt;generalize (b &&& ~~~(510#64)).toNat=n at h hlt;have e2:i64.wrap (n:Int)=if 9223372036854775808<=(n:Int) % 18446744073709551616 then(n:Int) % 18446744073709551616 - 18446744073709551616 else(n:Int) % 18446744073709551616:=by show(if(true&&decide ((n:Int) % 18446744073709551616>=9223372036854775808))=true then _ else _)=_;all_goals grind[JE]
  rw[e2]at h;split at h<;>omega
 have hz2:b &&& ~~~(510#64)=0#64:=BitVec.eq_of_toNat_eq (by rw[hz];rfl)
 have hle:b.toNat<=510:=by
  have:b=b &&& 510#64:=by
   apply BitVec.eq_of_getLsbD_eq;intro i hi;have hq:(b &&& ~~~(510#64)).getLsbD i=false:=by rw[hz2];simp
   rw[Jb,BitVec.getLsbD_not]at hq;rw[Jb];have hd:decide (i<64)=true:=Dk hi;all_goals simp_all[hd,JE]
  rw[this,BitVec.toNat_and];exact Nat.and_le_right
 have hn:(b.toNat:Int)=r % 18446744073709551616:=by rw[<- hb,BitVec.toNat_ofInt];all_goals grind[JE]
 omega
def pnB (l:List Gn):Bs:=bif l.isEmpty then []else Sp.elem 160 (Sp.elem 160 (Nj l))
def pfB (t:Nat) (r:Int):Bs:=bif r==0 then []else Sp.elem t (flB r)
def piB (b:Bool) (n:List (List Att)):Bs:=bif b then Sp.elem 162 (PS (4,[],n))else []
def Rj (p:Pt):Bs:=Sp.elem 48 (pnB p.1++(pfB 129 p.2.1++piB p.2.2.1 p.2.2.2))
structure Aqp (p:Pt):Prop where
 n16:p.1.length<=16
 ns:Ky (fun g=>LU g false) p.1=0
 r:0<=p.2.1/\p.2.1<512
 i:p.2.2.1=true->Nk p.2.2.2=0/\p.2.2.2≠ []
 ne:p.1=[]->p.2.2.1=true
 nb:p.2.2.1=false->p.2.2.2=[]
def AyK {p:Pt} (hs:Qp p) (h:ptI p=0):Aqp p:=by
 obtain⟨g,r,b,n⟩:=p;obtain⟨_,_,hr0,hr1⟩:=hs;unfold ptI at h;dsimp only at h hr0 hr1;cases h1:(g.isEmpty&& !b)||(!n.isEmpty&& !b)with
 | true=>rw[h1]at h;cases h
 | false =>
  rw[h1,cond_false]at h;cases h2:JE .andNot .i64 r 510 != 0 with
  | true=>rw[h2]at h;cases h
  | false =>
   rw[h2,cond_false]at h;cases h3:decide (16<g.length)with
   | true=>rw[h3]at h;cases h
   | false =>
    rw[h3,cond_false]at h;cases h4:Ph g false != 0 with
    | true=>rw[h4,cond_true]at h;rw[h]at h4;cases h4
    | false =>
     rw[h4,cond_false]at h;have:=Ep h3;refine⟨by dsimp only;omega,by simpa [Ph]using h4,AxA hr0 hr1 (by simpa using h2),?_,?_,?_⟩
     .intro hb;dsimp only at hb ⊢;subst hb;rw[EI,cond_false]at h;cases h5:n.isEmpty with
      | true=>rw[h5]at h;cases h
      | false =>rw[h5,cond_false]at h;exact⟨h,by intro hn;subst hn;cases h5⟩
     .intro hg;dsimp only at hg ⊢;subst hg;cases b with
      | true=>rfl
      | false=>cases h1
     .intro hb;dsimp only at hb ⊢;subst hb;cases n with
      | nil=>rfl
      | cons x y=>simp at h1
def AhV {p:Pt} (h:Aqp p):(pnB p.1).length<=71978/\(Nj p.1).length<=71968:=by have h1:=dB h.ns h.n16;all_goals grind[Sp.JQ,Nj,pnB]
theorem iW {r:Int} (h:0<=r/\r<512):(flB r).length<=3:=(ZX 1048579 r (by omega) h.1 h.2).2.2
def AxH {t:Nat} {r:Int} (h:0<=r/\r<512):(pfB t r).length<=8:=by grind[iW,Sp.JQ,flB,pfB]
theorem AlX {n:List (List Att)} (h:Nk n=0):LU (4,[],n) false=0:=by simp_all[LU,RU,Att,Nk]
def AhU {b:Bool} {n:List (List Att)} (h:b=true->Nk n=0/\n≠ []):(piB b n).length<=4503/\(b=true->(PS (4,[],n)).length<=4498):=by grind[piB,Z4,AlX,Sp.JQ,PS]
def iK {p:Pt} (h:Aqp p):(Rj p).length<=76494/\(pnB p.1++(pfB 129 p.2.1++piB p.2.2.1 p.2.2.2)).length<=76489:=by have h1:=(AhV h).1;have h2:=AxH (t:=129) h.r;have h3:=(AhU h.i).1;all_goals grind[Sp.JQ,pnB,pfB,piB,Rj]
def ApX {l:List Pt} (hs: ∀ p∈l,Qp p) (h:RF l=0):l.length<=4/\ ∀ p∈l,Aqp p:=by
 unfold RF at h;cases h1:decide (4<l.length)with
 | true=>rw[h1]at h;cases h
 | false =>rw[h1,cond_false]at h;have:=Ep h1;exact⟨by omega,fun p hp=>AyK (hs p hp) (VO h p hp)⟩
def KN (l:List Pt):Bs×Int:=bif l.isEmpty then([],7)else bif RF l != 0 then([],RF l)else Y7 48 (l.map Rj).flatten
def kC {l:List Gn} (h0:l≠ []) (h16:l.length<=16) (h:Ky (fun g=>LU g false) l=0):Acz l=(Nj l,0):=by unfold Acz Ph;rw[show l.isEmpty=false by cases l with | nil=>exact absurd rfl h0 | cons _ _=>rfl,cond_false,A0x,cond_false,h];rfl
def Af3 {n:List (List Att)} (h:LM n):kZ (4,[],n):=⟨Em _,h⟩
def WR (N:Nat) (l:List Pt) (hN:1048578<N) (hs: ∀ p∈l,Qp p):O9 N l=some (KN l):=by
 unfold O9 KN;try simp only[clR]
 rw[len0,SV N l hN hs];cases he:l.isEmpty with
 | true=>rfl
 | false =>
  rw[cond_false,cond_false,Jt,<- JY];show(bif RF l != 0 then some ([],RF l)else _)=bif RF l != 0 then _ else _;refine KJ fun h0=> ?_;obtain⟨h4,hok⟩:=ApX hs (by simpa using h0);refine(Ti (mk:=fun i a=>((i:Int),false,a)) l ([],0,false,[]) Rj (fun a=>Jr (JU N false a) fun r88=>Jr (Md N r88.snd) fun r90=>bif r90.fst then some ([],2)else some (r88.fst,0)) ?_ ?_ N).trans ?_
  .intro i a hi ha k;have hsm:=hs _ (getD_mem ([],0,false,[]) hi);have hp:=hok _ (getD_mem ([],0,false,[]) hi);dsimp only[U3];rw[Int.toNat_natCast];generalize l.getD i ([],0,false,[])=p at *
   obtain⟨g,r,b,n⟩:=p;have l1:=AhV hp;have l2:=iW hp.r;have l3:=AhU hp.i;have l4:=iK hp;dsimp only at l1 l2 l3 l4;have hl160:=Sp.JQ 160 (Nj g);have e1: ∀ K:Bool×Bs->Option (Bs×Int),True:=fun _=>trivial;have hseq:JU N false [pnB g,pfB 129 r,piB b n]=some (Rj (g,r,b,n),false):=by unfold JU;have w:JA N false 48 [pnB g,pfB 129 r,piB b n]=_:=We N 48 false [pnB g,pfB 129 r,piB b n] (by omega) (by omega) hN (by simp) (by rw[flat3];omega);rw[w,Jt,flat3];rfl
   have fin: ∀(x:Bool×List Bs×List Bs),x=(false,[pnB g,pfB 129 r,piB b n],a)->U3 (fun b38144_0d l39936d l1012288d=>Jr (JU N b38144_0d l39936d) fun r82=>Vm.chk (decide ((l1012288d.length+1)*17<=140737488355328)) (k (i64.wrap ((i:Int)+1),r82.snd,l1012288d++[r82.fst]))) x=k (((i+1:Nat):Int),false,a++[Rj (g,r,b,n)]):=by intro x hx;subst hx;dsimp only[U3];rw[hseq,Jt];simp (disch:=omega) only[JF,JX]
   have gen:PT N (4,[],n) false=some (oC (4,[],n) false):=Y8 N (4,[],n) false hN (Af3 hsm.2.1);rw[Vt (show(i:Int)<(l.length:Int) by omega),cond_true,Sr,Jz,Jz];simp only[KX]
   have step1: ∀(J:List Gn×Int×Bool×List (List Att)×Bool×List Bs×List Bs->Option (Bs×Int)),(bif decide (((g.length:Nat):Int)>0)then Jr (Py N g) fun r39=>Jr (Ko N false r39.fst r39.snd) fun r42=>Jr (JA N r42.snd 160 [r42.fst]) fun r44=>Jr (JA N r44.snd 160 [r44.fst]) fun r46=>J (g,r,b,n,r46.snd,[r46.fst,[],[]],a)else J (g,r,b,n,false,[[],[],[]],a))=J (g,r,b,n,false,[pnB g,[],[]],a):=by
    intro J;rw[YE];unfold pnB;cases hg:g.isEmpty with
    | true=>rfl
    | false =>
     have hg0:g≠ []:=by intro h;subst h;cases hg
     have w1:JA N false 160 [Nj g]=_:=We N 160 false [Nj g] (by omega) (by omega) hN (by simp) (by rw[JO];omega);have w2:JA N false 160 [Sp.elem 160 (Nj g)]=_:=We N 160 false [Sp.elem 160 (Nj g)] (by omega) (by omega) hN (by simp) (by rw[JO];omega);rw[JO]at w1 w2;rw[Eu,cond_true,cond_false,Zh N g hN hsm.1,kC hg0 hp.n16 hp.ns,Jt,TC,Jt];show Jr (JA N false 160 [Nj g]) _=_;rw[w1,Jt];show Jr (JA N false 160 [Sp.elem 160 (Nj g)]) _=_;rw[w2,Jt]
   refine(step1 _).trans ?_;dsimp only[U7]
   have last: ∀ x:Bs,x=pfB 129 r->(bif b then Jr (PT N (4,[],n) false) fun r72=>Jr (Ko N false r72.fst r72.snd) fun r75=>Jr (JA N r75.snd 162 [r75.fst]) fun r77=>Vm.chk (decide (2<(([pnB g,x,[]]:List Bs).length:Int))) (Vm.chk (decide (2<([pnB g,x,[]]:List Bs).length)) (U3 (fun b38144_0d l39936d l1012288d=>Jr (JU N b38144_0d l39936d) fun r82=>Vm.chk (decide ((l1012288d.length+1)*17<=140737488355328)) (k (i64.wrap ((i:Int)+1),r82.snd,l1012288d++[r82.fst]))) (r77.snd,([pnB g,x,[]]:List Bs).set 2 r77.fst,a)))else U3 (fun b38144_0d l39936d l1012288d=>Jr (JU N b38144_0d l39936d) fun r82=>Vm.chk (decide ((l1012288d.length+1)*17<=140737488355328)) (k (i64.wrap ((i:Int)+1),r82.snd,l1012288d++[r82.fst]))) (false,[pnB g,x,[]],a))=k (((i+1:Nat):Int),false,a++[Rj (g,r,b,n)]):=by
    intro x hx;subst hx;cases hb:b with
    | false =>subst hb;rw[cond_false];exact fin _ rfl
    | true =>subst hb;have hn:=hp.i rfl;have l5:=l3.2 rfl;have w1:JA N false 162 [PS (4,[],n)]=_:=We N 162 false [PS (4,[],n)] (by omega) (by omega) hN (by simp) (by rw[JO];omega);rw[JO]at w1;unfold oC at gen;rw[AlX hn.1]at gen;rw[cond_true,gen,Jt,TC,Jt];show Jr (JA N false 162 [PS (4,[],n)]) _=_;rw[w1,Jt];exact fin _ rfl
   by_cases hr:r=0
   .rw[qA hr,cond_false];refine last [] ?_;unfold pfB;rw[RU hr];rfl
   .have w1:JA N false 129 [flB r]=_:=We N 129 false [flB r] (by omega) (by omega) hN (by simp) (by rw[JO];omega);rw[JO]at w1;rw[bM hr,cond_true,(ZX N r hN hp.r.1 hp.r.2).1,Jt,TC,Jt];show Jr (JA N false 129 [flB r]) _=_;rw[w1,Jt];refine last (Sp.elem 129 (flB r)) ?_;unfold pfB;rw[QO hr];rfl
  .intro a k ha;simp (disch:=omega) only[JF]
  .have hl:=Lp (g:=Rj) (M:=76494) (l:=l) (fun p hp=>(iK (hok p hp)).1);rw[Alu N false _ (by rw[D7];omega) (by rw[D7];omega),Jt];unfold Y7 Md;cases KT 48 (l.map Rj).flatten<;>rfl
def Amv (N:Nat) (g:List Gn) (hN:1048578<N) (hs:Lh g) (h16:g.length<=16) (h:Ky (fun g=>LU g false) g=0):SH N g=some (pnB g):=by
 have hl:=dB h h16;have hl160:=Sp.JQ 160 (Nj g);unfold SH pnB;try simp only[clR]
 rw[len0];cases hg:g.isEmpty with
 | true=>rfl
 | false =>
  have hg0:g≠ []:=by intro h;subst h;cases hg
  have w1:JK N 160 [Nj g]=_:=Q9 N 160 [Nj g] (by omega) (by omega) hN (by simp) (by rw[JO];omega);have w2:JK N 160 [Sp.elem 160 (Nj g)]=_:=Q9 N 160 [Sp.elem 160 (Nj g)] (by omega) (by omega) hN (by simp) (by rw[JO];omega);rw[JO]at w1 w2;rw[cond_false,cond_false,dQ N g hN hs,kC hg0 h16 h,Jt];dsimp only;rw[w1,Jt,w2,Jt]
def Amr (N t:Nat) (r:Int) (ht:t<256) (h31:t % 32≠31) (hN:1048578<N) (hr:0<=r/\r<512):QI N (t:Int) r=some (pfB t r):=by
 have hl:=iW hr;unfold QI pfB;try simp only[clR]
 by_cases h0:r=0
 .rw[RU h0];rfl
 .have w1:=Q9 N t [flB r] ht h31 hN (by simp) (by rw[JO];omega);rw[JO]at w1;rw[QO h0,cond_false,cond_false,(ZX N r hN hr.1 hr.2).2.1,Jt];dsimp only;rw[w1,Jt]
def AlY (N:Nat) (n:List (List Att)) (hN:1048578<N) (hs:LM n) (h:Nk n=0):V6 N n=some (PS (4,[],n)):=by
 unfold V6;have hf:Ky (fun g=>LU g false) [((4,[],n):Gn)]=0:=by rw[PK,AlX h];rfl
 rw[dQ N [(4,[],n)] hN (fun g hg=>by rw[Ed.1 hg];exact Af3 hs),kC (by simp) (by simp) hf,Jt];unfold Nj;simp
def Yg (N:Nat) (l:List Pt) (hN:1048578<N) (hs: ∀ p∈l,Qp p):MM N l=some (KN l):=by
 unfold MM KN;try simp only[clR]
 rw[len0,UA N l hN hs];cases he:l.isEmpty with
 | true=>rfl
 | false =>
  rw[cond_false,cond_false,Jt,<- JY];show(bif RF l != 0 then some ([],RF l)else _)=bif RF l != 0 then _ else _;refine KJ fun h0=> ?_;obtain⟨h4,hok⟩:=ApX hs (by simpa using h0);have hl:=Lp (g:=Rj) (M:=76494) (l:=l) (fun p hp=>(iK (hok p hp)).1);refine(Zm (mk:=fun i a=>(a,(i:Int))) l ([],0,false,[]) Rj (fun a=>Jr (LV N 48 [a]) fun r44=>some (r44.fst,r44.snd)) ?_ ?_ N).trans ?_
  .intro i a hi ha k;have hsm:=hs _ (getD_mem ([],0,false,[]) hi);have hp:=hok _ (getD_mem ([],0,false,[]) hi);dsimp only[U2];rw[Int.toNat_natCast];generalize l.getD i ([],0,false,[])=p at *
   obtain⟨g,r,b,n⟩:=p;have l1:=AhV hp;have l2:=iW hp.r;have l3:=AhU hp.i;have l4:=iK hp;dsimp only at l1 l2 l3 l4;have f1:=Amv N g hN hsm.1 hp.n16 hp.ns;have f2:QI N 129 r=_:=Amr N 129 r (by omega) (by omega) hN hp.r;have w:JK N 48 [pnB g,pfB 129 r,piB b n]=_:=Q9 N 48 [pnB g,pfB 129 r,piB b n] (by omega) (by omega) hN (by simp) (by rw[flat3];omega);rw[flat3]at w;have fin: ∀ x:Bs,x=piB b n->U5 (fun t8b b34560_0b b34560_1b b34560_2b b34560_3b=>Jr (SH N b34560_0b) fun r33=>Jr (QI N 129 b34560_1b) fun r36=>Jr (JK N 48 [r33,r36,t8b]) fun r39=>Vm.chk (decide (List.length a+List.length r39<=140737488355328)) (k (a++r39,i64.wrap ((i:Int)+1)))) (x,g,r,b,n)=k (a++Rj (g,r,b,n),((i+1:Nat):Int)):=by intro x hx;subst hx;dsimp only[U5];rw[f1,Jt,f2,Jt,w,Jt];have hw:Sp.elem 48 (pnB g++(pfB 129 r++piB b n))=Rj (g,r,b,n):=rfl;simp (disch:=omega) only[JF,hw,JX]
   rw[Vt (show(i:Int)<(l.length:Int) by omega),cond_true,Sr,Jz,Jz];simp only[KX];cases hb:b with
   | false =>subst hb;rw[cond_false];exact fin [] rfl
   | true =>subst hb;have hn:=hp.i rfl;have l5:=l3.2 rfl;have w1:JK N 162 [PS (4,[],n)]=_:=Q9 N 162 [PS (4,[],n)] (by omega) (by omega) hN (by simp) (by rw[JO];omega);rw[JO]at w1;rw[cond_true,AlY N n hN hsm.2.1 hn.1,Jt,w1,Jt];exact fin _ rfl
  .intro a k;simp (disch:=omega) only[JF]
  .have f:LV N 48 [(l.map Rj).flatten]=_:=bG N 48 [(l.map Rj).flatten] (by omega) (by omega) (by show 1<N;omega) (by show 1<=_;omega) (by rw[JO];omega);rw[f,Jt,JO];rfl
structure Ayf (pl us re im ia:Int) (pu po:List Bs) (ma:List (Bs×Bs)) (na:List Gn) (hc:Bool) (s:St2) (sk ak:Bs) (pt fr:List Pt):Prop where
 sp:spI pl=true/\spI re=true/\spI im=true/\spI ia=true
 us:0<=us/\us<512
 pu:pu.length<=8/\ ∀ s∈pu,LY s=true
 po:po.length<=8/\ ∀ s∈po,LY s=true
 ma:ma.length<=8/\ ∀ m∈ma,LY m.1=true/\LY m.2=true
 na:na.length<=16/\Ky (fun g=>LU g false) na=0
 con:uQ hc s=0
 sk:sk.length<=32
 ak:ak.length<=32
 pt:RF pt=0
 fr:RF fr=0
def AmR {α :Type} {l:List α} {x: α} (d: α) (h:x∈l): ∃ i,i<l.length/\l.getD i d=x:=by obtain⟨i,hi,he⟩:=FP.1 h;exact⟨i,hi,by rw[getD_lt l i d hi];exact he⟩
def ApS {l:List Bs} (h:oG l 8=0):l.length<=8/\ ∀ s∈l,LY s=true:=by
 unfold oG at h;cases h1:decide ((l.length:Int)>8)with
 | true=>rw[h1]at h;cases h
 | false =>
  rw[h1,cond_false]at h;have:=Ep h1;refine⟨by omega,fun s hs=> ?_⟩;obtain⟨i,hi,rfl⟩:=AmR [] hs;have hi0:=VO h i (Gx.2 hi);unfold idI at hi0;cases hv:LY (l.getD i [])with
  | true=>rfl
  | false=>rw[hv]at hi0;cases hi0
def AxB {l:List (Bs×Bs)} (h:Abg l=0):l.length<=8/\ ∀ m∈l,LY m.1=true/\LY m.2=true:=by
 unfold Abg at h;cases h1:decide (8<l.length)with
 | true=>rw[h1]at h;cases h
 | false =>rw[h1,cond_false]at h;have:=Ep h1;refine⟨by omega,fun s hs=> ?_⟩;obtain⟨i,hi,rfl⟩:=AmR ([],[]) hs;have hi0:=VO h i (Gx.2 hi);unfold mpI at hi0;cases hv:LY (l.getD i ([],[])).1<;>cases hv2:LY (l.getD i ([],[])).2<;>rw[hv,hv2]at hi0<;>first | exact⟨rfl,rfl⟩ | cases hi0
def uC {b:Bool} {x y:Int} (h:(bif b then x else y)=0) (hx:x≠0:=by decide):b=false/\y=0:=by
 cases b with
 | true=>exact absurd h hx
 | false=>exact⟨rfl,h⟩
def nN {e y:Int} (h:(bif e != 0 then e else y)=0):e=0/\y=0:=by
 by_cases he:e=0
 .subst he;exact⟨rfl,h⟩
 .rw[show(e != 0)=true from EE.2 he]at h;exact absurd h he
def Aet {hb ca:Bool} {pl us:Int} {pu po:List Bs} {ma:List (Bs×Bs)} {re im ia:Int} {na:List Gn} {hc:Bool} {pe ex:List Gn} {sk ak:Bs} {pt fr:List Pt} {un:List Ex} (h:Qg (hb,ca,pl,us,pu,po,ma,re,im,ia,na,hc,pe,ex,sk,ak,pt,fr,un)=0) :
 Ayf pl us re im ia pu po ma na hc (pe,ex) sk ak pt fr/\(ca=true->hb=true)/\(pl≠ -1->ca=true)/\AnZ un=0/\un.length+(vG (hb,ca,pl,us,pu,po,ma,re,im,ia,na,hc,pe,ex,sk,ak,pt,fr,un)).count true<=24:=by
 unfold Qg at h;dsimp only at h;obtain⟨h1,h⟩:=uC h;obtain⟨h2,h⟩:=uC h;obtain⟨h3,h⟩:=nN h;obtain⟨h4,h⟩:=nN h;obtain⟨h5,h⟩:=nN h;obtain⟨h6,h⟩:=uC h;obtain⟨h7,h⟩:=nN h;obtain⟨h8,h⟩:=nN h;obtain⟨h9,h⟩:=uC h;obtain⟨h10,h⟩:=nN h;obtain⟨h11,h⟩:=nN h;obtain⟨h12,h⟩:=uC h;simp only[Fe,Ia,Eh]at h2 h9 h6 h12;obtain⟨⟨⟨⟨⟨g1,g2⟩,g3⟩,g4⟩,g5⟩,g6⟩:=h2;refine⟨⟨⟨g1,g2,g3,g4⟩,by omega,ApS h3,ApS h4,AxB h5,⟨by omega,h7⟩,h8,by omega,by omega,h10,h11⟩,?_,?_,h,by omega⟩
 .intro hca;subst hca;cases hb with
  | true=>rfl
  | false=>cases h1
 .intro hpl;rw[show(pl != -1)=true from EE.2 hpl]at h1;cases ca with
  | true=>rfl
  | false=>simp at h1
def Lt (s:Bs):Bs:=Sp.elem 6 (Na s)
def bK (ca:Bool) (pl:Int):Bs:=Sp.elem 48 ((bif ca then Sp.elem 1 [255]else [])++(bif pl != -1 then Sp.elem 2 (inB pl)else []))
def Aer (l:List Bs):Bs:=Sp.elem 48 (l.map Lt).flatten
def AeE (l:List Bs):Bs:=Sp.elem 48 (l.map fun s=>Sp.elem 48 (Lt s)).flatten
def Ae6 (l:List (Bs×Bs)):Bs:=Sp.elem 48 (l.map fun m=>Sp.elem 48 (Lt m.1++Lt m.2)).flatten
def AaP (re im:Int):Bs:=Sp.elem 48 ((bif re != -1 then Sp.elem 128 (inB re)else [])++(bif im != -1 then Sp.elem 129 (inB im)else []))
def OI:Info->List (Bool×Bool×Ex)
 | (hb,ca,pl,us,pu,po,ma,re,im,ia,na,hc,pe,ex,sk,ak,pt,fr,_) =>
  [(hb,false,[50,46,53,46,50,57,46,49,57],true,bK ca pl),
   (us != 0,false,[50,46,53,46,50,57,46,49,53],true,Sp.elem 3 (flB us)),
   (decide (((pu.length:Nat):Int)>0),false,[50,46,53,46,50,57,46,51,55],false,Aer pu),
   (decide (((po.length:Nat):Int)>0),false,[50,46,53,46,50,57,46,51,50],false,AeE po),
   (decide (((ma.length:Nat):Int)>0),false,[50,46,53,46,50,57,46,51,51],true,Ae6 ma),
   (re != -1||im != -1,false,[50,46,53,46,50,57,46,51,54],true,AaP re im),
   (ia != -1,false,[50,46,53,46,50,57,46,53,52],true,Sp.elem 2 (inB ia)),
   (decide (((na.length:Nat):Int)>0),false,[50,46,53,46,50,57,46,49,55],false,Sp.elem 48 (Nj na)),
   (hc,(OL (pe,ex)).2 != 0,[50,46,53,46,50,57,46,51,48],true,(OL (pe,ex)).1),
   (!(sk==[]),false,[50,46,53,46,50,57,46,49,52],false,Sp.elem 4 sk),
   (!(ak==[]),false,[50,46,53,46,50,57,46,51,53],false,Sp.elem 48 (Sp.elem 128 ak)),
   (decide (((pt.length:Nat):Int)>0),(KN pt).2 != 0,[50,46,53,46,50,57,46,51,49],false,(KN pt).1),
   (decide (((fr.length:Nat):Int)>0),(KN fr).2 != 0,[50,46,53,46,50,57,46,52,54],false,(KN fr).1)]
abbrev noX:Bool×Bool×Ex:=(false,false,[],false,[])
def KU (r:Bool×Bool×Ex):List Ex:=bif r.1 then [r.2.2]else []
def QN (r:Bool×Bool×Ex):Bool:=r.1&&r.2.1
def encI (x:Info):List Ex×Int:=bif Qg x != 0 then([],Qg x)else bif (OI x).any QN then([],2)else((OI x).flatMap KU++x.2.2.2.2.2.2.2.2.2.2.2.2.2.2.2.2.2.2,0)
section
variable (N:Nat) (hN:1048578<N)
include hN
theorem AsG (b:Bool) {n:Int} (h:spI n=true):N7 N b n=some (Sp.elem 2 (inB n),b):=by obtain⟨h1,_,h3⟩:=UG N n hN h;have w:JA N b 2 [inB n]=_:=We N 2 b [inB n] (by omega) (by omega) hN (by simp) (by rw[JO];omega);rw[JO]at w;unfold N7;rw[h1,Jt,w,Jt]
theorem Axe (b v:Bool):Sm N b 1 v=some (bif v then Sp.elem 1 [255]else [],b):=by
 unfold Sm;cases v with
 | false=>rfl
 | true =>have w:JA N b 1 [[255]]=_:=We N 1 b [[255]] (by omega) (by omega) hN (by simp) (by simp);show Jr (JA N b 1 [[255]]) _=_;rw[w,Jt];rfl
theorem iY {n:Int} (h:spI n=true):(inB n).length<=2:=(UG N n hN h).2.2
theorem Apb (b:Bool) (x:Info) (h:spI x.2.2.1=true):Pn N b x=some (bK x.2.1 x.2.2.1,b):=by
 obtain⟨hb,ca,pl,us,pu,po,ma,re,im,ia,na,hc,pe,ex,sk,ak,pt,fr,un⟩:=x;have h:spI pl=true:=h;have hi:=iY N hN h;have he:=Sp.JQ 2 (inB pl);unfold Pn;try simp only[clR]
 simp only[KX]
 have fin: ∀ t:Bs,t.length<=10->(Jr (Sm N b 1 ca) fun r17=>Jr (JU N r17.snd [r17.fst,t]) fun r20=>some (r20.fst,r20.snd))=some (Sp.elem 48 ((bif ca then Sp.elem 1 [255]else [])++t),b):=by
  intro t ht;rw[Axe N hN,Jt];dsimp only;unfold JU;have hl:((bif ca then Sp.elem 1 [255]else []):Bs).length<=10:=by cases ca<;>decide
  have w:JA N b 48 [bif ca then Sp.elem 1 [255]else [],t]=_:=We N 48 b [bif ca then Sp.elem 1 [255]else [],t] (by omega) (by omega) hN (by simp) (by rw[OW,Dv];omega);rw[w,Jt,Jt,OW]
 unfold bK;cases hp:pl != -1 with
 | true =>rw[cond_true,cond_true,AsG N hN b h,Jt];exact fin (Sp.elem 2 (inB pl)) (by omega)
 | false=>exact fin [] (by simp)
theorem Apd (b:Bool) (x:Info) (h:0<=x.2.2.2.1/\x.2.2.2.1<512):Pv N b x=some (Sp.elem 3 (flB x.2.2.2.1),b):=by have hl:=iW h;unfold Pv;rw[(ZX N _ hN h.1 h.2).1,Jt,TC,Jt];have w:JA N b 3 [flB x.2.2.2.1]=_:=We N 3 b [flB x.2.2.2.1] (by omega) (by omega) hN (by simp) (by rw[JO];omega);rw[JO]at w;show Jr (JA N (b||false) 3 [flB x.2.2.2.1]) _=_;rw[ES,w,Jt]
theorem wO (b:Bool) {s:Bs} (hs:LG s) (h:LY s=true):Qs N b s=some (Lt s,b):=by obtain⟨o1,o2⟩:=Yb h;unfold Qs;rw[eU N s (by omega) hs,o1,Jt,TC,Jt];have w:JA N b 6 [Na s]=_:=We N 6 b [Na s] (by omega) (by omega) hN (by simp) (by rw[JO];omega);rw[JO]at w;show Jr (JA N (b||false) 6 [Na s]) _=_;rw[ES,w,Jt];rfl
omit hN in
theorem MZ {s:Bs} (h:LY s=true):(Lt s).length<=65:=by have:=(Yb h).2;have:=Sp.JQ 6 (Na s);unfold Lt;omega
theorem AbR (b:Bool) (l:List Bs) (hl:l.length<=1000) (hs:l.flatten.length<=131072:=by omega):JU N b l=some (Sp.elem 48 l.flatten,b):=by unfold JU;have w:JA N b 48 l=_:=We N 48 b l (by omega) (by omega) hN hl hs;rw[w,Jt]
theorem Aic (b:Bool) (x:Info) (hs: ∀ s∈x.2.2.2.2.1,LG s) (h:x.2.2.2.2.1.length<=8/\ ∀ s∈x.2.2.2.2.1,LY s=true):NQ N b x=some (Aer x.2.2.2.2.1,b):=by
 unfold NQ Aer;try simp only[clR]
 generalize x.2.2.2.2.1=l at *
 have hl:=Lp (g:=Lt) (M:=65) (l:=l) (fun s hm=>MZ (h.2 s hm));refine(Ti (mk:=fun i a=>((i:Int),b,a)) l [] Lt (fun a=>Jr (JU N b a) fun r=>some (r.1,r.2)) ?_ ?_ N).trans ?_
 .intro i a hi ha k;have hp:=wO N hN b (hs _ (getD_mem [] hi)) (h.2 _ (getD_mem [] hi));simp (disch:=omega) only[JF,hp,JX]
 .intro a k ha;simp (disch:=omega) only[JF]
 .rw[AbR N hN b _ (by rw[D7];omega),Jt]
theorem Aib (b:Bool) (x:Info) (hs: ∀ s∈x.2.2.2.2.2.1,LG s) (h:x.2.2.2.2.2.1.length<=8/\ ∀ s∈x.2.2.2.2.2.1,LY s=true):NP N b x=some (AeE x.2.2.2.2.2.1,b):=by
 unfold NP AeE;try simp only[clR]
 generalize x.2.2.2.2.2.1=l at *
 have hl:=Lp (g:=fun s=>Sp.elem 48 (Lt s)) (M:=70) (l:=l) (fun s hm=>by have:=MZ (h.2 s hm);have:=Sp.JQ 48 (Lt s);omega);refine(Ti (mk:=fun i a=>((i:Int),b,a)) l [] (fun s=>Sp.elem 48 (Lt s)) (fun a=>Jr (JU N b a) fun r=>some (r.1,r.2)) ?_ ?_ N).trans ?_
 .intro i a hi ha k;have hv:=h.2 _ (getD_mem [] hi);have hp:=wO N hN b (hs _ (getD_mem [] hi)) hv;have hq:=AbR N hN b [Lt (l.getD i [])] (by simp) (by rw[JO];have:=MZ hv;omega);rw[JO]at hq;simp (disch:=omega) only[JF,hp,hq,JX]
 .intro a k ha;simp (disch:=omega) only[JF]
 .rw[AbR N hN b _ (by rw[D7];omega),Jt]
theorem Aia (b:Bool) (x:Info) (hs: ∀ s∈x.2.2.2.2.2.2.1,sW s) (h:x.2.2.2.2.2.2.1.length<=8/\ ∀ m∈x.2.2.2.2.2.2.1,LY m.1=true/\LY m.2=true):NM N b x=some (Ae6 x.2.2.2.2.2.2.1,b):=by
 unfold NM Ae6;try simp only[clR]
 generalize x.2.2.2.2.2.2.1=l at *
 have hl:=Lp (g:=fun m:Bs×Bs=>Sp.elem 48 (Lt m.1++Lt m.2)) (M:=135) (l:=l) (fun m hm=>by have:=MZ (h.2 m hm).1;have:=MZ (h.2 m hm).2;have:=Sp.JQ 48 (Lt m.1++Lt m.2);rw[Dv]at this;omega);refine(Ti (mk:=fun i a=>((i:Int),b,a)) l ([],[]) (fun m=>Sp.elem 48 (Lt m.1++Lt m.2)) (fun a=>Jr (JU N b a) fun r=>some (r.1,r.2)) ?_ ?_ N).trans ?_
 .intro i a hi ha k;have hv:=h.2 _ (getD_mem ([],[]) hi);have hsm:=hs _ (getD_mem ([],[]) hi);have hp:=wO N hN b hsm.1 hv.1;have hp2:=wO N hN b hsm.2 hv.2;have hq:=AbR N hN b [Lt (l.getD i ([],[])).1,Lt (l.getD i ([],[])).2] (by simp) (by rw[OW,Dv];have:=MZ hv.1;have:=MZ hv.2;omega);rw[OW]at hq;simp (disch:=omega) only[JF,hp,hp2,hq,JX]
 .intro a k ha;simp (disch:=omega) only[JF]
 .rw[AbR N hN b _ (by rw[D7];omega),Jt]
end
section
variable (N:Nat) (hN:1048578<N)
include hN
theorem Anl (b:Bool) (x:Info) (h1:spI x.2.2.2.2.2.2.2.1=true) (h2:spI x.2.2.2.2.2.2.2.2.1=true):OO N b x=some (AaP x.2.2.2.2.2.2.2.1 x.2.2.2.2.2.2.2.2.1,b):=by
 unfold OO;try simp only[clR]
 generalize x.2.2.2.2.2.2.2.1=re at *
 generalize x.2.2.2.2.2.2.2.2.1=im at *
 obtain⟨p1,_,l1⟩:=UG N re hN h1;obtain⟨p2,_,l2⟩:=UG N im hN h2;have q1:=Sp.JQ 128 (inB re);have q2:=Sp.JQ 129 (inB im);have w1:JA N b 128 [inB re]=_:=We N 128 b [inB re] (by omega) (by omega) hN (by simp) (by rw[JO];omega);have w2:JA N b 129 [inB im]=_:=We N 129 b [inB im] (by omega) (by omega) hN (by simp) (by rw[JO];omega);rw[JO]at w1 w2;have w1':JA N b (128+((0:Nat):Int)) [inB re]=some (Sp.elem 128 (inB re),b):=w1;have w2':JA N b (128+((1:Nat):Int)) [inB im]=some (Sp.elem 129 (inB im),b):=w2;have g0: [re,im].getD 0 0=re:=rfl;have g1: [re,im].getD 1 0=im:=rfl;have g2: [re,im].length=2:=rfl;refine(Uf (S:=List Bs) (R:=Unit) (mk:=fun i s=>((i:Int),b,s,[re,im])) (List.range 2) 0 (fun _ s=>s.length=2) (fun i s=>.inr (bif [re,im].getD i 0 != -1 then s.set i (Sp.elem (128+i) (inB ([re,im].getD i 0)))else s)) (fun _=>none) (fun s=>Jr (JU N b s) fun r=>some (r.1,r.2)) ?_ ?_ ?_ N [[],[]] rfl (by rw[DI];omega)).trans ?_
 .intro i s hi hI k;rw[DI]at hi;rw[wQ hi];have hl:s.length=2:=hI;rcases(by omega:i=0\/i=1)with rfl | rfl
  .dsimp only[U4];simp (disch:=omega) only[JF,hl,g0,g2,p1,w1',JX];cases re != -1<;>rfl
  .dsimp only[U4];simp (disch:=omega) only[JF,hl,g1,g2,p2,w2',JX];cases im != -1<;>rfl
 .intro i s s' hi hI he;injection he with he;subst he;cases [re,im].getD ((List.range 2).getD i 0) 0 != -1
  .exact hI
  .show(s.set _ _).length=2;rw[FX];exact hI
 .intro s k hI;rw[DI];dsimp only[U4];simp (disch:=omega) only[JF]
 .show(Jr (JU N b (bif im != -1 then(bif re != -1 then [Sp.elem 128 (inB re),[]]else [[],[]]).set 1 (Sp.elem 129 (inB im))else(bif re != -1 then [Sp.elem 128 (inB re),[]]else [[],[]]))) fun r=>some (r.1,r.2))=_;have e:(bif im != -1 then(bif re != -1 then [Sp.elem 128 (inB re),[]]else [[],[]]).set 1 (Sp.elem 129 (inB im))else(bif re != -1 then [Sp.elem 128 (inB re),[]]else [[],[]]))=[bif re != -1 then Sp.elem 128 (inB re)else [],bif im != -1 then Sp.elem 129 (inB im)else []]:=by cases re != -1<;>cases im != -1<;>rfl
  rw[e,AbR N hN b _ (by simp) ?_,Jt,OW]
  .rfl
  .rw[OW,Dv];cases re != -1<;>cases im != -1<;>simp only[cond_true,cond_false,List.length_nil]<;>omega
theorem Akn (b:Bool) (x:Info) (h:spI x.2.2.2.2.2.2.2.2.2.1=true):Oi N b x=some (Sp.elem 2 (inB x.2.2.2.2.2.2.2.2.2.1),b):=by
 unfold Oi;try simp -zeta only[Ap]
 rw[AsG N hN b h,Jt]
theorem Apc (b:Bool) (x:Info) (hs:Lh x.2.2.2.2.2.2.2.2.2.2.1) (h:x.2.2.2.2.2.2.2.2.2.2.1.length<=16/\Ky (fun g=>LU g false) x.2.2.2.2.2.2.2.2.2.2.1=0) (h0:x.2.2.2.2.2.2.2.2.2.2.1≠ []):Pq N b x=some (Sp.elem 48 (Nj x.2.2.2.2.2.2.2.2.2.2.1),b):=by
 have hl:=dB h.2 h.1;unfold Pq;try simp -zeta only[Ap]
 rw[Zh N _ hN hs,kC h0 h.1 h.2,Jt,TC,Jt];have hq:=AbR N hN b [Nj x.2.2.2.2.2.2.2.2.2.2.1] (by simp) (by rw[JO];omega);rw[JO]at hq;show Jr (JU N (b||false) [Nj x.2.2.2.2.2.2.2.2.2.2.1]) _=_;rw[ES,hq,Jt]
theorem AcW (b:Bool) (x:Info) (hx:O5 x):NU N b x=some ((OL (x.2.2.2.2.2.2.2.2.2.2.2.2.1,x.2.2.2.2.2.2.2.2.2.2.2.2.2.1)).1,b||(OL (x.2.2.2.2.2.2.2.2.2.2.2.2.1,x.2.2.2.2.2.2.2.2.2.2.2.2.2.1)).2 != 0):=by
 unfold NU;try simp -zeta only[Ap]
 rw[Ads N (x.2.2.2.2.2.2.2.2.2.2.2.2.1,x.2.2.2.2.2.2.2.2.2.2.2.2.2.1) hN hx.pe hx.ex,Jt,TC,Jt];congr 3;by_cases h:(OL (x.2.2.2.2.2.2.2.2.2.2.2.2.1,x.2.2.2.2.2.2.2.2.2.2.2.2.2.1)).2=0<;>simp [h]
theorem Ako (b:Bool) (x:Info) (h:x.2.2.2.2.2.2.2.2.2.2.2.2.2.2.1.length<=32):Oj N b x=some (Sp.elem 4 x.2.2.2.2.2.2.2.2.2.2.2.2.2.2.1,b):=by
 have w:JA N b 4 [x.2.2.2.2.2.2.2.2.2.2.2.2.2.2.1]=_:=We N 4 b [x.2.2.2.2.2.2.2.2.2.2.2.2.2.2.1] (by omega) (by omega) hN (by simp) (by rw[JO];omega);rw[JO]at w;unfold Oj;try simp -zeta only[Ap]
 rw[w,Jt]
theorem Ag8 (b:Bool) (x:Info) (h:x.2.2.2.2.2.2.2.2.2.2.2.2.2.2.2.1.length<=32):Nz N b x=some (Sp.elem 48 (Sp.elem 128 x.2.2.2.2.2.2.2.2.2.2.2.2.2.2.2.1),b):=by
 have hl:=Sp.JQ 128 x.2.2.2.2.2.2.2.2.2.2.2.2.2.2.2.1;have w:JA N b 128 [x.2.2.2.2.2.2.2.2.2.2.2.2.2.2.2.1]=_:=We N 128 b [x.2.2.2.2.2.2.2.2.2.2.2.2.2.2.2.1] (by omega) (by omega) hN (by simp) (by rw[JO];omega);rw[JO]at w;have hq:=AbR N hN b [Sp.elem 128 x.2.2.2.2.2.2.2.2.2.2.2.2.2.2.2.1] (by simp) (by rw[JO];omega);rw[JO]at hq;unfold Nz;try simp -zeta only[Ap]
 rw[w,Jt];dsimp only;rw[hq,Jt]
theorem Anm (b:Bool) (x:Info) (hx:O5 x):Q3 N b x=some ((KN x.2.2.2.2.2.2.2.2.2.2.2.2.2.2.2.2.1).1,b||(KN x.2.2.2.2.2.2.2.2.2.2.2.2.2.2.2.2.1).2 != 0):=by
 unfold Q3;try simp -zeta only[Ap]
 rw[WR N _ hN hx.pt,Jt,TC,Jt];congr 3;by_cases h:(KN x.2.2.2.2.2.2.2.2.2.2.2.2.2.2.2.2.1).2=0<;>simp [h]
theorem AhZ (b:Bool) (x:Info) (hx:O5 x):OZ N b x=some ((KN x.2.2.2.2.2.2.2.2.2.2.2.2.2.2.2.2.2.1).1,b||(KN x.2.2.2.2.2.2.2.2.2.2.2.2.2.2.2.2.2.1).2 != 0):=by
 unfold OZ;try simp -zeta only[Ap]
 rw[WR N _ hN hx.fr,Jt,TC,Jt];congr 3;by_cases h:(KN x.2.2.2.2.2.2.2.2.2.2.2.2.2.2.2.2.2.1).2=0<;>simp [h]
omit hN in
theorem Awk (x:Info) (i:Nat) (hi:i<13):(vG x).getD i false=((OI x).getD i noX).1:=by
 obtain⟨B,C,D,F,G,H,I,re,im,J,K,L,M,O,P,Q,T,U,V⟩:=x;have:i=0\/i=1\/i=2\/i=3\/i=4\/i=5\/i=6\/i=7\/i=8\/i=9\/i=10\/i=11\/i=12:=by omega
 rcases this with rfl | rfl | rfl | rfl | rfl | rfl | rfl | rfl | rfl | rfl | rfl | rfl | rfl<;>rfl
omit hN in
theorem Au2 (x:Info) (i:Nat) (hi:i<13):((V7.getD i ([],0,0,0,0)).1,(V7.getD i ([],0,0,0,0)).2.1==1||(V7.getD i ([],0,0,0,0)).1==[50,46,53,46,50,57,46,51,51])=(((OI x).getD i noX).2.2.1,((OI x).getD i noX).2.2.2.1):=by
 obtain⟨B,C,D,F,G,H,I,re,im,J,K,L,M,O,P,Q,T,U,V⟩:=x;have:i=0\/i=1\/i=2\/i=3\/i=4\/i=5\/i=6\/i=7\/i=8\/i=9\/i=10\/i=11\/i=12:=by omega
 rcases this with rfl | rfl | rfl | rfl | rfl | rfl | rfl | rfl | rfl | rfl | rfl | rfl | rfl<;>rfl
theorem Av0 (b:Bool) (x:Info) (hx:O5 x) (h0:Qg x=0) (i:Nat) (hi:i<13) (hh:((OI x).getD i noX).1=true):Ahv N (V7.getD i ([],0,0,0,0)).2.2.2.1 (b,x)=some (((OI x).getD i noX).2.2.2.2,b||((OI x).getD i noX).2.1):=by
 have e0:=fun h=>Apb N hN b x h;have e1:=fun h=>Apd N hN b x h;have e2:=fun h=>Aic N hN b x hx.pu.2 h;have e3:=fun h=>Aib N hN b x hx.po.2 h;have e4:=fun h=>Aia N hN b x hx.ma h;have e5:=fun h1 h2=>Anl N hN b x h1 h2;have e6:=fun h=>Akn N hN b x h;have e7:=fun h h0=>Apc N hN b x hx.na h h0;have e8:=AcW N hN b x hx;have e9:=fun h=>Ako N hN b x h;have e10:=fun h=>Ag8 N hN b x h;have e11:=Anm N hN b x hx;have e12:=AhZ N hN b x hx;obtain⟨B,C,D,F,G,H,I,re,im,J,K,L,M,O,P,Q,T,U,V⟩:=x;obtain⟨ok,_⟩:=Aet h0;have hor:b=(b||false):=(ES b).symm;have:i=0\/i=1\/i=2\/i=3\/i=4\/i=5\/i=6\/i=7\/i=8\/i=9\/i=10\/i=11\/i=12:=by omega
 rcases this with rfl | rfl | rfl | rfl | rfl | rfl | rfl | rfl | rfl | rfl | rfl | rfl | rfl
 .show Pn N b _=some (bK C D,b||false);rw[<- hor];exact e0 ok.sp.1
 .show Pv N b _=some (_,b||false);rw[<- hor];exact e1 ok.us
 .show NQ N b _=some (_,b||false);rw[<- hor];exact e2 ok.pu
 .show NP N b _=some (_,b||false);rw[<- hor];exact e3 ok.po
 .show NM N b _=some (_,b||false);rw[<- hor];exact e4 ok.ma
 .show OO N b _=some (_,b||false);rw[<- hor];exact e5 ok.sp.2.1 ok.sp.2.2.1
 .show Oi N b _=some (_,b||false);rw[<- hor];exact e6 ok.sp.2.2.2
 .show Pq N b _=some (_,b||false);rw[<- hor];refine e7 ok.na ?_;intro hna;have hna:K=[]:=hna;subst hna;cases hh
 .exact e8
 .show Oj N b _=some (_,b||false);rw[<- hor];exact e9 ok.sk
 .show Nz N b _=some (_,b||false);rw[<- hor];exact e10 ok.ak
 .exact e11
 .exact e12
end
def Aub: ∀(l:List (Bool×Bool×Ex)) (s:Bool×List Ex),OX (R:=Unit) (fun r s=>.inr (s.1||QN r,s.2++KU r)) l s= .inr (s.1||l.any QN,s.2++l.flatMap KU):=by
 intro l
 induction l with
 | nil=>intro s;rw[List.any_nil,Jo,ES,DV];rfl
 | cons r t ih =>intro s;rw[N9];show OX (R:=Unit) _ t _=_;rw[ih,List.any_cons,F7,Bool.or_assoc,Ee]
def Ajj (x:Info):(OI x).length=13:=rfl
def NZ (r:Bool×Bool×Ex):(KU r).length<=1:=by unfold KU;cases r.1<;>simp
def AcF (N:Nat) (x:Info) (hN:1048578<N) (hx:O5 x):Wp N x=some (encI x):=by
 have hdisp:=AlZ N x;have hput:=fun(b:Bool) (h0:Qg x=0)=>Av0 N hN b x hx h0;have hhas:=Awk x;have hcrit:=Au2 x;have hlen:=Ajj x;have hrl:=AeS;have hck:=jK N x hN hx;have hun:=hx.un.1;unfold Wp encI;try simp only[clR]
 rw[hck,Jt,<- JY];refine KJ fun h0=> ?_;have h0:Qg x=0:=by simpa using h0
 obtain⟨B,C,D,F,G,H,I,J,K,L,M,O,P,Q,T,U,V,W,Y⟩:=x;have hun:Y.length<=1048576:=hun;generalize hX:(B,C,D,F,G,H,I,J,K,L,M,O,P,Q,T,U,V,W,Y)=X at *
 rw[show PR N=some V7 from rfl,Jt];subst hX;refine(Uf (S:=Bool×List Ex) (R:=Unit) (mk:=fun i s=>((i:Int),B,C,D,F,G,H,I,J,K,L,M,O,P,Q,T,U,V,W,Y,s.1,s.2)) (OI (B,C,D,F,G,H,I,J,K,L,M,O,P,Q,T,U,V,W,Y)) noX (fun i s=>s.2.length<=i) (fun r s=>.inr (s.1||QN r,s.2++KU r)) (fun _=>none) (fun s=>bif s.1 then some ([],2)else Vm.chk (decide ((s.2.length+Y.length)*41<=140737488355328)) (some (s.2++Y,0))) ?_ ?_ ?_ N (false,[]) (DK _) (by rw[hlen];omega)).trans ?_
 .intro i s hi hI k;rw[hlen]at hi;have hI:s.2.length<=i:=hI;have hd:=hdisp i hi;rw[hhas i hi]at hd;have hp:=hput s.1 h0 i hi;have hcr:=hcrit i hi;dsimp only[U22];rw[Int.toNat_natCast];generalize (OI (B,C,D,F,G,H,I,J,K,L,M,O,P,Q,T,U,V,W,Y)).getD i noX=r at *
  generalize V7.getD i ([],0,0,0,0)=q at *
  obtain⟨hc1,hc2⟩:=Prod.mk.inj hcr;simp (disch:=omega) only[JF,hrl,hd,JX];unfold QN KU;cases hr:r.1 with
  | false=>rw[cond_false,cond_false,Fa,ES,DV]
  | true =>rw[cond_true,hp hr,Jt,cond_true,EH];dsimp only;rw[hc2,hc1]
 .intro i s s' hi hI he;injection he with he;subst he;have:=NZ ((OI (B,C,D,F,G,H,I,J,K,L,M,O,P,Q,T,U,V,W,Y)).getD i noX);have hI:s.2.length<=i:=hI;show(s.2++KU _).length<=i+1;rw[Dv];omega
 .intro s k hI;rw[hlen];dsimp only[U22];rw[hrl,Vs,cond_false];rfl
 .rw[Aub,Ahm]
  have hl:((OI (B,C,D,F,G,H,I,J,K,L,M,O,P,Q,T,U,V,W,Y)).flatMap KU).length<=13:=by
   have: ∀ l:List (Bool×Bool×Ex),(l.flatMap KU).length<=l.length:=by
    intro l
    induction l with
    | nil=>simp
    | cons r t ih =>have:=NZ r;rw[F7,Dv,List.length_cons];omega
   have:=this (OI (B,C,D,F,G,H,I,J,K,L,M,O,P,Q,T,U,V,W,Y));rw[hlen]at this;exact this
  dsimp only;rw[EK,List.nil_append,Ov,Jz,JY]
end Go.Proofs.YtdihmdelaolelaaGreatDoor.Pl
