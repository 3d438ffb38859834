import Derived.Test.YtakmjgnpefmjhaaGreatDoorA16
import Derived.Sort.Walk0
set_option linter.all false
namespace Go.Proofs.YtakmjgnpefmjhaaGreatDoor.Pl
open IntKind (i64 u8 u32 u64)
open Go Vm
def wrap_u64 (x:Int):u64.wrap x=x % 18446744073709551616:=by simp [IntKind.wrap,IntKind.bits,IntKind.signed]
def Asa (a b:Nat) (hb:b<256):(a*256) ||| b=a*256+b:=by rw[show a*256=a <<< 8 by rw[G8],<- Gz (by omega:b<2 ^ 8)]
def ori (x b:Int) (h1: -36028797018963968<=x) (h2:x<36028797018963968) (h3:0<=b) (h4:b<256):JY .or .i64 (i64.wrap (x*256)) (i64.wrap b)=x*256+b:=by
 rw[w64 (by omega) (by omega),w64 (by omega) (by omega)];have e1:(BitVec.ofInt 64 (x*256)).toNat=((x*256) % 18446744073709551616).toNat:=by simp [Gv]
 have e2:(BitVec.ofInt 64 b).toNat=b.toNat:=by rw[Gv];omega
 show i64.wrap (((BitVec.ofInt 64 (x*256)) ||| (BitVec.ofInt 64 b)).toNat:Int)=_;rw[BitVec.toNat_or,e1,e2,show((x*256) % 18446744073709551616).toNat=(x % 72057594037927936).toNat*256 by omega,Asa _ _ (by omega),IntKind.wrap_i64];omega
def oru (x b:Int) (h3:0<=b) (h4:b<256):JY .or .u64 (u64.wrap (x*256)) (u64.wrap b)=(x*256+b) % 18446744073709551616:=by
 rw[wrap_u64,wrap_u64];have e1:(BitVec.ofInt 64 ((x*256) % 18446744073709551616)).toNat=((x*256) % 18446744073709551616).toNat:=by rw[Gv];omega
 have e2:(BitVec.ofInt 64 (b % 18446744073709551616)).toNat=b.toNat:=by rw[Gv];omega
 show u64.wrap (((BitVec.ofInt 64 ((x*256) % 18446744073709551616)) ||| (BitVec.ofInt 64 (b % 18446744073709551616))).toNat:Int)=_;rw[BitVec.toNat_or,e1,e2,show((x*256) % 18446744073709551616).toNat=(x % 72057594037927936).toNat*256 by omega,Asa _ _ (by omega),wrap_u64];omega
def A0N: ∀(l:Bs) (k:Nat) (v:Int),k+l.length<=7-> -(128*256 ^ k)<=v->v<128*256 ^ k ->
 l.foldl (fun acc b=>JY .or .i64 (i64.wrap (acc*256)) (i64.wrap (b.toNat:Int))) v=Sp.be v l:=by
 intro l
 induction l with
 | nil=>intro k v _ _ _;rfl
 | cons b r ih =>
  intro k v hk h1 h2;simp only[List.length_cons]at hk;have hb:=b.toNat_lt;have hp:=Sp.AmC (show k<=6 by omega);have h6:(256:Int) ^ 6=281474976710656:=by decide
  rw[List.foldl_cons,ori _ _ (by omega) (by omega) (by omega) (by omega),Sp.Agp];have hs:(256:Int) ^ (k+1)=256 ^ k*256:=Int.pow_succ ..;exact ih (k+1) _ (by omega) (by omega) (by omega)
def AzQ: ∀(l:Bs) (v w:Int),v=w % 18446744073709551616 ->
 l.foldl (fun acc b=>JY .or .u64 (u64.wrap (acc*256)) (u64.wrap (b.toNat:Int))) v=Sp.be w l % 18446744073709551616:=by
 intro l
 induction l with
 | nil=>intro v w h;exact h
 | cons b r ih =>intro v w h;have hb:=b.toNat_lt;rw[List.foldl_cons,oru _ _ (by omega) (by omega),Sp.Agp];exact ih _ _ (by omega)
def Ajx {S:Type} (g:S->UInt8->S) (l:Bs) (a:S):(List.range l.length).foldl (fun s i=>g s (l.getD i 0)) a=l.foldl g a:=by
 have e:(List.range l.length).map (fun i=>l.getD i 0)=l:=by apply List.ext_getElem (by simp);intro i h1 h2;simp [Dp,h2]
 conv=>rhs;rw[<- e,List.foldl_map]
def A03 (a:UInt8):i64.wrap (IntKind.i8.wrap (a.toNat:Int))=Sp.dX a:=by
 have: ∀ a:Fin 256,i64.wrap (IntKind.i8.wrap (a.val:Int))=if a.val<128 then(a.val:Int)else(a.val:Int) - 256:=by decide +kernel
 exact this ⟨a.toNat,a.toNat_lt⟩
def AmD (N:Nat) (a:UInt8) (r:Bs) (hN:16<N) (hr:r.length<=7):J6 (X:=Int×Int) (Y:=Int) (U2 fun t4a t43a k11 x12 =>
 bif decide (t43a<(i64.wrap (((a::r).length:Int) - (1:Int))))then(chk (decide ((0:Int)<=i64.wrap (t43a+(1:Int)))) <|
 chk (decide (i64.wrap (t43a+(1:Int))<((a::r).length:Int))) <|
 k11 (JY .or .i64 (i64.wrap (t4a*(256))) (i64.wrap (((a::r).getD ((i64.wrap (t43a+(1:Int))).toNat) 0).toNat:Int)),i64.wrap (t43a+(1:Int))))
 else(x12 t4a))
 N (i64.wrap (IntKind.i8.wrap (a.toNat:Int)),0) (fun t4b=>some (t4b,0))=some (Sp.be (Sp.dX a) r,(0:Int)):=by
 have hl:((a::r).length:Int)=(r.length:Int)+1:=by simp
 refine(Xj (fun i acc=>(acc,(i:Int))) r.length (fun i acc=>JY .or .i64 (i64.wrap (acc*256)) (i64.wrap ((r.getD i 0).toNat:Int))) (fun acc=>some (acc,0)) ?_ ?_ N _ (by omega)).trans ?_
 .intro i acc hi k;dsimp only[U2];rw[hl];have e:(((i:Int)+1)).toNat=i+1:=by omega
  simp (disch:=omega) only[J4,e,FI];rfl
 .intro acc k;dsimp only[U2];rw[hl];simp (disch:=omega) only[J4]
 .have:=A03 a;rw[this,Ajx (fun acc b=>JY .or .i64 (i64.wrap (acc*256)) (i64.wrap (b.toNat:Int)))];have hs:=Sp.AcP a;rw[A0N r 0 _ (by omega) (by omega) (by omega)]
def bad_eq (a b:UInt8) (r:Bs):Sp.Aes (a::b::r)=((((a.toNat:Int)==0)&&decide ((b.toNat:Int)<128))||(((a.toNat:Int)==255)&& !decide ((b.toNat:Int)<128))):=by
 have e1:((a.toNat:Int)==0)=decide (a.toNat=0):=by rw[EW];simp
 have e2:((a.toNat:Int)==255)=decide (a.toNat=255):=by rw[EW];simp;omega
 have e3:decide ((b.toNat:Int)<128)=decide (b.toNat<128):=by rw[EW];simp;omega
 rw[e1,e2,e3];show(_||_&&decide (128<=b.toNat))=_;rw[show decide (128<=b.toNat)= !decide (b.toNat<128) by rw[EW];simp]
def Akk (N:Nat) (s:Bs) (hN:16<N) (hs:s.length<=1048576):Xu N s=some (Sp.integer s):=by
 match s with
 | []=>rfl
 | [a] =>
  have hlo:=AmD N a [] hN (by simp);have d1:decide (([a].length:Int)>1)=false:=by simp
  have d2:decide ((0:Int)<([a].length:Int))=true:=by simp
  have d4:decide (([a].length:Int)>8)=false:=by simp
  have e1:([a]==([]:Bs))=false:=by simp
  unfold Xu;try simp -zeta only[Ap]
  have hi:Sp.integer [a]=(Sp.be (Sp.dX a) [],0):=by simp [Sp.integer,Sp.Aes,Sp.Ap6]
  rw[hi];have d3:decide ((1:Int)<([a].length:Int))=false:=by simp
  simp only[Eb,d1,d2,d3,d4,e1];generalize ((a.toNat:Int)==0)=X;generalize ((a.toNat:Int)==255)=Z;cases X<;>cases Z<;>exact Ey (by kernel_rfl) hlo
 | a::b::r =>
  have e1:((a::b::r)==([]:Bs))=false:=rfl;have hl:((a::b::r).length:Int)=(r.length:Int)+2:=by simp;omega
  have hg:decide ((b.toNat:Int)>=128)= !decide ((b.toNat:Int)<128):=by rw[EW];simp
  unfold Xu;try simp -zeta only[Ap]
  simp only[e1,hg,Eb,FI];have hlo:=AmD N a (b::r) hN;unfold Sp.integer;rw[bad_eq];have d1:decide (((a::b::r).length:Int)>1)=true:=Dn (by omega);have d2:decide ((0:Int)<((a::b::r).length:Int))=true:=Dn (by omega);have d3:decide ((1:Int)<((a::b::r).length:Int))=true:=Dn (by omega);simp only[d1,d2,d3];generalize ((a.toNat:Int)==0)=X;generalize decide ((b.toNat:Int)<128)=Y;generalize ((a.toNat:Int)==255)=Z;by_cases h8:(a::b::r).length<=8
  .have hlo:=hlo (by simpa using h8);have d4:decide (((a::b::r).length:Int)>8)=false:=Du (by omega);have d5: ¬ 8<(a::b::r).length:=by omega
   rw[d4,Dt d5];cases X<;>cases Y<;>cases Z<;>first | rfl | exact hlo
  .have d4:decide (((a::b::r).length:Int)>8)=true:=Dn (by omega);have d5:8<(a::b::r).length:=by omega
   rw[d4,Dq d5];cases X<;>cases Y<;>cases Z<;>rfl
def Aqu (N:Nat) (s:Bs) (t:Int) (hN:16<N) (hr:s.length<=8):J6 (X:=Int×Int) (Y:=Int) (U2 fun t4b t5b k12 x13 =>
 bif decide (t5b<(s.length:Int))then(chk (decide ((0:Int)<=t5b)) <|
 chk (decide (t5b<(s.length:Int))) <|
 let x52:Int:=JY .or .u64 (u64.wrap (t4b*(256))) (u64.wrap ((s.getD t5b.toNat 0).toNat:Int))
 k12 (x52,i64.wrap (t5b+(1:Int))))
 else(x13 t4b))
 N (t,0) (fun t4c=>some (i64.wrap t4c,0))=some (i64.wrap (s.foldl (fun acc b=>JY .or .u64 (u64.wrap (acc*256)) (u64.wrap (b.toNat:Int))) t),(0:Int)):=by
 refine(Xj (fun i acc=>(acc,(i:Int))) s.length (fun i acc=>JY .or .u64 (u64.wrap (acc*256)) (u64.wrap ((s.getD i 0).toNat:Int))) (fun acc=>some (i64.wrap acc,0)) ?_ ?_ N _ (by omega)).trans ?_
 .intro i acc hi k;dsimp only[U2];simp (disch:=omega) only[J4];rfl
 .intro acc k;dsimp only[U2];simp (disch:=omega) only[J4]
 .rw[Ajx (fun acc b=>JY .or .u64 (u64.wrap (acc*256)) (u64.wrap (b.toNat:Int)))]
def Azu (a:UInt8) (r:Bs) (hr:r.length<=7):i64.wrap ((a::r).foldl (fun acc b=>JY .or .u64 (u64.wrap (acc*256)) (u64.wrap (b.toNat:Int))) (bif decide ((a.toNat:Int)>=128)then 18446744073709551615 else 0))=Sp.be (Sp.dX a) r:=by
 have hl:=a.toNat_lt;have e: ∀ w:Int,((bif decide ((a.toNat:Int)>=128)then 18446744073709551615 else 0:Int))=w % 18446744073709551616->w*256+(a.toNat:Int)=Sp.dX a->i64.wrap ((a::r).foldl (fun acc b=>JY .or .u64 (u64.wrap (acc*256)) (u64.wrap (b.toNat:Int))) (bif decide ((a.toNat:Int)>=128)then 18446744073709551615 else 0))=Sp.be (Sp.dX a) r:=by intro w h1 h2;rw[AzQ _ _ w h1,Sp.Agp,h2];have:=Sp.AuN r hr _ (Sp.AcP a).1 (Sp.AcP a).2;rw[IntKind.wrap_i64];omega
 by_cases h:(a.toNat:Int)>=128
 .exact e (-1) (by rw[Dn h];rfl) (by unfold Sp.dX;rw[Dt (by omega)];omega)
 .exact e 0 (by rw[Du h];rfl) (by unfold Sp.dX;rw[Dq (by omega)];omega)
def Asl (N:Nat) (a:UInt8) (r:Bs) (hN:16<N) (hr:r.length<=7) (f:Int->Option (Int×Int)) (hf: ∀ t,f t=J6 (X:=Int×Int) (Y:=Int) (U2 fun t4b t5b k12 x13 =>
 bif decide (t5b<((a::r).length:Int))then(chk (decide ((0:Int)<=t5b)) <|
 chk (decide (t5b<((a::r).length:Int))) <|
 let x52:Int:=JY .or .u64 (u64.wrap (t4b*(256))) (u64.wrap (((a::r).getD t5b.toNat 0).toNat:Int))
 k12 (x52,i64.wrap (t5b+(1:Int))))
 else(x13 t4b))
 N (t,0) (fun t4c=>some (i64.wrap t4c,0))):(bif decide ((a.toNat:Int)>=128)then f 18446744073709551615 else f 0)=some (Sp.be (Sp.dX a) r,(0:Int)):=by
 have:=Azu a r hr;cases h:decide ((a.toNat:Int)>=128)with
 | true=>rw[h]at this;show f _=_;rw[hf,Aqu N _ _ hN (by simp;omega)];exact congrArg (fun x=>some (x,0)) this
 | false=>rw[h]at this;show f _=_;rw[hf,Aqu N _ _ hN (by simp;omega)];exact congrArg (fun x=>some (x,0)) this
def Ai3 (N:Nat) (s:Bs) (hN:16<N) (hs:s.length<=1048576):VX N s=some (Sp.integer s):=by
 match s with
 | []=>rfl
 | [a] =>
  have hlo:=Asl N a [] hN (by simp) _ (fun _=>rfl);have d1:decide (([a].length:Int)>1)=false:=by simp
  have d2:decide ((0:Int)<([a].length:Int))=true:=by simp
  have d4:decide (([a].length:Int)>8)=false:=by simp
  have e1:(([a].length:Int)==0)=false:=by simp
  unfold VX;try simp -zeta only[Ap]
  have hi:Sp.integer [a]=(Sp.be (Sp.dX a) [],0):=by simp [Sp.integer,Sp.Aes,Sp.Ap6]
  rw[hi];have d3:decide ((1:Int)<([a].length:Int))=false:=by simp
  simp only[Eb,d1,d2,d3,d4,e1];generalize ((a.toNat:Int)==0)=X;generalize ((a.toNat:Int)==255)=Z;cases X<;>cases Z<;>exact Ey (by kernel_rfl) hlo
 | a::b::r =>
  have hl:((a::b::r).length:Int)=(r.length:Int)+2:=by simp;omega
  have hg:decide ((b.toNat:Int)>=128)= !decide ((b.toNat:Int)<128):=by rw[EW];simp
  unfold VX;try simp -zeta only[Ap]
  have e1:(((a::b::r).length:Int)==0)=false:=Hg.2 (by omega);simp only[e1,hg,Eb,FI];have hlo:=Asl N a (b::r) hN;unfold Sp.integer;rw[bad_eq];have d1:decide (((a::b::r).length:Int)>1)=true:=Dn (by omega);have d2:decide ((0:Int)<((a::b::r).length:Int))=true:=Dn (by omega);have d3:decide ((1:Int)<((a::b::r).length:Int))=true:=Dn (by omega);simp only[d1,d2,d3];generalize ((a.toNat:Int)==0)=X;generalize decide ((b.toNat:Int)<128)=Y;generalize ((a.toNat:Int)==255)=Z;by_cases h8:(a::b::r).length<=8
  .have hlo:=hlo (by simpa using h8) _ (fun _=>rfl);have d4:decide (((a::b::r).length:Int)>8)=false:=Du (by omega);have d5: ¬ 8<(a::b::r).length:=by omega
   rw[d4,Dt d5];cases X<;>cases Y<;>cases Z<;>first | rfl | (rw [Pz];exact hlo)
  .have d4:decide (((a::b::r).length:Int)>8)=true:=Dn (by omega);have d5:8<(a::b::r).length:=by omega
   rw[d4,Dq d5];cases X<;>cases Y<;>cases Z<;>rfl
def Kq (l:List El) (t:Int):El×Int×List El:=match l with
 | []=>((0,[],[]),3,[])
 | e::r=>bif e.1 != t then((0,[],[]),5,e::r)else(e,0,r)
def AsL (e:El) (r:List El):J9 (e::r) 1 (e::r).length=r:=by show((e::r).take (e::r).length).drop 1=r;rw[Ez];rfl
def AkH (N:Nat) (l:List El) (t:Int):OX N l t=some (Kq l t):=by
 cases l with
 | nil=>rfl
 | cons e r =>
  have h1:decide (((e::r).length:Int)>(0:Int))=true:=Dn (by simp only[List.length_cons];omega);have h2:decide ((0:Int)<((e::r).length:Int))=true:=Dn (by simp only[List.length_cons];omega);have h3:decide ((1:Int)<=((e::r).length:Int))=true:=Dn (by simp only[List.length_cons];omega);have h4:(((e::r).length:Int)==(0:Int))=false:=by simp;omega
  unfold OX XM Kq;try simp -zeta only[Ap]
  rw[h1,h3,h4,AsL];show(bif e.1 != t then some (((0,[],[]):El),(5:Int),e::r)else some (e,(0:Int),r))=_;rw[JD]
def Ao4 (N:Nat) (es l:List El) (x:List El×Int) (hx:At es l x) (hl:es.length<=1099511627776) (t:Int) (ht:0<=t) :
 ∃ y,KT N x t=some ((Kq l t).1,(Kq l t).2.1,y)/\At es (Kq l t).2.2 y:=by
 obtain⟨i,rfl,hi,hd⟩:=hx;unfold KT;try simp -zeta only[Ap]
 have ht':decide (t>=(0:Int))=true:=Dn (by omega);by_cases h:i=es.length
 .have hl0:l=[]:=by rw[<- hd,h,EY]
  subst hl0;have h0:decide ((i:Int)>=(es.length:Int))=true:=Dn (by omega);dsimp only;rw[h0];exact⟨(es,(i:Int)),rfl,i,rfl,hi,hd⟩
 .have h0:decide ((i:Int)>=(es.length:Int))=false:=Du (by omega);have h1:decide ((0:Int)<=(i:Int))=true:=Dn (by omega);have h2:decide ((i:Int)<(es.length:Int))=true:=Dn (by omega);have hg:es.drop i=es.getD i (0,[],[])::es.drop (i+1):=by rw[Es (by omega)];congr 1;simp [Dp,show i<es.length by omega]
  dsimp only;rw[h0,h1,h2,ht',w64 (x:=(i:Int)+1) (by omega) (by omega),Int.toNat_natCast];rw[<- hd,hg];show ∃ y,(bif ((es.getD i (0,[],[])).1 != t)then some (((0,[],[]):El),(5:Int),(es,(i:Int)))else some (es.getD i (0,[],[]),(0:Int),(es,(i:Int)+1)))=some ((Kq _ t).1,(Kq _ t).2.1,y)/\At es (Kq _ t).2.2 y;unfold Kq;dsimp only;cases hb:(es.getD i (0,[],[])).1 != t with
  | true=>exact⟨_,rfl,i,rfl,hi,hg⟩
  | false=>exact⟨_,rfl,i+1,by simp,by omega,rfl⟩
def xE {M:Nat} {l:List El} (h:Good M l) (t:Int):Good M (Kq l t).2.2/\((Kq l t).2.1=0->YQ M (Kq l t).1):=by
 cases l with
 | nil=>exact⟨h,fun h=>by cases h⟩
 | cons e r =>
  unfold Kq;dsimp only;cases e.1 != t with
  | true=>exact⟨h,fun h=>by cases h⟩
  | false=>exact⟨h.tail,fun _=>h.all e Dw⟩
def Ul (l:List El):Int:=if l=[]then 0 else 4
def JW (s:Bs):List El×Int:=bif (KD s 48).2 != 0 then([],(KD s 48).2)else JG (KD s 48).1.2.1
def Azk (s:Bs) (t:Int):((KD s t).2 != 0)=false->((KD s t).1.1 != t)=false:=by
 unfold KD;cases hb:(KG s).2 != 0 with
 | true=>intro h;exact absurd h (by show ¬((KG s).2 != 0)=false;rw[hb];decide)
 | false =>
  cases h:(KG s).1.1 != t with
  | true=>intro h;cases h
  | false=>intro _;exact h
def P6 (s:Bs) (hs:s.length<=1048576):Good 1048576 (JW s).1:=by
 have hl:=Nr s 48;unfold JW;cases (KD s 48).2 != 0 with
 | true=>exact(KC []).mono (by simp)
 | false=>exact(KC _).mono (by omega)
def Aen {ρ :Type} (N:Nat) (s:Bs) (hN:1048578<N) (hs:s.length<=1048576) (k:List El×Int->Option ρ) (l:Unit×Int->Option ρ) :
 SH (Vu N s 48) k l=bif (JW s).2 != 0 then l ((),(JW s).2)else k ((JW s).1,0):=by
 have hlo:=Nr s 48;unfold Vu RX JW;rw[XK N s 48 hN hs,Js];cases h:(KD s 48).2 != 0 with
 | true=>rw[cond_true,Tz,cond_true,h,cond_true]
 | false =>
  rw[cond_false,cond_false,NP N _ (by omega) (by omega) (by omega),Js];cases h2:(JG (KD s 48).1.2.1).2 != 0 with
  | true=>rw[cond_true,Tz,Tz,cond_true]
  | false=>rw[cond_false,jW,jW,cond_false]
def iQ (N:Nat) (s:Bs) (hN:1048578<N) (hs:s.length<=1048576):Pv N s=some (((JW s).1,0),(JW s).2):=by
 have hlo:=Nr s 48;have ht:=Azk s 48;unfold Pv MH JW;rw[ZC N s 48 hN hs,Js];cases h:(KD s 48).2 != 0 with
 | true=>rfl
 | false =>rw[cond_false,cond_false,ht h,cond_false,QL N _ (by omega) (by omega) (by omega)];rfl
def LQ (s:Bs):List El×Int:=bif (JW s).2 != 0 then([],(JW s).2)else bif (JW s).1.isEmpty then([],7)else((JW s).1,0)
def wY {ρ :Type} (N:Nat) (s:Bs) (hN:1048578<N) (hs:s.length<=1048576) (k:List El×Int->Option ρ) (l:Unit×Int->Option ρ) :
 SH (RU N s) k l=bif (LQ s).2 != 0 then l ((),(LQ s).2)else k ((LQ s).1,0):=by
 unfold RU LQ;rw[Aen N s hN hs];cases h:(JW s).2 != 0 with
 | true=>simp only[h,cond_true,Tz]
 | false =>
  unfold MB;simp only[cond_false,DX,Js,len0];cases h2:(JW s).1.isEmpty with
  | true=>rfl
  | false=>rfl
def iW (s:Bs):Bool×Int:=bif s==[0]then(false,0)else bif s==[255]then(true,0)else(false,7)
def Akj (N:Nat) (s:Bs):cZ N s=some (iW s):=by unfold cZ iW;simp only[JD]
def Ai1 (N:Nat) (s:Bs):Za N s=some (iW s):=by
 unfold Za iW;try simp -zeta only[Ap]
 by_cases h:s=[0]
 .subst h;rfl
 .rw[show(s==[0])=false from Eg h];cases s==[255]<;>rfl
def mG (s:Bs):Int×Int:=bif (Sp.integer s).2 != 0 then(0,(Sp.integer s).2)else bif decide ((Sp.integer s).1<0)||decide ((Sp.integer s).1>64)then(0,1)else((Sp.integer s).1,0)
def oO (N:Nat) (s:Bs) (hN:1048578<N) (hs:s.length<=1048576):O7 N s=some (mG s):=by
 unfold O7 mG;try simp only[clR]
 rw[Akk N s (by omega) hs,Js];simp only[JD]
def Aq7 (N:Nat) (s:Bs) (hN:1048578<N) (hs:s.length<=1048576):YI N s=some (mG s):=by
 unfold YI mG;try simp only[clR]
 rw[Ai3 N s (by omega) hs,Js];simp only[JD]
def YP (l:List El) (t:Int):Bool×Int:=bif !(JU l t).2.1 then(false,0)else bif (iW (JU l t).1.2.1).2 != 0 then(false,(iW (JU l t).1.2.1).2)else bif !(iW (JU l t).1.2.1).1 then(false,7)else(true,0)
def AuC (N:Nat) (l:List El) (t:Int):WM N l t=some ((YP l t).1,(YP l t).2,(JU l t).2.2):=by
 unfold WM YP;try simp only[clR]
 rw[Aab,Js];cases h:(JU l t).2.1 with
 | false=>rfl
 | true =>
  rw[Ec,cond_false,cond_false,Akj,Js];unfold iW;cases (JU l t).1.2.1==[0]with
  | true=>rfl
  | false=>cases (JU l t).1.2.1==[255]<;>rfl
def Aw4 (N:Nat) (es l:List El) (x:List El×Int) (hx:At es l x) (hl:es.length<=1099511627776) (t:Int) :
 ∃ y,pR N x t=some ((YP l t).1,(YP l t).2,y)/\At es (JU l t).2.2 y:=by
 obtain⟨y,h1,h2⟩:=qL N es l x hx hl t;refine⟨y,?_,h2⟩;unfold pR YP;rw[h1,Js];dsimp only;cases h:(JU l t).2.1 with
 | false=>rfl
 | true =>
  rw[Ec,cond_false,cond_false,Ai1,Js];cases (iW (JU l t).1.2.1).2 != 0 with
  | true=>rfl
  | false=>cases (iW (JU l t).1.2.1).1<;>rfl
def Acf {l:List El} (hg:Good 1048576 l) (t:Int) (h:(JU l t).2.1=true):(JU l t).1.2.1.length<=1048576:=by have:=((Ub hg t).2 h).content;omega
def UI (l:List El) (t:Int):Int×Int:=bif !(JU l t).2.1 then(-1,0)else mG (JU l t).1.2.1
def Ait (N:Nat) (es l:List El) (x:List El×Int) (hN:1048578<N) (hx:At es l x) (hl:es.length<=1099511627776) (hg:Good 1048576 l) (t:Int) :
 ∃ y,Wq N x t=some ((UI l t).1,(UI l t).2,y)/\At es (JU l t).2.2 y:=by
 obtain⟨y,h1,h2⟩:=qL N es l x hx hl t;refine⟨y,?_,h2⟩;unfold Wq UI;rw[h1,Js];dsimp only;cases h:(JU l t).2.1 with
 | false=>rfl
 | true =>rw[Ec,cond_false,cond_false,Aq7 N _ hN (Acf hg t h),Js]
def idD (l:List El):Bs×Int:=bif (Kq l 6).2.1 != 0 then([],(Kq l 6).2.1)else OU (TZ (Kq l 6).1.2.1)
def Acb (N:Nat) (l:List El) (hN:1048578<N) (hg:Good 1048576 l):Td N l=some ((idD l).1,(idD l).2,(Kq l 6).2.2):=by
 unfold Td idD;rw[AkH,Js];cases h:(Kq l 6).2.1 != 0 with
 | true=>rfl
 | false =>
  have h0:(Kq l 6).2.1=0:=by simpa using h
  have:=((xE hg 6).2 h0).content;rw[cond_false,cond_false,YY N _ (by omega) (by omega) (by omega),Js]
section
variable {X Y ρ E A:Type} {B:X->(X->Option ρ)->(Y->Option ρ)->Option ρ} {kx:Y->Option ρ}
def Apk (f:E->Int) (e:E) (r:List E):JV f (e::r)=bif f e != 0 then f e else JV f r:=by
 show(if f e≠0 then _ else _)=_;by_cases h:f e=0
 .rw[Dt (by simp [h]),h];rfl
 .rw[Dq h,show(f e != 0)=true from EO.2 h];rfl
def AmN (mk:List E->List A->X) (I:List E->Prop) (er:E->Int) (g:E->A) (ret:Int->List A->Option ρ) (fin:List A->Option ρ)
 (h: ∀ e r acc,I (e::r)->acc.length<=1048576-> ∀ k,B (mk (e::r) acc) k kx=bif er e != 0 then ret (er e) acc else k (mk r (acc++[g e])))
 (hI: ∀ e r,I (e::r)->I r) (h0: ∀ acc k,B (mk [] acc) k kx=fin acc) :
 ∀(N:Nat) (l:List E) (acc:List A),I l->l.length<N->acc.length+l.length<=1048576-> ∃ a,J6 B N (mk l acc) kx=bif JV er l != 0 then ret (JV er l) a else fin (acc++l.map g):=by
 intro N
 induction N with
 | zero=>intro l acc _ h;omega
 | succ N ih =>
  intro l acc hi hn ha;rw[OA];cases l with
  | nil=>exact⟨acc,by rw[h0];simp [JV]⟩
  | cons e r =>
   simp only[List.length_cons]at hn ha;rw[h e r acc hi (by omega),Apk];cases hb:er e != 0 with
   | true=>exact⟨acc,by rw[cond_true,cond_true,hb,cond_true]⟩
   | false =>obtain⟨a,ha'⟩:=ih r (acc++[g e]) (hI e r hi) (by omega) (by simp;omega);exact⟨a,by rw[cond_false,cond_false,ha'];simp⟩
def Aur (mk:List E->List A->Int->X) (I:List E->Prop) (er:E->Int) (g:E->A) (fin:List A->Int->Option ρ)
 (h: ∀ e r acc,I (e::r)->acc.length<=1048576-> ∀ k,∃ q,B (mk (e::r) acc 0) k kx=k (mk q (acc++[g e]) (er e))/\(er e=0->q=r))
 (hx: ∀ q acc err,err≠0-> ∀ k,B (mk q acc err) k kx=fin acc err)
 (hI: ∀ e r,I (e::r)->I r) (h0: ∀ acc k,B (mk [] acc 0) k kx=fin acc 0) :
 ∀(N:Nat) (l:List E) (acc:List A),I l->l.length+1<N->acc.length+l.length<=1048576-> ∃ a,J6 B N (mk l acc 0) kx=fin a (JV er l)/\(JV er l=0->a=acc++l.map g):=by
 intro N
 induction N with
 | zero=>intro l acc _ h;omega
 | succ N ih =>
  intro l acc hi hn ha;rw[OA];cases l with
  | nil=>exact⟨acc,by rw[h0];rfl,by simp⟩
  | cons e r =>
   simp only[List.length_cons]at hn ha;obtain⟨q,h1,h2⟩:=h e r acc hi (by omega) (fun x'=>J6 B N x' kx);rw[h1,Apk];by_cases he:er e=0
   .rw[h2 he,he];obtain⟨a,h3,h4⟩:=ih r (acc++[g e]) (hI e r hi) (by omega) (by simp;omega);exact⟨a,h3,fun h=>by rw[h4 h];simp⟩
   .rw[show(er e != 0)=true from EO.2 he,cond_true];obtain⟨M,rfl⟩: ∃ M,N=M+1:=⟨N - 1,by omega⟩
    exact⟨acc++[g e],by rw[OA,hx _ _ _ he],fun h=>absurd h he⟩
end
def mJ (e:El):Bs×Int:=bif e.1 != 6 then([],5)else OU (TZ e.2.1)
def Axo (e:El) (r:List El):idD (e::r)=mJ e:=by unfold idD mJ Kq;dsimp only;cases e.1 != 6<;>rfl
def Akb (l:List El):Int:=JV (fun e=>(mJ e).2) l
def AtU (l:List El):List Bs:=l.map (fun e=>(mJ e).1)
def Als (N:Nat) (l:List El) (hN:1048578<N) (hg:Good 1048576 l):Uo N l=some (bif Akb l != 0 then([],Akb l)else(AtU l,0)):=by
 have hl:=hg.len;unfold Uo;try simp -zeta only[Ap]
 refine(PT (mk:=fun i acc=>((i:Int),acc)) l (0,[],[]) (fun e=>(mJ e).2) (fun e=>(mJ e).1) (fun e=>some ([],e)) (fun acc=>some (acc,0)) ?_ ?_ N (by omega)).trans ?_
 .intro i acc hi ha k;have hc:=(hg.all _ (getD_mem ((0,[],[]):El) hi)).content;have hd:=Xv N (l.getD i (0,[],[])).2.1 (by omega) (by omega) (by omega);unfold mJ;dsimp only[U2];simp (disch:=omega) only[J4,hd,Ko];cases (l.getD i (0,[],[])).1 != 6 with
  | true=>rfl
  | false=>simp only[cond_false]
 .intro acc k ha;dsimp only[U2];simp (disch:=omega) only[J4]
 .exact(JD _ _ _)
def elL (e:El):List El×Int:=bif e.1 != 48 then([],5)else JG e.2.1
def N9 (e:El):Bs×Int:=bif (elL e).2 != 0 then([],(elL e).2)else bif (idD (elL e).1).2 != 0 then([],(idD (elL e).1).2)else((idD (elL e).1).1,Ul (Kq (elL e).1 6).2.2)
def NY (e:El):(Bs×Bs)×Int:=bif (elL e).2 != 0 then(([],[]),(elL e).2)else bif (idD (elL e).1).2 != 0 then(([],[]),(idD (elL e).1).2)else
 bif (idD (Kq (elL e).1 6).2.2).2 != 0 then(([],[]),(idD (Kq (elL e).1 6).2.2).2)else(((idD (elL e).1).1,(idD (Kq (elL e).1 6).2.2).1),Ul (Kq (Kq (elL e).1 6).2.2 6).2.2)
def Xh {M:Nat} {e:El} (he:YQ 1048576 e) (hM:1048576<=M):Good M (elL e).1:=by
 have:=he.content;unfold elL;cases e.1 != 48 with
 | true=>exact(KC []).mono (by simp)
 | false=>exact(KC _).mono (by omega)
def Ahq {ρ :Type} (N:Nat) (e:El) (r:List El) (hN:1048578<N) (he:YQ 1048576 e) :
 ∃ q,∀(k:List El×Int×List El->Option ρ) (l:Unit×Int×List El->Option ρ),SH (Nq N (e::r)) k l=bif (elL e).2 != 0 then l ((),(elL e).2,q)else k ((elL e).1,0,r):=by
 have hc:=he.content;unfold Nq RX elL;rw[AkH,Js];unfold Kq;dsimp only;cases h:e.1 != 48 with
 | true=>exact⟨_,fun _ _=>rfl⟩
 | false =>
  simp only[cond_false,DX];rw[NP N _ (by omega) (by omega) (by omega),Js];cases h2:(JG e.2.1).2 != 0 with
  | true=>exact⟨r,fun k l=>by simp only[cond_true,Tz]⟩
  | false=>exact⟨r,fun k l=>by simp only[cond_false,jW]⟩
def qC (N:Nat) (l:List El):Lp N l=some (Ul l,l):=ArD N l
def rend_eq {N:Nat} {es l:List El} {x:List El×Int} (h:At es l x):Kz N x=some (Ul l,x):=AuA N es l x h
def Gives (e:Int) (u:Info) (o:Option (Int×Info)):Prop:= ∃ j,o=some (e,j)/\(e=0->j=u)
def Gives.run {A:Type} {e:Int} {u:Info} {o:Option (Int×Info)} {F:A->Option (Int×Info)} (h: ∃ a,o=F a) (h2: ∀ a,Gives e u (F a)):Gives e u o:=by obtain⟨a,rfl⟩:=h;exact h2 a
def Gives.A17 {A:Type} {e:Int} {u:Info} {o:Option (Int×Info)} {F:A->Option (Int×Info)} {P:A->Prop} (h: ∃ a,o=F a/\P a) (h2: ∀ a,P a->Gives e u (F a)):Gives e u o:=by obtain⟨a,rfl,h⟩:=h;exact h2 a h
theorem Gives.err {e:Int} {u j:Info} (h:(e != 0)=true):Gives e u (some (e,j)):=⟨j,rfl,fun h'=>by rw[h']at h;cases h⟩
theorem Gives.ok {e:Int} {u:Info}:Gives e u (some (e,u)):=⟨u,rfl,fun _=>rfl⟩
def left_eq (N:Nat) (l:List El):MB N l=some ((l.length:Int),l):=rfl
def Aix (e:El) (r:List El):decide (((e::r).length:Int)>0)=true:=Dn (by simp only[List.length_cons];omega)
def Vf (s:Bs) (hs:s.length<=1048576):Good 1048576 (LQ s).1:=by
 unfold LQ;have h0:Good 1048576 ([]:List El):=(KC []).mono (by simp);cases (JW s).2 != 0 with
 | true=>exact h0
 | false=>cases (JW s).1.isEmpty with
  | true=>exact h0
  | false=>exact P6 s hs
def NF {A:Type} (row:El->A×Int) (s:Bs):Int:=bif (LQ s).2 != 0 then(LQ s).2 else JV (fun e=>(row e).2) (LQ s).1
def QG {A:Type} (row:El->A×Int) (s:Bs):List A:=(LQ s).1.map (fun e=>(row e).1)
def bw {ρ :Type} {n:Nat} (h:n<=140737488355328) (k:Option ρ):chk (decide (n<=140737488355328)) k=k:=by rw[Dn h];rfl
def ApI {E A:Type} (f:E->A) (l:List E) (d:E) (d':A) {i:Nat} (h:i<l.length):(l.map f).getD i d'=f (l.getD i d):=by simp [Dp,h]
def AyI {α :Type} {b:Bool} {x y: α} (h:b=true):(bif b then x else y)=x:=by rw[h];rfl
section
variable (N:Nat) (s:Bs) (hN:1048578<N) (hs:s.length<=1048576) (B C:Bool) (D G:Int) (H I:List Bs) (J:List (Bs×Bs)) (K L O:Int) (Q:List Gn) (R:Bool) (S T:List Gn) (U V:Bs) (W X:List Pt) (Y:List Ex)
include hN hs
theorem Aru (hpo:I=[]) :
 Gives (NF N9 s) (B,C,D,G,H,QG N9 s,J,K,L,O,Q,R,S,T,U,V,W,X,Y) (PH N s (B,C,D,G,H,I,J,K,L,O,Q,R,S,T,U,V,W,X,Y)):=by
 obtain⟨M,rfl⟩: ∃ M,N=M+4:=⟨N - 4,by omega⟩
 have hgl:=Vf s hs;have hll:=hgl.len;subst hpo;unfold PH
 have key:Gives (NF N9 s) (B,C,D,G,H,QG N9 s,J,K,L,O,Q,R,S,T,U,V,W,X,Y) (Vp (M+4) s 1 (B,C,D,G,H,[],J,K,L,O,Q,R,S,T,U,V,W,X,Y)):=by
  unfold Vp NF QG;try simp -zeta only[Ap]
  rw[wY _ s hN hs];cases h:(LQ s).2 != 0 with
  | true=>simp only[cond_true,h];exact Gives.err h
  | false =>
   simp only[cond_false,DX]
   refine Gives.run (AmN (mk:=fun l acc=>(B,C,D,G,K,L,O,Q,R,S,T,U,V,W,X,l,Y,J,acc,H)) (Good 1048576) (fun e=>(N9 e).2) (fun e=>(N9 e).1)
    (fun e acc=>some (e,(B,C,D,G,H,acc,J,K,L,O,Q,R,S,T,U,V,W,X,Y))) (fun acc=>some (0,(B,C,D,G,H,acc,J,K,L,O,Q,R,S,T,U,V,W,X,Y))) ?_ (fun _ _ h=>h.tail) ?_ _ _ [] hgl (by omega) (by simpa using hll)) ?_
   .intro e r acc hg ha k;have he:=hg.all e Dw;obtain⟨q,hq⟩:=Ahq (ρ :=Int×Info) (M+4) e r hN he;have hid:=Acb (M+4) (elL e).1 hN (Xh he (DK _));dsimp only[U20];simp only[left_eq,Js,Aix,cond_true];rw[hq];unfold N9;cases h2:(elL e).2 != 0 with
    | true=>simp only[cond_true,h2]
    | false =>
     simp only[cond_false,DX];rw[OA];dsimp only[U22];rw[show decide ((([]:List Bs).length:Int)<1)=true from rfl,cond_true,hid,Js];dsimp only;cases h3:(idD (elL e).1).2 != 0 with
     | true=>simp only[cond_true,h3]
     | false =>
      simp only[cond_false,List.nil_append];rw[bw (by decide),OA];dsimp only[U22];rw[show decide ((([(idD (elL e).1).1]:List Bs).length:Int)<1)=false from rfl,cond_false];simp only[qC,Js];cases h4:Ul (Kq (elL e).1 6).2.2 != 0 with
      | true=>simp only[cond_true]
      | false =>rw[cond_false,cond_false];show Jq (chk (decide ((0:Int)<(([(idD (elL e).1).1]:List Bs).length:Int)))<|chk (decide ((acc.length+1)*17<=140737488355328))<|some _) _=_;rw[show decide ((0:Int)<(([(idD (elL e).1).1]:List Bs).length:Int))=true from rfl,J8,bw (by omega)];rfl
   .intro acc k;dsimp only[U20];simp only[left_eq,Js];rfl
   .intro a;cases h5:JV (fun e=>(N9 e).2) (LQ s).1 != 0 with
    | true=>exact Gives.err h5
    | false =>
     have h6:JV (fun e=>(N9 e).2) (LQ s).1=0:=by simpa using h5
     rw[h6,cond_false,List.nil_append];exact Gives.ok
 obtain⟨j,hj,hj2⟩:=key;rw[hj];exact⟨j,rfl,hj2⟩
theorem Arn (hma:J=[]) :
 Gives (NF NY s) (B,C,D,G,H,I,QG NY s,K,L,O,Q,R,S,T,U,V,W,X,Y) (PG N s (B,C,D,G,H,I,J,K,L,O,Q,R,S,T,U,V,W,X,Y)):=by
 obtain⟨M,rfl⟩: ∃ M,N=M+4:=⟨N - 4,by omega⟩
 have hgl:=Vf s hs;have hll:=hgl.len;subst hma;unfold PG
 have key:Gives (NF NY s) (B,C,D,G,H,I,QG NY s,K,L,O,Q,R,S,T,U,V,W,X,Y) (Vq (M+4) s 2 (B,C,D,G,H,I,[],K,L,O,Q,R,S,T,U,V,W,X,Y)):=by
  unfold Vq NF QG;try simp -zeta only[Ap]
  rw[wY _ s hN hs];cases h:(LQ s).2 != 0 with
  | true=>simp only[cond_true,h];exact Gives.err h
  | false =>
   simp only[cond_false,DX]
   refine Gives.run (AmN (mk:=fun l acc=>(B,C,D,G,K,L,O,Q,R,S,T,U,V,W,X,l,Y,acc,I,H)) (Good 1048576) (fun e=>(NY e).2) (fun e=>(NY e).1)
    (fun e acc=>some (e,(B,C,D,G,H,I,acc,K,L,O,Q,R,S,T,U,V,W,X,Y))) (fun acc=>some (0,(B,C,D,G,H,I,acc,K,L,O,Q,R,S,T,U,V,W,X,Y))) ?_ (fun _ _ h=>h.tail) ?_ _ _ [] hgl (by omega) (by simpa using hll)) ?_
   .intro e r acc hg ha k;have he:=hg.all e Dw;obtain⟨q,hq⟩:=Ahq (ρ :=Int×Info) (M+4) e r hN he;have hid:=Acb (M+4) (elL e).1 hN (Xh he (DK _));dsimp only[U20];simp only[left_eq,Js,Aix,cond_true];rw[hq];unfold NY;cases h2:(elL e).2 != 0 with
    | true=>simp only[cond_true,h2]
    | false =>
     simp only[cond_false,DX];rw[OA];dsimp only[U22];rw[show decide ((([]:List Bs).length:Int)<2)=true from rfl,cond_true,hid,Js];dsimp only;cases h3:(idD (elL e).1).2 != 0 with
     | true=>simp only[cond_true,h3]
     | false =>
      have hid2:=Acb (M+4) (Kq (elL e).1 6).2.2 hN (xE (Xh he (DK _)) 6).1;simp only[cond_false,List.nil_append];rw[bw (by decide),OA];dsimp only[U22];rw[show decide ((([(idD (elL e).1).1]:List Bs).length:Int)<2)=true from rfl,cond_true,hid2,Js];dsimp only;cases h31:(idD (Kq (elL e).1 6).2.2).2 != 0 with
      | true=>simp only[cond_true,h31]
      | false =>
       simp only[cond_false,List.cons_append,List.nil_append];rw[bw (by simp),OA];dsimp only[U22];rw[show decide ((([(idD (elL e).1).1,(idD (Kq (elL e).1 6).2.2).1]:List Bs).length:Int)<2)=false from rfl,cond_false];simp only[qC,Js];cases h4:Ul (Kq (Kq (elL e).1 6).2.2 6).2.2 != 0 with
       | true=>simp only[cond_true]
       | false =>rw[cond_false,cond_false];show Jq (chk (decide ((0:Int)<(([(idD (elL e).1).1,(idD (Kq (elL e).1 6).2.2).1]:List Bs).length:Int)))<|chk (decide ((1:Int)<(([(idD (elL e).1).1,(idD (Kq (elL e).1 6).2.2).1]:List Bs).length:Int)))<|chk (decide ((acc.length+1)*33<=140737488355328))<|some _) _=_;rw[show decide ((0:Int)<(([(idD (elL e).1).1,(idD (Kq (elL e).1 6).2.2).1]:List Bs).length:Int))=true from rfl,show decide ((1:Int)<(([(idD (elL e).1).1,(idD (Kq (elL e).1 6).2.2).1]:List Bs).length:Int))=true from rfl,J8,J8,bw (by omega)];rfl
   .intro acc k;dsimp only[U20];simp only[left_eq,Js];rfl
   .intro a;cases h5:JV (fun e=>(NY e).2) (LQ s).1 != 0 with
    | true=>exact Gives.err h5
    | false =>
     have h6:JV (fun e=>(NY e).2) (LQ s).1=0:=by simpa using h5
     rw[h6,cond_false,List.nil_append];exact Gives.ok
 obtain⟨j,hj,hj2⟩:=key;rw[hj];exact⟨j,rfl,hj2⟩
def Aor (s:Bs):Int:=bif (LQ s).2 != 0 then(LQ s).2 else Akb (LQ s).1
theorem Arv (hpu:H=[]) :
 Gives (Aor s) (B,C,D,G,AtU (LQ s).1,I,J,K,L,O,Q,R,S,T,U,V,W,X,Y) (PI N s (B,C,D,G,H,I,J,K,L,O,Q,R,S,T,U,V,W,X,Y)):=by
 have hgl:=Vf s hs;have hll:=hgl.len;subst hpu;unfold PI Aor;try simp -zeta only[Ap]
 rw[wY _ s hN hs];cases h:(LQ s).2 != 0 with
 | true =>
  have h0:((LQ s).2==0)=false:=by simpa using h
  simp only[cond_true,h0];exact Gives.err h
 | false =>
  simp only[cond_false]
  refine Gives.A17 (Aur (mk:=fun l acc err=>(err,B,C,D,G,K,L,O,Q,R,S,T,U,V,W,X,I,J,Y,l,acc)) (Good 1048576) (fun e=>(mJ e).2) (fun e=>(mJ e).1)
   (fun acc err=>some (err,(B,C,D,G,acc,I,J,K,L,O,Q,R,S,T,U,V,W,X,Y))) ?_ ?_ (fun _ _ h=>h.tail) ?_ (N+1) (LQ s).1 [] hgl (by omega) (by simpa using hll)) ?_
  .intro e r acc hg ha k;have hid:=Acb N (e::r) hN hg;rw[Axo]at hid;refine⟨(Kq (e::r) 6).2.2,?_,fun h0=> ?_⟩
   .dsimp only[U21];simp only[left_eq,Option.isSome_some,Option.getD_some,Aix,Ep,DV,J8,cond_true,hid,Js];rw[bw (by omega)];exact AyI (Dn (by simp only[List.length_cons];omega))
   .unfold mJ at h0;unfold Kq;dsimp only;cases B:e.1 != 6 with
    | true=>rw[B]at h0;cases h0
    | false=>rfl
  .intro q acc err he k;have h0:(err==0)=false:=by simpa using he
   dsimp only[U21];simp only[left_eq,Option.isSome_some,Option.getD_some,h0,DV,EI,Ee,J8,cond_false];rfl
  .intro acc k;dsimp only[U21];simp only[left_eq,Option.isSome_some,Option.getD_some,Ep,DV,J8,cond_true];rfl
  .intro a ha;refine⟨_,rfl,fun h0=> ?_⟩;rw[ha h0];rfl
end
section
variable (N:Nat) (s:Bs) (hN:1048578<N) (hs:s.length<=1048576) (B C:Bool) (D F:Int) (G H:List Bs) (I:List (Bs×Bs)) (J K L:Int) (M:List Gn) (O:Bool) (P Q:List Gn) (R S:Bs) (T U:List Pt) (V:List Ex)
include hN hs
def As6 (s:Bs):Int:=bif (JW s).2 != 0 then(JW s).2 else bif (YP (JW s).1 1).2 != 0 then(YP (JW s).1 1).2 else
 bif (UI (JU (JW s).1 1).2.2 2).2 != 0 then(UI (JU (JW s).1 1).2.2 2).2 else Ul (JU (JU (JW s).1 1).2.2 2).2.2
theorem AwE (hpl:D= -1):Gives (As6 s) (true,(YP (JW s).1 1).1,(UI (JU (JW s).1 1).2.2 2).1,F,G,H,I,J,K,L,M,O,P,Q,R,S,T,U,V) (RP N s (B,C,D,F,G,H,I,J,K,L,M,O,P,Q,R,S,T,U,V)):=by
 subst hpl;have hg:=P6 s hs;unfold RP As6;try simp -zeta only[Ap]
 rw[Aen N s hN hs];cases h:(JW s).2 != 0 with
 | true=>simp only[cond_true,h];exact Gives.err h
 | false =>
  simp only[cond_false,DX,AuC,Js];cases h1:(YP (JW s).1 1).2 != 0 with
  | true=>exact Gives.err h1
  | false =>
   simp only[cond_false,Aab,Js];have hg1:=(Ub hg 1).1;unfold UI;cases h2:(JU (JU (JW s).1 1).2.2 2).2.1 with
   | false =>simp only[Ee,cond_true,cond_false,qC,Js,DX];exact Gives.ok
   | true =>
    simp only[Ec,cond_true,cond_false,oO N _ hN (Acf hg1 2 h2),Js];cases h3:(mG (JU (JU (JW s).1 1).2.2 2).1.2.1).2 != 0 with
    | true=>exact Gives.err h3
    | false=>simp only[cond_false,qC,Js];exact Gives.ok
theorem Awb (c:Bool):Gives (As6 s) (true,(YP (JW s).1 1).1,(UI (JU (JW s).1 1).2.2 2).1,F,G,H,I,J,K,L,M,O,P,Q,R,S,T,U,V)
 (Kr N (B,C,D,F,G,H,I,J,K,L,M,O,P,Q,R,S,T,U,V) ([50,46,53,46,50,57,46,49,57],c,s)):=by
 have hg:=P6 s hs;have hl:=hg.len;unfold Kr As6;try simp -zeta only[Ap]
 simp (decide:=true) only[cond_true,cond_false,iQ N s hN hs,Js];cases h:(JW s).2 != 0 with
 | true=>simp only[cond_true];exact Gives.err h
 | false =>
  simp only[cond_false];obtain⟨y,hy,ha⟩:=Aw4 N (JW s).1 (JW s).1 ((JW s).1,0) ⟨0,rfl,DF _,rfl⟩ (by omega) 1;rw[hy,Js];dsimp only;cases h1:(YP (JW s).1 1).2 != 0 with
  | true=>exact Gives.err h1
  | false =>
   obtain⟨z,hz,hz2⟩:=Ait N (JW s).1 (JU (JW s).1 1).2.2 y hN ha (by omega) (Ub hg 1).1 2;simp only[cond_false,hz,Js];cases h3:(UI (JU (JW s).1 1).2.2 2).2 != 0 with
   | true=>exact Gives.err h3
   | false=>simp only[cond_false,rend_eq hz2,Js];exact Gives.ok
def cU (s:Bs):Bs:=(KD s 3).1.2.1
def Au4 (s:Bs):Int:=bif (KD s 3).2 != 0 then(KD s 3).2 else bif (flP (cU s)).2 != 0 then(flP (cU s)).2 else bif (flP (cU s)).1==0 then 7 else 0
theorem Ayh:Gives (Au4 s) (B,C,D,(flP (cU s)).1,G,H,I,J,K,L,M,O,P,Q,R,S,T,U,V) (RS N s (B,C,D,F,G,H,I,J,K,L,M,O,P,Q,R,S,T,U,V)):=by
 have hl:=Nr s 3;unfold RS Au4 cU;try simp -zeta only[Ap]
 rw[XK N s 3 hN hs,Js];cases h:(KD s 3).2 != 0 with
 | true=>simp only[cond_true];exact Gives.err h
 | false =>
  simp only[cond_false,Adi N _ hN (show(KD s 3).1.2.1.length<=1048576 by omega),Js];cases h1:(flP (KD s 3).1.2.1).2 != 0 with
  | true=>exact Gives.err h1
  | false=>cases h2:(flP (KD s 3).1.2.1).1==0 with
   | true=>exact Gives.err rfl
   | false=>exact Gives.ok
theorem Awj (c:Bool):Gives (Au4 s) (B,C,D,(flP (cU s)).1,G,H,I,J,K,L,M,O,P,Q,R,S,T,U,V) (Kr N (B,C,D,F,G,H,I,J,K,L,M,O,P,Q,R,S,T,U,V) ([50,46,53,46,50,57,46,49,53],c,s)):=by
 have hl:=Nr s 3;unfold Kr Au4 cU;try simp -zeta only[Ap]
 simp (decide:=true) only[cond_true,cond_false,ZC N s 3 hN hs,Js];cases h:(KD s 3).2 != 0 with
 | true=>simp only[cond_true];exact Gives.err h
 | false =>
  unfold Yc;simp only[cond_false,AaY N _ hN (show(KD s 3).1.2.1.length<=1048576 by omega),Js];cases h1:(flP (KD s 3).1.2.1).2 != 0 with
  | true=>exact Gives.err h1
  | false=>cases h2:(flP (KD s 3).1.2.1).1==0 with
   | true=>exact Gives.err rfl
   | false=>exact Gives.ok
def Atp (s:Bs):Int:=bif (KD s 2).2 != 0 then(KD s 2).2 else(mG (KD s 2).1.2.1).2
theorem Atq:Gives (Atp s) (B,C,D,F,G,H,I,J,K,(mG (KD s 2).1.2.1).1,M,O,P,Q,R,S,T,U,V) (Qm N s (B,C,D,F,G,H,I,J,K,L,M,O,P,Q,R,S,T,U,V)):=by
 have hl:=Nr s 2;unfold Qm Atp;try simp -zeta only[Ap]
 rw[XK N s 2 hN hs,Js];cases h:(KD s 2).2 != 0 with
 | true=>simp only[cond_true];exact Gives.err h
 | false =>simp only[cond_false,oO N _ hN (show(KD s 2).1.2.1.length<=1048576 by omega),Js];exact Gives.ok
theorem Ar1 (c:Bool):Gives (Atp s) (B,C,D,F,G,H,I,J,K,(mG (KD s 2).1.2.1).1,M,O,P,Q,R,S,T,U,V) (Kr N (B,C,D,F,G,H,I,J,K,L,M,O,P,Q,R,S,T,U,V) ([50,46,53,46,50,57,46,53,52],c,s)):=by
 have hl:=Nr s 2;unfold Kr Atp;try simp -zeta only[Ap]
 simp (decide:=true) only[cond_true,cond_false,ZC N s 2 hN hs,Js];cases h:(KD s 2).2 != 0 with
 | true=>simp only[cond_true];exact Gives.err h
 | false =>simp only[cond_false,Aq7 N _ hN (show(KD s 2).1.2.1.length<=1048576 by omega),Js];exact Gives.ok
def Aos (s:Bs):Int:=bif (KD s 4).2 != 0 then(KD s 4).2 else bif (KD s 4).1.2.1==[]then 7 else 0
theorem Auv:Gives (Aos s) (B,C,D,F,G,H,I,J,K,L,M,O,P,Q,(KD s 4).1.2.1,S,T,U,V) (Qn N s (B,C,D,F,G,H,I,J,K,L,M,O,P,Q,R,S,T,U,V)):=by
 unfold Qn U0 Aos;try simp -zeta only[Ap]
 rw[XK N s 4 hN hs,Js];cases h:(KD s 4).2 != 0 with
 | true=>simp only[cond_true];exact Gives.err h
 | false =>
  simp only[cond_false];cases h1:(KD s 4).1.2.1==[]with
  | true=>exact Gives.err rfl
  | false=>exact Gives.ok
theorem Ar2 (c:Bool):Gives (Aos s) (B,C,D,F,G,H,I,J,K,L,M,O,P,Q,(KD s 4).1.2.1,S,T,U,V) (Kr N (B,C,D,F,G,H,I,J,K,L,M,O,P,Q,R,S,T,U,V) ([50,46,53,46,50,57,46,49,52],c,s)):=by
 unfold Kr Aos;try simp -zeta only[Ap]
 simp (decide:=true) only[cond_true,cond_false,ZC N s 4 hN hs,Js];cases h:(KD s 4).2 != 0 with
 | true=>simp only[cond_true];exact Gives.err h
 | false =>
  simp only[cond_false];cases h1:(KD s 4).1.2.1==[]with
  | true=>exact Gives.err rfl
  | false=>exact Gives.ok
def As3 (s:Bs):Int:=bif (JW s).2 != 0 then(JW s).2 else bif (Kq (JW s).1 128).2.1 != 0 then(Kq (JW s).1 128).2.1 else bif (Kq (JW s).1 128).1.2.1==[]then 7 else Ul (Kq (JW s).1 128).2.2
theorem AoF:Gives (As3 s) (B,C,D,F,G,H,I,J,K,L,M,O,P,Q,R,(Kq (JW s).1 128).1.2.1,T,U,V) (OT N s (B,C,D,F,G,H,I,J,K,L,M,O,P,Q,R,S,T,U,V)):=by
 unfold OT U0 As3;try simp -zeta only[Ap]
 rw[Aen N s hN hs];cases h:(JW s).2 != 0 with
 | true=>simp only[cond_true,h];exact Gives.err h
 | false =>
  simp only[cond_false,DX,AkH,Js];cases h1:(Kq (JW s).1 128).2.1 != 0 with
  | true=>exact Gives.err h1
  | false =>
   simp only[cond_false];cases h2:(Kq (JW s).1 128).1.2.1==[]with
   | true=>exact Gives.err rfl
   | false=>simp only[cond_false,Js,DX,qC];exact Gives.ok
theorem An3 (c:Bool):Gives (As3 s) (B,C,D,F,G,H,I,J,K,L,M,O,P,Q,R,(Kq (JW s).1 128).1.2.1,T,U,V) (Kr N (B,C,D,F,G,H,I,J,K,L,M,O,P,Q,R,S,T,U,V) ([50,46,53,46,50,57,46,51,53],c,s)):=by
 have hl:=(P6 s hs).len;unfold Kr X4 As3;try simp -zeta only[Ap]
 simp (decide:=true) only[cond_true,cond_false,iQ N s hN hs,Js];cases h:(JW s).2 != 0 with
 | true=>simp only[cond_true,Js];exact Gives.err h
 | false =>
  obtain⟨y,hy,ha⟩:=Ao4 N (JW s).1 (JW s).1 ((JW s).1,0) ⟨0,rfl,DF _,rfl⟩ (by omega) 128 (by omega);simp only[cond_false,hy,Js];cases h1:(Kq (JW s).1 128).2.1 != 0 with
  | true=>exact Gives.err h1
  | false =>
   simp only[cond_false];cases h2:(Kq (JW s).1 128).1.2.1==[]with
   | true=>exact Gives.err rfl
   | false=>simp only[cond_false,rend_eq ha,Js];exact Gives.ok
def Aty (s:Bs):Int:=bif (LQ s).2 != 0 then(LQ s).2 else bif (UI (LQ s).1 128).2 != 0 then(UI (LQ s).1 128).2 else
 bif (UI (JU (LQ s).1 128).2.2 129).2 != 0 then(UI (JU (LQ s).1 128).2.2 129).2 else Ul (JU (JU (LQ s).1 128).2.2 129).2.2
theorem AvE (hre:J= -1) (him:K= -1):Gives (Aty s) (B,C,D,F,G,H,I,(UI (LQ s).1 128).1,(UI (JU (LQ s).1 128).2.2 129).1,L,M,O,P,Q,R,S,T,U,V) (QQ N s (B,C,D,F,G,H,I,J,K,L,M,O,P,Q,R,S,T,U,V)):=by
 subst hre;subst him;have hg:=Vf s hs;have hg1:=(Ub hg 128).1;unfold QQ Aty;try simp -zeta only[Ap]
 rw[wY N s hN hs];cases h:(LQ s).2 != 0 with
 | true=>simp only[cond_true,h];exact Gives.err h
 | false =>
  simp only[cond_false,DX,Aab,Js,qC];have num1:=fun h2=>oO N _ hN (Acf hg 128 h2);have num2:=fun h2=>oO N _ hN (Acf hg1 129 h2);unfold UI;cases h1:(JU (LQ s).1 128).2.1 with
  | false =>
   simp only[Ee,cond_true,cond_false,DX];cases h2:(JU (JU (LQ s).1 128).2.2 129).2.1 with
   | false=>simp only[Ee,cond_true,cond_false,DX];exact Gives.ok
   | true =>
    simp only[Ec,cond_true,cond_false,num2 h2,Js];cases h3:(mG (JU (JU (LQ s).1 128).2.2 129).1.2.1).2 != 0 with
    | true=>exact Gives.err h3
    | false=>exact Gives.ok
  | true =>
   simp only[Ec,cond_true,cond_false,num1 h1,Js];cases h4:(mG (JU (LQ s).1 128).1.2.1).2 != 0 with
   | true=>exact Gives.err h4
   | false =>
    simp only[cond_false];cases h2:(JU (JU (LQ s).1 128).2.2 129).2.1 with
    | false=>simp only[Ee,cond_true,cond_false,DX];exact Gives.ok
    | true =>
     simp only[Ec,cond_true,cond_false,num2 h2,Js];cases h3:(mG (JU (JU (LQ s).1 128).2.2 129).1.2.1).2 != 0 with
     | true=>exact Gives.err h3
     | false=>exact Gives.ok
theorem Auf (c:Bool):Gives (Aty s) (B,C,D,F,G,H,I,(UI (LQ s).1 128).1,(UI (JU (LQ s).1 128).2.2 129).1,L,M,O,P,Q,R,S,T,U,V) (Kr N (B,C,D,F,G,H,I,J,K,L,M,O,P,Q,R,S,T,U,V) ([50,46,53,46,50,57,46,51,54],c,s)):=by
 have hg0:=P6 s hs;have hl:=hg0.len;have hg:=Vf s hs;unfold Kr Aty;try simp -zeta only[Ap]
 simp (decide:=true) only[cond_true,cond_false,iQ N s hN hs,Js,len0];have hn:LQ s=bif (JW s).2 != 0 then([],(JW s).2)else bif (JW s).1.isEmpty then([],7)else((JW s).1,0):=rfl;cases h:(JW s).2 != 0 with
 | true=>rw[h]at hn;rw[hn];simp only[cond_true,h];exact Gives.err h
 | false =>
  rw[h]at hn;simp only[cond_false]at hn ⊢;cases h1:(JW s).1.isEmpty with
  | true=>rw[h1]at hn;rw[hn];exact Gives.err rfl
  | false =>
   rw[h1]at hn;rw[hn];simp only[cond_false,DX];obtain⟨y,hy,ha⟩:=Ait N (JW s).1 (JW s).1 ((JW s).1,0) hN ⟨0,rfl,DF _,rfl⟩ (by omega) hg0 128;obtain⟨z,hz,hz2⟩:=Ait N (JW s).1 (JU (JW s).1 128).2.2 y hN ha (by omega) (Ub hg0 128).1 129;simp only[hy,Js];cases h2:(UI (JW s).1 128).2 != 0 with
   | true=>exact Gives.err h2
   | false =>
    simp only[cond_false,hz,Js];cases h3:(UI (JU (JW s).1 128).2.2 129).2 != 0 with
    | true=>exact Gives.err h3
    | false=>simp only[cond_false,rend_eq hz2,Js];exact Gives.ok
theorem Aq0 (c:Bool):Gives (Aor s) (B,C,D,F,AtU (LQ s).1,H,I,J,K,L,M,O,P,Q,R,S,T,U,V) (Kr N (B,C,D,F,G,H,I,J,K,L,M,O,P,Q,R,S,T,U,V) ([50,46,53,46,50,57,46,51,55],c,s)):=by
 have hg0:=P6 s hs;unfold Kr Aor;try simp -zeta only[Ap]
 simp (decide:=true) only[cond_true,cond_false,iQ N s hN hs,Js,len0];have hn:LQ s=bif (JW s).2 != 0 then([],(JW s).2)else bif (JW s).1.isEmpty then([],7)else((JW s).1,0):=rfl;cases h:(JW s).2 != 0 with
 | true=>rw[h]at hn;rw[hn];simp only[cond_true,h];exact Gives.err h
 | false =>
  rw[h]at hn;simp only[cond_false]at hn ⊢;cases h1:(JW s).1.isEmpty with
  | true=>rw[h1]at hn;rw[hn];exact Gives.err rfl
  | false =>
   rw[h1]at hn;rw[hn];simp only[cond_false,DX,Als N _ hN hg0,Js];cases h2:Akb (JW s).1 != 0 with
   | true=>exact Gives.err h2
   | false =>
    have h3:Akb (JW s).1=0:=by simpa using h2
    rw[h3];exact Gives.ok
end
def Aqx (N:Nat) (e:El) (hN:1048578<N) (he:YQ 1048576 e):MH N e 48=some (((elL e).1,0),(elL e).2):=by
 have:=he.content;unfold MH elL;cases e.1 != 48 with
 | true=>rfl
 | false=>rw[cond_false,cond_false,QL N _ (by omega) (by omega) (by omega),Js]
def AiK (N:Nat) (es l:List El) (x:List El×Int) (hN:1048578<N) (hx:At es l x) (hl:es.length<=1099511627776) (hg:Good 1048576 l) :
 ∃ y,At es (Kq l 6).2.2 y/\KT N x 6=some ((Kq l 6).1,(Kq l 6).2.1,y)/\(((Kq l 6).2.1 != 0)=false->Pg N (Kq l 6).1.2.1=some (OU (TZ (Kq l 6).1.2.1))):=by
 obtain⟨y,h1,h2⟩:=Ao4 N es l x hx hl 6 (by omega);refine⟨y,h2,h1,fun h=> ?_⟩;have h0:(Kq l 6).2.1=0:=by simpa using h
 have:=((xE hg 6).2 h0).content;exact Xv N _ (by omega) (by omega) (by omega)
def A00 (N:Nat) (s:Bs) (hN:1048578<N) (hs:s.length<=1048576):VH N s 1=some (bif NF N9 s != 0 then([],NF N9 s)else((QG N9 s).map (fun x=>[x]),0)):=by
 obtain⟨M,rfl⟩: ∃ M,N=M+4:=⟨N - 4,by omega⟩
 have hg0:=P6 s hs;have hl:=hg0.len;unfold VH NF QG;try simp -zeta only[Ap]
 simp only[iQ _ s hN hs,Js,len0];have hn:LQ s=bif (JW s).2 != 0 then([],(JW s).2)else bif (JW s).1.isEmpty then([],7)else((JW s).1,0):=rfl;cases h:(JW s).2 != 0 with
 | true=>rw[h]at hn;rw[hn];simp only[cond_true,h]
 | false =>
  rw[h]at hn;simp only[cond_false]at hn ⊢;cases h1:(JW s).1.isEmpty with
  | true=>rw[h1]at hn;rw[hn];rfl
  | false =>
   rw[h1]at hn;rw[hn];simp only[cond_false,DX];refine(PT (mk:=fun i acc=>((i:Int),acc)) (JW s).1 (0,[],[]) (fun e=>(N9 e).2) (fun e=>[(N9 e).1]) (fun e=>some ([],e)) (fun acc=>some (acc,0)) ?_ ?_ _ (by omega)).trans ?_
   .intro i acc hi ha k;have he:=hg0.all _ (getD_mem ((0,[],[]):El) hi);have ho:=Aqx (M+4) _ hN he;have hge:=Xh he (DK _);dsimp only[U2];simp (disch:=omega) only[J4,ho];unfold N9;generalize (JW s).1.getD i (0,[],[])=e at *
    cases h2:(elL e).2 != 0 with
    | true=>simp only[cond_true,h2]
    | false =>
     simp only[cond_false];rw[OA];dsimp only[U5];rw[show decide ((0:Int)<1)=true from rfl,cond_true];obtain⟨y,hy,h3,h4⟩:=AiK (M+4) (elL e).1 (elL e).1 ((elL e).1,0) hN ⟨0,rfl,DF _,rfl⟩ (by have:=hge.len;omega) hge;have hi:idD (elL e).1=bif (Kq (elL e).1 6).2.1 != 0 then([],(Kq (elL e).1 6).2.1)else OU (TZ (Kq (elL e).1 6).1.2.1):=rfl;rw[h3,Js];dsimp only;cases h5:(Kq (elL e).1 6).2.1 != 0 with
     | true=>rw[h5]at hi;rw[hi];simp only[cond_true,h5]
     | false =>
      rw[h5]at hi;simp only[cond_false]at hi ⊢;rw[h4 h5,Js,<- hi];cases h6:(idD (elL e).1).2 != 0 with
      | true=>simp only[cond_true,h6]
      | false =>
       simp only[cond_false,List.nil_append];rw[bw (by decide),OA];dsimp only[U5];rw[show decide (i64.wrap (0+1)<(1:Int))=false from rfl,cond_false];dsimp only[U4];rw[rend_eq hy,Js];dsimp only;cases h7:Ul (Kq (elL e).1 6).2.2 != 0 with
       | true=>rfl
       | false=>simp only[cond_false];rw[bw (by omega)];rfl
   .intro acc k ha;dsimp only[U2];simp (disch:=omega) only[J4]
   .rw[JD,Fp];rfl
def A01 (N:Nat) (s:Bs) (hN:1048578<N) (hs:s.length<=1048576):VH N s 2=some (bif NF NY s != 0 then([],NF NY s)else((QG NY s).map (fun x=>[x.1,x.2]),0)):=by
 obtain⟨M,rfl⟩: ∃ M,N=M+4:=⟨N - 4,by omega⟩
 have hg0:=P6 s hs;have hl:=hg0.len;unfold VH NF QG;try simp -zeta only[Ap]
 simp only[iQ _ s hN hs,Js,len0];have hn:LQ s=bif (JW s).2 != 0 then([],(JW s).2)else bif (JW s).1.isEmpty then([],7)else((JW s).1,0):=rfl;cases h:(JW s).2 != 0 with
 | true=>rw[h]at hn;rw[hn];simp only[cond_true,h]
 | false =>
  rw[h]at hn;simp only[cond_false]at hn ⊢;cases h1:(JW s).1.isEmpty with
  | true=>rw[h1]at hn;rw[hn];rfl
  | false =>
   rw[h1]at hn;rw[hn];simp only[cond_false,DX];refine(PT (mk:=fun i acc=>((i:Int),acc)) (JW s).1 (0,[],[]) (fun e=>(NY e).2) (fun e=>[(NY e).1.1,(NY e).1.2]) (fun e=>some ([],e)) (fun acc=>some (acc,0)) ?_ ?_ _ (by omega)).trans ?_
   .intro i acc hi ha k;have he:=hg0.all _ (getD_mem ((0,[],[]):El) hi);have ho:=Aqx (M+4) _ hN he;have hge:=Xh he (DK _);dsimp only[U2];simp (disch:=omega) only[J4,ho];unfold NY;generalize (JW s).1.getD i (0,[],[])=e at *
    cases h2:(elL e).2 != 0 with
    | true=>simp only[cond_true,h2]
    | false =>
     simp only[cond_false];rw[OA];dsimp only[U5];rw[show decide ((0:Int)<2)=true from rfl,cond_true];obtain⟨y,hy,h3,h4⟩:=AiK (M+4) (elL e).1 (elL e).1 ((elL e).1,0) hN ⟨0,rfl,DF _,rfl⟩ (by have:=hge.len;omega) hge;have hi:idD (elL e).1=bif (Kq (elL e).1 6).2.1 != 0 then([],(Kq (elL e).1 6).2.1)else OU (TZ (Kq (elL e).1 6).1.2.1):=rfl;rw[h3,Js];dsimp only;cases h5:(Kq (elL e).1 6).2.1 != 0 with
     | true=>rw[h5]at hi;rw[hi];simp only[cond_true,h5]
     | false =>
      rw[h5]at hi;simp only[cond_false]at hi ⊢;rw[h4 h5,Js,<- hi];cases h6:(idD (elL e).1).2 != 0 with
      | true=>simp only[cond_true,h6]
      | false =>
       simp only[cond_false,List.nil_append];obtain⟨z,hz,h6',h7'⟩:=AiK (M+4) (elL e).1 (Kq (elL e).1 6).2.2 y hN hy (by have:=hge.len;omega) (xE hge 6).1;have hj:idD (Kq (elL e).1 6).2.2=bif (Kq (Kq (elL e).1 6).2.2 6).2.1 != 0 then([],(Kq (Kq (elL e).1 6).2.2 6).2.1)else OU (TZ (Kq (Kq (elL e).1 6).2.2 6).1.2.1):=rfl;rw[bw (by decide),OA];dsimp only[U5];rw[show decide (i64.wrap (0+1)<(2:Int))=true from rfl,cond_true,h6',Js];dsimp only;cases h8:(Kq (Kq (elL e).1 6).2.2 6).2.1 != 0 with
       | true=>rw[h8]at hj;rw[hj];simp only[cond_true,h8]
       | false =>
        rw[h8]at hj;simp only[cond_false]at hj ⊢;rw[h7' h8,Js,<- hj];cases h9:(idD (Kq (elL e).1 6).2.2).2 != 0 with
        | true=>simp only[cond_true,h9]
        | false =>
         simp only[cond_false,List.cons_append,List.nil_append];rw[bw (by simp),OA];dsimp only[U5];rw[show decide (i64.wrap (i64.wrap (0+1)+1)<(2:Int))=false from rfl,cond_false];dsimp only[U4];rw[rend_eq hz,Js];dsimp only;cases h7:Ul (Kq (Kq (elL e).1 6).2.2 6).2.2 != 0 with
         | true=>rfl
         | false=>simp only[cond_false];rw[bw (by omega)];rfl
   .intro acc k ha;dsimp only[U2];simp (disch:=omega) only[J4]
   .rw[JD,Fp];rfl
section
variable (N:Nat) (s:Bs) (hN:1048578<N) (hs:s.length<=1048576) (B C:Bool) (D F:Int) (G H:List Bs) (I:List (Bs×Bs)) (J K L:Int) (O:List Gn) (P:Bool) (Q R:List Gn) (S T:Bs) (U W:List Pt) (X:List Ex)
include hN hs
theorem Aqz (hpo:H=[]) (c:Bool) :
 Gives (NF N9 s) (B,C,D,F,G,QG N9 s,I,J,K,L,O,P,Q,R,S,T,U,W,X) (Kr N (B,C,D,F,G,H,I,J,K,L,O,P,Q,R,S,T,U,W,X) ([50,46,53,46,50,57,46,51,50],c,s)):=by
 subst hpo;have hl:=(Vf s hs).len;unfold Kr;try simp -zeta only[Ap]
 simp (decide:=true) only[cond_true,cond_false,A00 N s hN hs,Js]
 obtain⟨V,h0,h1,h2⟩: ∃ V:List Bs,V.length<=1048576/\(bif NF N9 s != 0 then([],NF N9 s)else((QG N9 s).map (fun x=>[x]),0))=(V.map (fun x=>[x]),NF N9 s)/\(NF N9 s=0->V=QG N9 s):=by
  by_cases h:NF N9 s=0
  .exact⟨QG N9 s,by rw[show(QG N9 s).length=(LQ s).1.length from D7 _];exact hl,by rw[h];rfl,fun _=>rfl⟩
  .exact⟨[],DF _,by rw[show(NF N9 s != 0)=true from EO.2 h];rfl,fun h'=>absurd h' h⟩
 rw[h1];dsimp only;refine⟨_,Aik (mk:=fun i acc=>((i:Int),B,C,D,F,G,J,K,L,O,P,Q,R,S,T,U,W,I,X,acc)) V ([]:Bs) id (fun acc=>some (NF N9 s,(B,C,D,F,G,acc,I,J,K,L,O,P,Q,R,S,T,U,W,X))) ?_ ?_ N (by omega),fun h=> ?_⟩
 .intro i acc hi ha k;have hm:=ApI (fun x=>[x]) V ([]:Bs) ([]:List Bs) hi;dsimp only[U20];simp (disch:=omega) only[J4,D7,hm];rfl
 .intro acc k ha;dsimp only[U20];simp (disch:=omega) only[J4,D7];rfl
 .rw[FW,h2 h]
theorem Aqw (hma:I=[]) (c:Bool) :
 Gives (NF NY s) (B,C,D,F,G,H,QG NY s,J,K,L,O,P,Q,R,S,T,U,W,X) (Kr N (B,C,D,F,G,H,I,J,K,L,O,P,Q,R,S,T,U,W,X) ([50,46,53,46,50,57,46,51,51],c,s)):=by
 subst hma;have hl:=(Vf s hs).len;unfold Kr;try simp -zeta only[Ap]
 simp (decide:=true) only[cond_true,cond_false,A01 N s hN hs,Js]
 obtain⟨V,h0,h1,h2⟩: ∃ V:List (Bs×Bs),V.length<=1048576/\(bif NF NY s != 0 then([],NF NY s)else((QG NY s).map (fun x=>[x.1,x.2]),0))=(V.map (fun x=>[x.1,x.2]),NF NY s)/\(NF NY s=0->V=QG NY s):=by
  by_cases h:NF NY s=0
  .exact⟨QG NY s,by rw[show(QG NY s).length=(LQ s).1.length from D7 _];exact hl,by rw[h];rfl,fun _=>rfl⟩
  .exact⟨[],DF _,by rw[show(NF NY s != 0)=true from EO.2 h];rfl,fun h'=>absurd h' h⟩
 rw[h1];dsimp only;refine⟨_,Aik (mk:=fun i acc=>((i:Int),B,C,D,F,G,J,K,L,O,P,Q,R,S,T,U,W,H,X,acc)) V (([],[]):Bs×Bs) id (fun acc=>some (NF NY s,(B,C,D,F,G,H,acc,J,K,L,O,P,Q,R,S,T,U,W,X))) ?_ ?_ N (by omega),fun h=> ?_⟩
 .intro i acc hi ha k;have hm:=ApI (fun x=>[x.1,x.2]) V (([],[]):Bs×Bs) ([]:List Bs) hi;dsimp only[U20];simp (disch:=omega) only[J4,D7,hm];rfl
 .intro acc k ha;dsimp only[U20];simp (disch:=omega) only[J4,D7];rfl
 .rw[FW,h2 h]
end
def zA:Att:=([],0,[])
def Uy (e:El):Att×Int :=
 bif e.1 != 48 then(zA,5)else bif (JG e.2.1).2 != 0 then(zA,(JG e.2.1).2)else
 match (JG e.2.1).1 with
 | []=>(zA,3)
 | a::l=>bif a.1 != 6 then(zA,5)else bif (OU (TZ a.2.1)).2 != 0 then(zA,(OU (TZ a.2.1)).2)else
  match l with
  | []=>(zA,3)
  | b::m=>bif b.1 != 12&&b.1 != 19&&b.1 != 22 then(zA,5)else
   match m with
   | []=>(((OU (TZ a.2.1)).1,b.1,b.2.1),0)
   | _::_=>(zA,4)
def AyL (N:Nat) (e:El) (hN:1048578<N) (he:e.2.1.length<=1048576):Q7 N e=some (Uy e):=by
 unfold Q7;try simp only[clR]
 rw[NP N e.2.1 (by omega) (by omega) (by omega)];unfold Uy;have hg:Good 1048576 (JG e.2.1).1:=(KC e.2.1).mono he;generalize JG e.2.1=r at hg ⊢;obtain⟨l,er⟩:=r;rw[<- JD];refine Ku fun h0=> ?_;rw[Js,<- JD];refine Ku fun h1=> ?_
 match l,hg with
 | [],_=>rfl
 | [a],hg =>have ha:=(hg.all a (by simp)).content;have hlen: [a].length=1:=rfl;simp (disch:=omega) only[J4,hlen,Eb];rw[YY N _ (by omega) (by omega) (by omega)];simp (disch:=omega) only[J4,hlen,Eb];simp only[bne];cases a.1==6<;>cases (OU (TZ a.2.1)).2==0<;>rfl
 | [a,b],hg =>have ha:=(hg.all a (by simp)).content;have hlen: [a,b].length=2:=rfl;simp (disch:=omega) only[J4,hlen,Eb,FI];rw[YY N _ (by omega) (by omega) (by omega)];simp (disch:=omega) only[J4,hlen];simp only[bne];cases a.1==6<;>cases (OU (TZ a.2.1)).2==0<;>cases b.1==12<;>cases b.1==19<;>cases b.1==22<;>rfl
 | a::b::c::m,hg =>have ha:=(hg.all a (by simp)).content;have hlen:(a::b::c::m).length=m.length+3:=rfl;simp (disch:=omega) only[J4,hlen,Eb,FI];rw[YY N _ (by omega) (by omega) (by omega)];simp (disch:=omega) only[J4,hlen];simp only[bne];cases a.1==6<;>cases (OU (TZ a.2.1)).2==0<;>cases b.1==12<;>cases b.1==19<;>cases b.1==22<;>rfl
def Acy (e:El) (t:Int):(List El×Int)×Int:=bif e.1 != t then(([],0),5)else(((JG e.2.1).1,0),(JG e.2.1).2)
def qM (N:Nat) (e:El) (t:Int) (hN:1048578<N) (he:e.2.1.length<=1048576):MH N e t=some (Acy e t):=by
 unfold MH Acy;try simp only[clR]
 rw[QL N e.2.1 (by omega) (by omega) (by omega),Js,JD]
def ArF (N:Nat) (es:List El) (i t:Int) (h0:0<=i) (h1:i<es.length) (hl:es.length<=1048576):KT N (es,i) t=bif (decide (t>=0)&&(es.getD i.toNat (0,[],[])).1 != t)then some ((0,[],[]),5,es,i)else some (es.getD i.toNat (0,[],[]),0,es,i+1):=by
 unfold KT;try simp -zeta only[Ap]
 simp (disch:=omega) only[J4]
def Ao3 (N:Nat) (es:List El) (i t:Int) (h1:(es.length:Int)<=i):KT N (es,i) t=some ((0,[],[]),3,es,i):=by
 unfold KT;try simp -zeta only[Ap]
 simp (disch:=omega) only[J4]
def AzH (N:Nat) (es:List El) (i:Int) (h1:i<es.length):Kz N (es,i)=some (4,es,i):=by unfold Kz;simp (disch:=omega) only[J4]
def Ay9 (N:Nat) (es:List El) (i:Int) (h1:(es.length:Int)<=i):Kz N (es,i)=some (0,es,i):=by unfold Kz;simp (disch:=omega) only[J4]
def Azs (N:Nat) (e:El) (hN:1048578<N) (he:e.2.1.length<=1048576):WS N e=some (Uy e):=by
 unfold WS;try simp only[clR]
 rw[qM N e 48 hN he];unfold Uy Acy;have hg:Good 1048576 (JG e.2.1).1:=(KC e.2.1).mono he;generalize JG e.2.1=r at hg ⊢;obtain⟨l,er⟩:=r;rw[Js];cases h0:e.1 != 48 with
 | true=>rfl
 | false =>
  dsimp only[cond_false];cases h1:er != 0 with
  | true=>rfl
  | false =>
   rw[cond_false,cond_false];have hlen:l.length<=1048576:=hg.len
   match l,hg with
   | [],_=>rw[Ao3 N [] 0 6 (by simp)];rfl
   | a::l,hg =>
    have ha:=(hg.all a (by simp)).content;rw[ArF N (a::l) 0 6 (by omega) (by simp only[List.length_cons];omega) hlen];show Jq (bif a.1 != 6 then some ((0,[],[]),5,a::l,0)else some (a,0,a::l,1)) _=_;dsimp only;cases h2:a.1 != 6 with
    | true=>rfl
    | false =>
     rw[cond_false,cond_false,Js];dsimp only;rw[show((0:Int) != 0)=false from rfl,cond_false,Xv N _ (by omega) (by omega) (by omega),Js];cases h3:(OU (TZ a.2.1)).2 != 0 with
     | true=>rfl
     | false =>
      rw[cond_false,cond_false]
      match l,hg with
      | [],_ =>rw[Ao3 N [a] 1 (-1) (by simp)];rfl
      | b::m,hg =>
       have hb:=(hg.all b (by simp)).content;rw[ArF N (a::b::m) 1 (-1) (by omega) (by simp only[List.length_cons];omega) hlen];show Jq (some (b,(0:Int),a::b::m,(2:Int))) _=_;rw[Js];dsimp only;rw[show((0:Int) != 0)=false from rfl,cond_false];cases h4:b.1 != 12&&b.1 != 19&&b.1 != 22 with
       | true=>rfl
       | false =>
        match m with
        | []=>rw[Ay9 N [a,b] 2 (by simp)];rfl
        | c::m=>rw[AzH N (a::b::c::m) 2 (by simp only[List.length_cons];omega)];rfl
def Ags (l:List El):Bool:=(List.range (l.length - 1)).any fun i=>bytesLess (l.getD (i+1) (0,[],[])).2.2 (l.getD i (0,[],[])).2.2
def Au9 (N:Nat) (l:List El) (hN:1048578<N) (hl:l.length<=1048576):Wh N l=some (!Ags l):=by
 unfold Wh Ags;try simp only[clR]
 refine(Rz (fun i=>((i+1:Nat):Int)) (List.range (l.length - 1)) 0 (fun i=>bytesLess (l.getD (i+1) (0,[],[])).2.2 (l.getD i (0,[],[])).2.2) (some false) (some true) ?_ ?_ N (by rw[Ef];omega)).trans ?_
 .intro i hi k;rw[Ef]at hi;rw[Ai0 hi];simp (disch:=omega) only[J4];rfl
 .intro k;rw[Ef];simp (disch:=omega) only[J4]
 .cases List.any _ _<;>rfl
def Azr (N:Nat) (l:List El) (hN:1048578<N) (hl:l.length<=1048576):WO N l=some (!Ags l):=(show WO N l=Wh N l from rfl).trans (Au9 N l hN hl)
def VI (e:El):List Att×Int :=
 bif e.1 != 49 then([],5)else bif (JG e.2.1).2 != 0 then([],(JG e.2.1).2)else bif Ags (JG e.2.1).1 then([],9)else
 bif JV (fun a=>(Uy a).2) (JG e.2.1).1 != 0 then([],JV (fun a=>(Uy a).2) (JG e.2.1).1)else((JG e.2.1).1.map fun a=>(Uy a).1,0)
def AyM (N:Nat) (e:El) (hN:1048578<N) (he:e.2.1.length<=1048576):QX N e=some (VI e):=by
 unfold QX;try simp only[clR]
 rw[NP N e.2.1 (by omega) (by omega) (by omega)];unfold VI;have hg:Good 1048576 (JG e.2.1).1:=(KC e.2.1).mono he;generalize JG e.2.1=r at hg ⊢;obtain⟨l,er⟩:=r;have hlen:l.length<=1048576:=hg.len;rw[Js];dsimp only;rw[Au9 N l hN hlen];simp (disch:=omega) only[J4];simp only[<- JD];refine Ku fun _=>Ku fun _=>Ku fun _=> ?_;refine(PT (fun i acc=>((i:Int),acc)) l (0,[],[]) (fun a=>(Uy a).2) (fun a=>(Uy a).1) (fun e=>some ([],e)) (fun acc=>some (acc,0)) ?_ ?_ N (by omega)).trans ?_
 .intro i acc hi ha k;have hc:=(hg.all _ (getD_mem (0,[],[]) hi)).content;dsimp only at hc;have hE:=AyL N (l.getD i (0,[],[])) hN (by omega);simp (disch:=omega) only[J4,hE];generalize Uy (l.getD i (0,[],[]))=y;cases y.2 != 0<;>rfl
 .intro acc k ha;simp (disch:=omega) only[J4]
 .rfl
def nmD (s:Bs):List (List Att)×Int :=
 bif (KG s).2 != 0 then([],(KG s).2)else bif (KG s).1.1 != 48 then([],5)else bif (JG (KG s).1.2.1).2 != 0 then([],(JG (KG s).1.2.1).2)else
 bif JV (fun a=>(VI a).2) (JG (KG s).1.2.1).1 != 0 then([],JV (fun a=>(VI a).2) (JG (KG s).1.2.1).1)else
 bif QC ((JG (KG s).1.2.1).1.map fun a=>(VI a).1) != 0 then([],QC ((JG (KG s).1.2.1).1.map fun a=>(VI a).1))else((JG (KG s).1.2.1).1.map fun a=>(VI a).1,0)
def A0J (l:List Nat):(two l).length<=l.length+1:=by
 cases l with
 | nil=>exact DF _
 | cons n t=>show t.length+1+1<=t.length+1+1;omega
def AbQ (s:Bs):(OU (TZ s)).1.length<=1048576:=by
 cases h:TZ s with
 | none=>show 0<=_;omega
 | some a =>
  unfold TZ at h;cases hn:Oe 4294967294 s 0 false []with
  | none=>rw[hn]at h;cases h
  | some l =>
   rw[hn]at h;simp only[Option.bind_some]at h;split at h
   .cases h
   .rename_i hne;unfold upTo at h;split at h
    .rename_i hu;injection h with h;subst h;have h1:=AcW (two l) (fun x hx=>by have:=hu x hx;omega);have h2:=A0J l;show(SS (two l)).length<=_;omega
    .cases h
def As2 (e:El) (he:e.2.1.length<=1048576):YJ (Uy e).1:=by
 have hg:Good 1048576 (JG e.2.1).1:=(KC e.2.1).mono he;have hz:YJ zA:=⟨by show 0<=_;omega,by show 0<=_;omega⟩
 unfold Uy;cases e.1 != 48 with
 | true=>exact hz
 | false =>
  rw[cond_false];cases (JG e.2.1).2 != 0 with
  | true=>exact hz
  | false =>
   rw[cond_false]
   match (JG e.2.1).1,hg with
   | [],_=>exact hz
   | a::l,hg =>
    dsimp only;cases a.1 != 6 with
    | true=>exact hz
    | false =>
     rw[cond_false];cases h3:(OU (TZ a.2.1)).2 != 0 with
     | true=>exact hz
     | false =>
      rw[cond_false]
      match l,hg with
      | [],_=>exact hz
      | b::m,hg =>
       dsimp only;have hb:=(hg.all b (by simp)).content;cases b.1 != 12&&b.1 != 19&&b.1 != 22 with
       | true=>exact hz
       | false =>
        match m with
        | []=>exact⟨AbQ _,by show b.2.1.length<=_;omega⟩
        | _::_=>exact hz
def AcL (e:El) (he:e.2.1.length<=1048576): ∀ a∈(VI e).1,YJ a:=by
 have hg:Good 1048576 (JG e.2.1).1:=(KC e.2.1).mono he;unfold VI;cases e.1 != 49<;>cases (JG e.2.1).2 != 0<;>cases Ags (JG e.2.1).1<;>cases JV (fun a=>(Uy a).2) (JG e.2.1).1 != 0<;>intro a ha
 all_goals first
  | exact absurd ha (Gp)
  | (obtain⟨x,hx,rfl⟩:=DD.1 ha
     exact As2 x (by have:=(hg.all x hx).content;omega))
def Ajn (N:Nat) (s:Bs) (hN:1048578<N) (hs:s.length<=1048576):bC N s=some (nmD s):=by
 unfold bC;try simp only[clR]
 rw[eU N s (by omega) (by omega)];have hc:=Qe s;unfold nmD;generalize KG s=o at hc ⊢;rw[Js];rw[NP N o.1.2.1 (by omega) (by omega) (by omega)];have hg:Good 1048576 (JG o.1.2.1).1:=(KC o.1.2.1).mono (by omega);generalize JG o.1.2.1=r at hg ⊢;obtain⟨l,er⟩:=r;have hlen:l.length<=1048576:=hg.len;rw[Js];dsimp only;simp only[<- JD];refine Ku fun _=>Ku fun _=>Ku fun _=> ?_;refine(PT (fun i acc=>((i:Int),acc)) l (0,[],[]) (fun a=>(VI a).2) (fun a=>(VI a).1) (fun e=>some ([],e)) (fun acc=>Jq (Qc N acc) fun r60=>bif r60 != 0 then some ([],r60)else some (acc,0)) ?_ ?_ N (by omega)).trans ?_
 .intro i acc hi ha k;have hc:=(hg.all _ (getD_mem (0,[],[]) hi)).content;dsimp only at hc;have hE:=AyM N (l.getD i (0,[],[])) hN (by omega);simp (disch:=omega) only[J4,hE];generalize VI (l.getD i (0,[],[]))=y;cases y.2 != 0<;>rfl
 .intro acc k ha;simp (disch:=omega) only[J4]
 .rw[lS N _ hN (fun p hp e he=>by obtain⟨x,hx,rfl⟩:=DD.1 hp;exact AcL x (by have:=(hg.all x hx).content;omega) e he),Js]
def AmS (N:Nat) (s:Bs) (hN:1048578<N) (hs:s.length<=1048576):VC N s=some (nmD s):=by
 unfold VC;try simp only[clR]
 rw[Xx N s (by omega) (by omega)];have hc:=Qe s;unfold nmD;generalize KG s=o at hc ⊢;rw[Js,qM N o.1 48 hN (by omega)];unfold Acy;have hg:Good 1048576 (JG o.1.2.1).1:=(KC o.1.2.1).mono (by omega);generalize JG o.1.2.1=r at hg ⊢;obtain⟨l,er⟩:=r;have hlen:l.length<=1048576:=hg.len;rw[Js];dsimp only;cases o.2 != 0 with
 | true=>rfl
 | false =>
  cases o.1.1 != 48 with
  | true=>rfl
  | false =>
   dsimp only[cond_false];cases er != 0 with
   | true=>rfl
   | false =>
    dsimp only[cond_false];simp only[<- JD];refine(PT (fun i acc=>((i:Int),acc)) l (0,[],[]) (fun a=>(VI a).2) (fun a=>(VI a).1) (fun e=>some ([],e)) (fun acc=>Jq (Nz N acc) fun r60=>bif r60 != 0 then some ([],r60)else some (acc,0)) ?_ ?_ N (by omega)).trans ?_
    .intro i acc hi ha k;have hc:=(hg.all _ (getD_mem (0,[],[]) hi)).content;dsimp only at hc;have hE:=qM N (l.getD i (0,[],[])) 49 hN (by omega);simp (disch:=omega) only[J4,hE];generalize l.getD i (0,[],[])=e at hc;unfold Acy VI;cases e.1 != 49 with
     | true=>rfl
     | false =>
      have hgi:Good 1048576 (JG e.2.1).1:=(KC e.2.1).mono (by omega);generalize JG e.2.1=ri at hgi ⊢;obtain⟨li,ei⟩:=ri;have hli:li.length<=1048576:=hgi.len;dsimp only[cond_false];cases h5:ei != 0 with
      | true=>show some ([],ei)=bif ei != 0 then some ([],ei)else _;rw[h5];rfl
      | false =>
       rw[cond_false,Azr N li hN hli,Js,IZ];cases Ags li with
       | true=>rfl
       | false =>
        rw[cond_false];refine(PT (fun j a=>((j:Int),a,acc)) li (0,[],[]) (fun a=>(Uy a).2) (fun a=>(Uy a).1) (fun e=>some ([],e)) (fun a=>k (((i+1:Nat):Int),acc++[a])) ?_ ?_ N (by omega)).trans ?_
        .intro j a hj haj k2;have hc2:=(hgi.all _ (getD_mem (0,[],[]) hj)).content;dsimp only at hc2;have hE2:=Azs N (li.getD j (0,[],[])) hN (by omega);simp (disch:=omega) only[J4,hE2];generalize Uy (li.getD j (0,[],[]))=y;cases y.2 != 0<;>rfl
        .intro a k2 haj;simp (disch:=omega) only[J4];rfl
        .cases h6:JV (fun a=>(Uy a).2) li != 0 with
         | true=>show some ([],JV (fun a=>(Uy a).2) li)=bif JV (fun a=>(Uy a).2) li != 0 then some ([],JV (fun a=>(Uy a).2) li)else _;rw[h6];rfl
         | false=>rfl
    .intro acc k ha;simp (disch:=omega) only[J4]
    .rw[iV N _ hN (fun p hp e he=>by obtain⟨x,hx,rfl⟩:=DD.1 hp;exact AcL x (by have:=(hg.all x hx).content;omega) e he),Js]
def Afu (s:Bs) (hs:s.length<=1048576):OC (nmD s).1:=by
 have hc:=Qe s;have hg:Good 1048576 (JG (KG s).1.2.1).1:=(KC _).mono (by omega);unfold nmD;intro p hp;cases h1:(KG s).2 != 0 with
 | true=>rw[h1]at hp;cases hp
 | false =>
  cases h2:(KG s).1.1 != 48 with
  | true=>rw[h1,h2]at hp;cases hp
  | false =>
   cases h3:(JG (KG s).1.2.1).2 != 0 with
   | true=>rw[h1,h2,h3]at hp;cases hp
   | false =>
    cases h4:JV (fun a=>(VI a).2) (JG (KG s).1.2.1).1 != 0 with
    | true=>rw[h1,h2,h3,h4]at hp;cases hp
    | false =>
     rw[h1,h2,h3,h4]at hp;simp only[cond_false]at hp
     have hp:p∈(JG (KG s).1.2.1).1.map fun a=>(VI a).1:=by
      revert hp;cases QC ((JG (KG s).1.2.1).1.map fun a=>(VI a).1) != 0 with
      | true=>intro hp;cases hp
      | false=>intro hp;exact hp
     obtain⟨x,hx,rfl⟩:=DD.1 hp;exact AcL x (by have:=(hg.all x hx).content;omega)
def zG:Gn:=(0,[],[])
def gnC (g:Gn) (c:Bool):Gn×Int:=bif LZ g c != 0 then(zG,LZ g c)else(g,0)
def gnD (e:El) (c:Bool):Gn×Int :=
 bif e.1==129||e.1==130||e.1==135 then gnC (e.1 - 128,e.2.1,[]) c else
 bif e.1==164 then(bif (nmD e.2.1).2 != 0 then(zG,(nmD e.2.1).2)else gnC (4,[],(nmD e.2.1).1) c)else(zG,5)
def wQ (N:Nat) (e:El) (c:Bool) (hN:1048578<N) (he:e.2.1.length<=1048576):UF N e c=some (gnD e c):=by
 obtain⟨t,s,w⟩:=e;have he:s.length<=1048576:=he;have hC: ∀ k,Ro N (k,s,[]) c=some (LZ (k,s,[]) c):=fun k=>XR N _ c hN ⟨he,fun p hp=>by cases hp⟩;have hD:=Ajn N s hN he;have hC4:=XR N (4,[],(nmD s).1) c hN ⟨by show 0<=_;omega,Afu s he⟩;unfold UF;try simp only[clR]
 unfold gnD gnC;by_cases h1:t=129
 .subst h1;simp (disch:=omega) only[J4,hC,JD];rfl
 .by_cases h2:t=130
  .subst h2;simp (disch:=omega) only[J4,hC,JD];rfl
  .by_cases h3:t=135
   .subst h3;simp (disch:=omega) only[J4,hC,JD];rfl
   .by_cases h4:t=164
    .subst h4;simp (disch:=omega) only[J4,hC4,hD,JD];rfl
    .simp (disch:=omega) only[J4];rfl
def qJ (N:Nat) (e:El) (c:Bool) (hN:1048578<N) (he:e.2.1.length<=1048576):PO N e c=some (gnD e c):=by
 obtain⟨t,s,w⟩:=e;have he:s.length<=1048576:=he;have hC: ∀ k,MX N (k,s,[]) c=some (LZ (k,s,[]) c):=fun k=>Tn N _ c hN ⟨he,fun p hp=>by cases hp⟩;have hD:=AmS N s hN he;have hC4:=Tn N (4,[],(nmD s).1) c hN ⟨by show 0<=_;omega,Afu s he⟩;unfold PO;try simp only[clR]
 unfold gnD gnC;by_cases h1:t=129
 .subst h1;simp (disch:=omega) only[J4,hC,JD];rfl
 .by_cases h2:t=130
  .subst h2;simp (disch:=omega) only[J4,hC,JD];rfl
  .by_cases h3:t=135
   .subst h3;simp (disch:=omega) only[J4,hC,JD];rfl
   .by_cases h4:t=164
    .subst h4;simp (disch:=omega) only[J4,hC4,hD,JD];rfl
    .simp (disch:=omega) only[J4];rfl
def Ams (e:El) (c:Bool) (he:e.2.1.length<=1048576):We (gnD e c).1:=by
 have hz:We zG:=⟨by show 0<=_;omega,fun p hp=>by cases hp⟩
 have hC: ∀ g:Gn,We g->We (gnC g c).1:=fun g hg=>by
  unfold gnC;cases LZ g c != 0
  .exact hg
  .exact hz
 unfold gnD;cases e.1==129||e.1==130||e.1==135 with
 | true=>exact hC _ ⟨he,fun p hp=>by cases hp⟩
 | false =>
  cases e.1==164 with
  | false=>exact hz
  | true =>
   cases h:(nmD e.2.1).2 != 0 with
   | true=>exact hz
   | false=>exact hC _ ⟨by show 0<=_;omega,Afu _ he⟩
def Ou (s:Bs):List Gn×Int :=
 bif (JG s).2 != 0 then([],(JG s).2)else bif (JG s).1.isEmpty then([],7)else bif decide (16<(JG s).1.length)then([],2)else
 bif JV (fun a=>(gnD a false).2) (JG s).1 != 0 then([],JV (fun a=>(gnD a false).2) (JG s).1)else((JG s).1.map fun a=>(gnD a false).1,0)
theorem WB (N:Nat) (s:Bs) (hN:1048578<N) (hs:s.length<=1048576):NG N s=some (Ou s):=by
 unfold NG jB;try simp only[clR]
 rw[NP N s (by omega) (by omega) (by omega)];unfold Ou;have hg:Good 1048576 (JG s).1:=(KC s).mono hs;generalize JG s=r at hg ⊢;obtain⟨l,er⟩:=r;have hlen:l.length<=1048576:=hg.len;rw[Js];dsimp only;rw[<- JD];refine Ku fun _=> ?_;cases hl:l with
 | nil=>rfl
 | cons a0 l0 =>
  rw[<- hl];have hp:0<l.length:=by rw[hl];exact GI _
  have he:l.isEmpty=false:=by rw[hl];rfl
  rw[he,cond_false];by_cases h16:16<l.length
  .simp (disch:=omega) only[J4]
  .simp (disch:=omega) only[J4];rw[<- JD];refine(PT (fun i acc=>((i:Int),acc)) l (0,[],[]) (fun a=>(gnD a false).2) (fun a=>(gnD a false).1) (fun e=>some ([],e)) (fun acc=>some (acc,0)) ?_ ?_ N (by omega)).trans ?_
   .intro i acc hi ha k;have hc:=(hg.all _ (getD_mem (0,[],[]) hi)).content;dsimp only at hc;have hE:=wQ N (l.getD i (0,[],[])) false hN (by omega);simp (disch:=omega) only[J4,hE];generalize gnD (l.getD i (0,[],[])) false=y;cases y.2 != 0<;>rfl
   .intro acc k ha;simp (disch:=omega) only[J4]
   .rfl
theorem lI (N:Nat) (s:Bs) (hN:1048578<N) (hs:s.length<=1048576):PX N s=some (Ou s):=by
 unfold PX;try simp only[clR]
 rw[QL N s (by omega) (by omega) (by omega)];unfold Ou;have hg:Good 1048576 (JG s).1:=(KC s).mono hs;generalize JG s=r at hg ⊢;obtain⟨l,er⟩:=r;have hlen:l.length<=1048576:=hg.len;rw[Js];dsimp only;rw[<- JD];refine Ku fun _=> ?_;cases hl:l with
 | nil=>rfl
 | cons a0 l0 =>
  rw[<- hl];have hp:0<l.length:=by rw[hl];exact GI _
  have he:l.isEmpty=false:=by rw[hl];rfl
  rw[he,cond_false];by_cases h16:16<l.length
  .simp (disch:=omega) only[J4]
  .simp (disch:=omega) only[J4];rw[<- JD];refine(PT (fun i acc=>((i:Int),acc)) l (0,[],[]) (fun a=>(gnD a false).2) (fun a=>(gnD a false).1) (fun e=>some ([],e)) (fun acc=>some (acc,0)) ?_ ?_ N (by omega)).trans ?_
   .intro i acc hi ha k;have hc:=(hg.all _ (getD_mem (0,[],[]) hi)).content;dsimp only at hc;have hE:=qJ N (l.getD i (0,[],[])) false hN (by omega);simp (disch:=omega) only[J4,hE];generalize gnD (l.getD i (0,[],[])) false=y;cases y.2 != 0<;>rfl
   .intro acc k ha;simp (disch:=omega) only[J4]
   .rfl
def KH {α :Type} {P: α ->Prop} {b:Bool} {x y: α} (hx:P x) (hy:b=false->P y):P (bif b then x else y):=by
 cases b
 .exact hy rfl
 .exact hx
def Agz (r:List Gn×Int):Prop:=(∀ g∈r.1,We g)/\r.1.length<=16
def Ace (s:Bs) (hs:s.length<=1048576):Agz (Ou s):=by
 have hg:Good 1048576 (JG s).1:=(KC s).mono hs;have hz: ∀ e:Int,Agz ([],e):=fun e=>⟨fun g hg=>(by cases hg),by show 0<=16;omega⟩
 refine KH (P:=Agz) (hz _) fun _=>KH (P:=Agz) (hz _) fun _=>KH (P:=Agz) (hz _) fun h16=>KH (P:=Agz) (hz _) fun _=>⟨fun g hgm=> ?_,?_⟩
 .obtain⟨x,hx,rfl⟩:=DD.1 hgm;exact Ams x false (by have:=(hg.all x hx).content;omega)
 .show((JG s).1.map _).length<=16;rw[D7];have:=Fg h16;omega
def leB (a b:Bs):Bool:=Vm.bytesLess a b||a==b
def AvC (a b:Bs):leB a b=decide (a<=b):=by
 unfold leB Vm.bytesLess;rw[bytesLess_eq];by_cases h:a=b
 .subst h;rw[Ep,EE];exact(Dn (List.le_refl a)).symm
 .rw[Eg h,Fh];by_cases h2:a<b
  .rw[Dn h2,Dn (List.le_of_lt h2)]
  .rw[Du h2,Du];intro h3;exact h (Jk h3 (by simpa using h2))
def Yv (x:Bs):List Bs->List Bs
 | []=>[x]
 | y::r=>bif leB y x then y::Yv x r else x::y::r
def Aci (x:Bs): ∀ s:List Bs,(Yv x s).Perm (x::s):=by
 intro s
 induction s with
 | nil=>exact I4 _
 | cons y r ih =>
  show(bif leB y x then y::Yv x r else x::y::r).Perm _;cases leB y x with
  | true=>exact(List.Perm.cons y ih).trans (List.Perm.swap x y r)
  | false=>exact I4 _
def Axq (x:Bs): ∀ s:List Bs,s.Pairwise (fun a b=>a<=b)->(Yv x s).Pairwise (fun a b=>a<=b):=by
 intro s
 induction s with
 | nil=>intro _;exact GM _ _
 | cons y r ih =>
  intro h;rw[EH]at h;show(bif leB y x then y::Yv x r else x::y::r).Pairwise _;cases hl:leB y x with
  | true =>
   rw[AvC,D6]at hl;rw[cond_true,EH];refine⟨fun z hz=> ?_,ih h.2⟩;rcases D8.1 ((Aci x r).mem_iff.1 hz)with rfl | hz
   .exact hl
   .exact h.1 z hz
  | false =>
   rw[AvC,Ed]at hl
   have hxy:x<=y:=by
    rcases List.le_total x y with h | h
    .exact h
    .exact absurd h hl
   rw[cond_false,EH,EH];refine⟨fun z hz=> ?_,h⟩;rcases D8.1 hz with rfl | hz
   .exact hxy
   .exact List.le_trans hxy (h.1 z hz)
def Apo: ∀(l s:List Bs),s.Pairwise (fun a b=>a<=b)->(l.foldl (fun s x=>Yv x s) s).Pairwise (fun a b=>a<=b)/\(l.foldl (fun s x=>Yv x s) s).Perm (l++s):=by
 intro l
 induction l with
 | nil=>intro s h;exact⟨h,I4 _⟩
 | cons x r ih =>intro s h;obtain⟨h1,h2⟩:=ih (Yv x s) (Axq x s h);refine⟨h1,h2.trans ?_⟩;exact((Aci x s).append_left r).trans List.perm_middle
def AxB (l:List Bs):(l.foldl (fun s x=>Yv x s) []).flatten=UK l:=by
 unfold UK;congr 1;obtain⟨h1,h2⟩:=Apo l [] List.Pairwise.nil;rw[DW]at h2;refine List.Perm.eq_of_pairwise (le:=fun a b=>a<=b) (fun a b _ _ h3 h4=>Jk h3 h4) h1 ?_ (h2.trans (Hf l _).symm)
 have:=List.pairwise_mergeSort (le:=fun x y:Bs=>decide (x<=y)) (fun a b c h3 h4=>by
  rw[D6]at *
  exact List.le_trans h3 h4) (fun a b=>by
  rw[E5,D6,D6];exact List.le_total a b) l
 exact this.imp (fun h=>by simpa using h)
def Aza (x:Bs): ∀ s:List Bs,s.take (s.findIdx fun y=> !leB y x)++x::s.drop (s.findIdx fun y=> !leB y x)=Yv x s:=by
 intro s
 induction s with
 | nil=>rfl
 | cons y r ih =>
  rw[G5];show _=bif leB y x then y::Yv x r else x::y::r;cases leB y x with
  | true=>rw[Ec,cond_false,cond_true,List.take_succ_cons,List.drop_succ_cons,List.cons_append,ih]
  | false=>rfl
def AlK (N:Nat) (l:List Bs) (hN:1048578<N) (hl:l.length<=1048576) (hf:l.flatten.length<=1099511627776):jJ N l=some (UK l):=by
 unfold jJ;try simp only[clR]
 refine(ZW (S:=List Bs) (R:=Unit) (mk:=fun i s=>((i:Int),s)) l [] (fun i s=>s.length=i/\s=(l.take i).foldl (fun s x=>Yv x s) []) (fun x s=>.inr (Yv x s)) (fun _=>none) (fun s=>some s.flatten) ?_ ?_ ?_ N [] ⟨rfl,rfl⟩ (by omega)).trans ?_
 .intro i s hi hI k;obtain⟨hs,_⟩:=hI;have hp:(Yv (l.getD i []) s).length=i+1:=by rw[(Aci _ s).length_eq,List.length_cons,hs]
  simp (disch:=omega) only[J4];refine(Aq5 (mk:=fun j=>((j:Int),s)) (out:=fun j=>((j:Int),s)) s [] (fun y=> !leB y (l.getD i [])) ?_ ?_ N (by omega)).trans ?_
  .intro j k hj;simp (disch:=omega) only[J4,Ko];unfold leB;cases (Vm.bytesLess (s.getD j []) (l.getD i [])||s.getD j []==l.getD i [])<;>rfl
  .intro k;simp (disch:=omega) only[J4]
  .have hc:=Aza (l.getD i []) s;have hle:(s.findIdx fun y=> !leB y (l.getD i []))<=s.length:=List.findIdx_le_length;generalize (s.findIdx fun y=> !leB y (l.getD i []))=m at hc hle;have hc1:J9 s 0 m=s.take m:=rfl;have hc2:J9 s m s.length=s.drop m:=by unfold J9;rw[Ez]
   have hl1:(s.take m).length=m:=by rw[DL];omega
   have hl2:(s.drop m).length=s.length - m:=ED ..;have hl3:(s.take m++[l.getD i []]).length=m+1:=by rw[Dx,hl1];rfl
   simp (disch:=omega) only[J4,hc1,hc2,hl1,hl2,hl3,Ko];rw[Ei,List.singleton_append,hc]
 .intro i s s' hi hI he;injection he with he;subst he;refine⟨by rw[(Aci _ s).length_eq,List.length_cons,hI.1],?_⟩;rw[hI.2,Fv,D9 hi,Hz,getD_lt l i _ hi];rfl
 .intro s k hI
  have hp:s.flatten.length<=1099511627776:=by
   have:=(Apo l [] List.Pairwise.nil).2;rw[DW]at this;have h2:=hI.2;rw[Ez]at h2;rw[<- h2]at this;have h3:=(this.map List.length).sum_nat
   rw[Gq]at hf ⊢;omega
  have hsl:=hI.1;simp (disch:=omega) only[J4];refine(fP (mk:=fun i t=>(t,(i:Int),s)) s [] id some ?_ ?_ N (by omega)).trans ?_
  .intro i t hi ht k;rw[FW]at ht;have ht:t.length+(s.getD i []).length<=s.flatten.length:=ht;simp (disch:=omega) only[J4,Ko];rfl
  .intro t k;simp (disch:=omega) only[J4]
  .rw[FW]
 .have: ∀(l s:List Bs),P7 (R:=Unit) (fun x (s:List Bs)=>.inr (Yv x s)) l s= .inr (l.foldl (fun s x=>Yv x s) s):=by
   intro l
   induction l with
   | nil=>intro s;rfl
   | cons x r ih=>intro s;rw[Nv];exact ih _
  rw[this,AkX,AxB]
end Go.Proofs.YtakmjgnpefmjhaaGreatDoor.Pl
