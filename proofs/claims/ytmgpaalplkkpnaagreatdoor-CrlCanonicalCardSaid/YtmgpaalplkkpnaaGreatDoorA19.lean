import Derived.Test.YtmgpaalplkkpnaaGreatDoorA18
set_option linter.all false
namespace Go.Proofs.YtmgpaalplkkpnaaGreatDoor.Pl
open IntKind (i64 u8 u32 u64)
open Go Vm
def A1S (a b:Nat) (hb:b<256):(a*256) ||| b=a*256+b:=by rw[show a*256=a <<< 8 by rw[GL],<- G5 (by omega:b<2 ^ 8)]
def ori (x b:Int) (h1: -36028797018963968<=x) (h2:x<36028797018963968) (h3:0<=b) (h4:b<256):JF .or .i64 (i64.wrap (x*256)) (i64.wrap b)=x*256+b:=by
 rw[w64,w64];have e1:(BitVec.ofInt 64 (x*256)).toNat=((x*256) % 18446744073709551616).toNat:=by simp [Ih]
 have e2:(BitVec.ofInt 64 b).toNat=b.toNat:=by rw[Ih];omega
 show i64.wrap (((BitVec.ofInt 64 (x*256)) ||| (BitVec.ofInt 64 b)).toNat:Int)=_;rw[BitVec.toNat_or,e1,e2,show((x*256) % 18446744073709551616).toNat=(x % 72057594037927936).toNat*256 by omega,A1S _ _ (by omega),IntKind.wrap_i64];omega
def A4d: ∀(l:Bs) (k:Nat) (v:Int),k+l.length<=7-> -(128*256 ^ k)<=v->v<128*256 ^ k ->
 l.foldl (fun acc b=>JF .or .i64 (i64.wrap (acc*256)) (i64.wrap (b.toNat:Int))) v=Sp.be v l:=by
 intro l
 induction l with
 | nil=>intro k v _ _ _;rfl
 | cons b r ih =>
  intro k v hk h1 h2;simp only[List.length_cons]at hk;have hb:=b.toNat_lt;have hp:=Sp.AxG (show k<=6 by omega);have h6:(256:Int) ^ 6=281474976710656:=by decide
  rw[List.foldl_cons,ori _ _ (by omega) (by omega) (by omega) (by omega),Sp.A1g];have hs:(256:Int) ^ (k+1)=256 ^ k*256:=Int.pow_succ ..;exact ih (k+1) _ (by omega) (by omega) (by omega)
def Aur {S:Type} (g:S->UInt8->S) (l:Bs) (a:S):(List.range l.length).foldl (fun s i=>g s (l.getD i 0)) a=l.foldl g a:=by
 have e:(List.range l.length).map (fun i=>l.getD i 0)=l:=by apply Iy (by simp);intro i h1 h2;simp [Dj,h2]
 conv=>rhs;rw[<- e,List.foldl_map]
def A3B (a:UInt8):i64.wrap (IntKind.i8.wrap (a.toNat:Int))=Sp.Aig a:=by
 have: ∀ a:Fin 256,i64.wrap (IntKind.i8.wrap (a.val:Int))=if a.val<128 then(a.val:Int)else(a.val:Int) - 256:=by decide +kernel
 exact this ⟨a.toNat,a.toNat_lt⟩
def AmM (N:Nat) (a:UInt8) (r:Bs) (hN:16<N) (hr:r.length<=7):JB (X:=Int×Int) (Y:=Int) (U2 fun t4a t43a k11 x12 =>
 bif decide (t43a<(i64.wrap (((a::r).length:Int) - (1:Int))))then(chk (decide ((0:Int)<=i64.wrap (t43a+(1:Int)))) <|
 chk (decide (i64.wrap (t43a+(1:Int))<((a::r).length:Int))) <|
 k11 (JF .or .i64 (i64.wrap (t4a*(256))) (i64.wrap (((a::r).getD ((i64.wrap (t43a+(1:Int))).toNat) 0).toNat:Int)),i64.wrap (t43a+(1:Int))))
 else(x12 t4a))
 N (i64.wrap (IntKind.i8.wrap (a.toNat:Int)),0) (fun t4b=>some (t4b,0))=some (Sp.be (Sp.Aig a) r,(0:Int)):=by
 have hl:((a::r).length:Int)=(r.length:Int)+1:=by simp
 refine(Aht (fun i acc=>(acc,(i:Int))) r.length (fun i acc=>JF .or .i64 (i64.wrap (acc*256)) (i64.wrap ((r.getD i 0).toNat:Int))) (fun acc=>some (acc,0)) ?_ ?_ N _).trans ?_
 .intro i acc hi k;dsimp only[U2];rw[hl];have e:(((i:Int)+1)).toNat=i+1:=by omega
  simp (disch:=omega) only[JH,e,FT];rfl
 .intro acc k;dsimp only[U2];rw[hl];simp (disch:=omega) only[JH]
 .have:=A3B a;rw[this,Aur (fun acc b=>JF .or .i64 (i64.wrap (acc*256)) (i64.wrap (b.toNat:Int)))];have hs:=Sp.Av3 a;rw[A4d r 0 _ (by omega) (by omega) (by omega)]
def bad_eq (a b:UInt8) (r:Bs):Sp.Aiz (a::b::r)=((((a.toNat:Int)==0)&&decide ((b.toNat:Int)<128))||(((a.toNat:Int)==255)&& !decide ((b.toNat:Int)<128))):=by
 have e1:((a.toNat:Int)==0)=decide (a.toNat=0):=by rw[EW];simp
 have e2:((a.toNat:Int)==255)=decide (a.toNat=255):=by rw[EW];simp;omega
 have e3:decide ((b.toNat:Int)<128)=decide (b.toNat<128):=by rw[EW];simp;omega
 rw[e1,e2,e3];show(_||_&&decide (128<=b.toNat))=_;rw[show decide (128<=b.toNat)= !decide (b.toNat<128) by rw[EW];simp]
def wB (N:Nat) (s:Bs) (hN:16<N) (hs:s.length<=1048576):PZ N s=some (Sp.integer s):=by
 match s with
 | []=>rfl
 | [a] =>
  have hlo:=AmM N a [] hN (by simp);have d1:decide (([a].length:Int)>1)=false:=by simp
  have d2:decide ((0:Int)<([a].length:Int))=true:=by simp
  have d4:decide (([a].length:Int)>8)=false:=by simp
  have e1:([a]==([]:Bs))=false:=by simp
  unfold PZ;try simp -zeta only[Ap]
  have hi:Sp.integer [a]=(Sp.be (Sp.Aig a) [],0):=by simp [Sp.integer,Sp.Aiz,Sp.AwW]
  rw[hi];have d3:decide ((1:Int)<([a].length:Int))=false:=by simp
  simp only[Eh,d1,d2,d3,d4,e1];generalize ((a.toNat:Int)==0)=X;generalize ((a.toNat:Int)==255)=Z;cases X<;>cases Z<;>exact ER (by kernel_rfl) hlo
 | a::b::r =>
  have e1:((a::b::r)==([]:Bs))=false:=rfl;have hl:((a::b::r).length:Int)=(r.length:Int)+2:=by simp;omega
  have hg:decide ((b.toNat:Int)>=128)= !decide ((b.toNat:Int)<128):=by rw[EW];simp
  unfold PZ;try simp -zeta only[Ap]
  simp only[e1,hg,Eh,FT];have hlo:=AmM N a (b::r) hN;unfold Sp.integer;rw[bad_eq];have d1:decide (((a::b::r).length:Int)>1)=true:=Di;have d2:decide ((0:Int)<((a::b::r).length:Int))=true:=Di;have d3:decide ((1:Int)<((a::b::r).length:Int))=true:=Di;simp only[d1,d2,d3];generalize ((a.toNat:Int)==0)=X;generalize decide ((b.toNat:Int)<128)=Y;generalize ((a.toNat:Int)==255)=Z;by_cases h8:(a::b::r).length<=8
  .have hlo:=hlo (by simpa using h8);have d4:decide (((a::b::r).length:Int)>8)=false:=A50;have d5: ¬ 8<(a::b::r).length:=by omega
   rw[d4,Dk d5];cases X<;>cases Y<;>cases Z<;>first | rfl | exact hlo
  .have d4:decide (((a::b::r).length:Int)>8)=true:=Di;have d5:8<(a::b::r).length:=by omega
   rw[d4,Dn d5];cases X<;>cases Y<;>cases Z<;>rfl
def Af7 (l:List El) (t:Int):El×Int×List El:=match l with
 | []=>((0,[],[]),3,[])
 | e::r=>bif e.1 != t then((0,[],[]),5,e::r)else(e,0,r)
def Apc (e:El) (r:List El):JD (e::r) 1 (e::r).length=r:=by show((e::r).take (e::r).length).drop 1=r;rw[ED];rfl
def As3 (N:Nat) (l:List El) (t:Int):L8 N l t=some (Af7 l t):=by
 cases l with
 | nil=>rfl
 | cons e r =>
  have h1:decide (((e::r).length:Int)>(0:Int))=true:=Di (by simp only[List.length_cons];omega);have h2:decide ((0:Int)<((e::r).length:Int))=true:=Di (by simp only[List.length_cons];omega);have h3:decide ((1:Int)<=((e::r).length:Int))=true:=Di (by simp only[List.length_cons];omega);have h4:(((e::r).length:Int)==(0:Int))=false:=by simp;omega
  unfold L8 MP Af7;try simp -zeta only[Ap]
  rw[h1,h3,h4,Apc];show(bif e.1 != t then some (((0,[],[]):El),(5:Int),e::r)else some (e,(0:Int),r))=_;rw[Lr]
def Wl (s:Bs):List El×Int:=bif (ML s 48).2 != 0 then([],(ML s 48).2)else JQ (ML s 48).1.2.1
def wR (s:Bs) (hs:s.length<=1048576):Good 1048576 (Wl s).1:=by
 have hl:=VU s 48;unfold Wl;cases (ML s 48).2 != 0 with
 | true=>exact(KR []).mono (by simp)
 | false=>exact(KR _).mono (by omega)
def uD {ρ :Type} (N:Nat) (s:Bs) (hN:1048578<N) (hs:s.length<=1048576) (k:List El×Int->Option ρ) (l:Unit×Int->Option ρ) :
 SC (Un N s 48) k l=bif (Wl s).2 != 0 then l ((),(Wl s).2)else k ((Wl s).1,0):=by
 have hlo:=VU s 48;unfold Un Om Wl;rw[SK N s 48 hN hs,Jt];cases h:(ML s 48).2 != 0 with
 | true=>rw[cond_true,QN,cond_true,h,cond_true]
 | false =>
  rw[cond_false,cond_false,MK N _,Jt];cases h2:(JQ (ML s 48).1.2.1).2 != 0 with
  | true=>rw[cond_true,QN,QN,cond_true]
  | false=>rw[cond_false,Uf,Uf,cond_false]
def A0B (s:Bs):Bool×Int:=bif s==[0]then(false,0)else bif s==[255]then(true,0)else(false,7)
def vY (N:Nat) (s:Bs):TW N s=some (A0B s):=by unfold TW A0B;simp only[Lr]
def smE (e:El):Prop:=e.2.1.length<=1048576/\e.2.2.length<=1048576
def AqL:smE (0,[],[]):=⟨DN _,DN _⟩
def Q5 {e:El} (h:eG 1048576 e):smE e:=⟨by have:=h.content;omega,by have:=h.content;omega⟩
section
variable {N:Nat} (hN:1048578<N)
theorem Afv {l:List El} (hg:Good 1048576 l):Ends (fun r=>smE r.1/\Good 1048576 r.2.2) (MP N l):=by
 unfold MP;try simp -zeta only[Ap]
 cases l with
 | nil=>exact Ju ⟨AqL,hg⟩
 | cons e r =>rw[show(((e::r).length:Int)==0)=false from MO (by rw[List.length_cons];omega),cond_false];refine J9 (Di (by rw[List.length_cons];omega)) (J9 (Di (by rw[List.length_cons];omega)) (Ju ⟨Q5 (hg.all e Dv),?_⟩));show Good 1048576 (JD (e::r) 1 (e::r).length);rw[Apc];exact hg.tail
theorem dB {l:List El} (hg:Good 1048576 l) (t:Int):Ends (fun r=>smE r.1/\Good 1048576 r.2.2) (L8 N l t):=by
 unfold L8;try simp only[clR]
 have hc:(decide ((0:Int)<(l.length:Int))|| !decide ((l.length:Int)>0))=true:=by
  by_cases h:0<l.length
  .rw[Di];rfl
  .rw[show decide ((l.length:Int)>0)=false from A50];simp
 first
  | refine J9 hc (Jv (fun _=>Ju ⟨AqL,hg⟩) (fun _=>Jz (Afv hg) fun v hv=>Ju hv))
  | refine Jv (fun _=>Ju ⟨AqL,hg⟩) (fun _=>Jz (Afv hg) fun v hv=>Ju hv)
theorem Aah {l:List El} (hg:Good 1048576 l) (t:Int):Ends (fun r=>smE r.1/\Good 1048576 r.2.2) (Lc N l t):=by
 rw[fQ];refine Ju ⟨?_,(qC hg t).1⟩;cases h:(Lu l t).2.1 with
 | true=>exact Q5 ((qC hg t).2 h)
 | false =>
  unfold Lu at h ⊢;cases l with
  | nil=>exact AqL
  | cons e r =>
   dsimp only at h ⊢;split at h
   .cases h
   .rename_i hn;rw[Dk hn];exact AqL
theorem Ahr {l:List El} (hg:Good 1048576 l) (t:Int):Ends (fun r=>Good 1048576 r.2.2) (Nq N l t):=by
 unfold Nq;try simp only[clR]
 refine Jz (Aah hg t) fun v hv=>Jv (fun _=>Ju hv.2) (fun _=> ?_);rw[vY,Jt];refine KE (P:=fun x=>Good 1048576 x.2) (fun j hj=>Jv (fun _=>hj _ hv.2) (fun _=>hj _ hv.2)) ?_;rintro ⟨a,b⟩ h;exact Ju h
theorem pV (l:List El):Ends (fun _=>True) (Mc N l):=by rw[aZ];exact Ju trivial
include hN
theorem Acm {ρ :Type} (s:Bs) (hs:s.length<=1048576) (k:List El×Int->Option ρ) (l:Unit×Int->Option ρ) :
 SC (Om N s) k l=bif (JQ s).2 != 0 then l ((),(JQ s).2)else k ((JQ s).1,0):=by
 unfold Om;rw[MK N _,Jt];cases h2:(JQ s).2 != 0 with
 | true=>rw[cond_true,QN,cond_true]
 | false=>rw[cond_false,Uf,cond_false]
theorem AyL {e:El} (he:smE e):Ends (fun r=>NH r.1) (XP N e):=by
 have z:NH ([],false,[]):=⟨DN _,DN _⟩
 unfold XP;try simp only[clR]
 refine Jv (fun _=>Ju z) (fun _=> ?_);rw[MK N e.2.1 (by omega) (by have:=he.1;omega) (by have:=he.1;omega),Jt];have hg:Good 1048576 (JQ e.2.1).1:=(KR e.2.1).mono he.1;generalize JQ e.2.1=r at hg ⊢;obtain⟨l,er⟩:=r;dsimp only at hg ⊢;refine Jv (fun _=>Ju z) (fun _=> ?_);cases l with
 | nil=>exact Ju z
 | cons a r =>
  have ha:=Q5 (hg.all a Dv);have hr:=hg.tail;rw[show(((a::r).length:Int)==0)=false from MO (by rw[List.length_cons];omega),cond_false];refine J9 (Di (by rw[List.length_cons];omega)) (Jv (fun _=>Ju z) (fun _=>J9 (Di (by rw[List.length_cons];omega)) ?_));rw[Eh,Su N a.2.1 ha.1 (by have:=ha.1;omega) (by omega),Jt];have hid:=AiO a.2.1;generalize SI (Vp a.2.1)=id at hid ⊢;refine Jv (fun _=>Ju z) (fun _=>J9 (Di (by rw[List.length_cons];omega)) ?_);rw[Apc];refine KE (P:=fun x=>Good 1048576 x.1/\x.2.1.length<=1048576) (fun j hj=> ?_) ?_
  .have hc:(decide ((0:Int)<(r.length:Int))|| !decide ((r.length:Int)>0))=true:=by
    by_cases h:0<r.length
    .rw[Di];rfl
    .rw[show decide ((r.length:Int)>0)=false from A50];simp
   have key:Ends (fun r=>NH r.1) (bif (decide ((r.length:Int)>0))&&((r.getD 0 (0,[],[])).1==1)then chk (decide ((0:Int)<(r.length:Int))) (Jr (TW N (r.getD 0 (0,[],[])).2.1) fun r62=>bif r62.2 != 0 then some (([],false,[]),r62.2)else bif !r62.1 then some (([],false,[]),7)else chk (decide ((1:Int)<=(r.length:Int))) (j (JD r 1 r.length,id.1,r62.1)))else j (r,id.1,false)):=by
    refine Jv (fun h=> ?_) (fun _=>hj _ ⟨hr,hid⟩);rw[Dq,D5]at h;have h0:=h.1;refine J9 (Di) ?_;rw[vY,Jt];refine Jv (fun _=>Ju z) (fun _=>Jv (fun _=>Ju z) (fun _=>J9 (Di) (hj _ ⟨?_,hid⟩)));cases r with
    | nil=>simp at h0
    | cons b r=>show Good 1048576 (JD (b::r) 1 (b::r).length);rw[Apc];exact hr.tail
   first
    | exact J9 hc key
    | exact key
  .rintro ⟨l2,i2,c2⟩ ⟨g2,hi2⟩;dsimp only[U3]at g2 hi2 ⊢;cases l2 with
   | nil=>exact Ju z
   | cons b r2 =>rw[show(((b::r2).length:Int)==0)=false from MO (by rw[List.length_cons];omega),cond_false];refine J9 (Di (by rw[List.length_cons];omega)) (Jv (fun _=>Ju z) (fun _=>Jv (fun _=>Ju z) (fun _=>J9 (Di (by rw[List.length_cons];omega)) (Ju ⟨hi2,(Q5 (g2.all b Dv)).1⟩))))
end
section
variable {N:Nat} (hN:1048578<N)
include hN
theorem Yw (t:Nat) (l:List Bs) (ht:t<256) (h31:t % 32≠31) (hl:l.length<=1000:=by simp):Ends (fun r=>r.1.length<=131077) (KD N (t:Int) l):=by grind[fM,Ju,wZ]
theorem AlH (l:List Int) (n:Int) (k:Nat) (hk:k<=10) (hb:List.all l isByte=true) (hl:l.length<=1000) (h0:0<=n) (h1:n<=1000000):Ends (fun r=>List.all r isByte=true/\r.length=l.length+k) (Ye N l n (k:Int)):=by
 unfold Ye;try simp -zeta only[Ap]
 refine KP (fun(x:Int×List Int)=>0<=x.1/\x.1<=(k:Int)/\List.all x.2 isByte=true/\(x.2.length:Int)=(l.length:Int)+x.1) (fun x=>((k:Int) - x.1).toNat) ?_ N _ ⟨by dsimp only;omega,by dsimp only;omega,hb,by dsimp only;omega⟩ (by dsimp only;omega);rintro ⟨i,L⟩ ⟨i0,i1,b1,e1⟩ c hc;dsimp only at i0 i1 b1 e1 hc;dsimp only[U2];refine Jv (fun h=> ?_) (fun h=> ?_)
 .grind[J9,w64,isByte,Ends,Ye]
 .have h: ¬ i<(k:Int):=DY h;have e2:L.length=l.length+k:=by omega
  rw[w64 (x:=(L.length:Int) - 1)];refine KP (fun(x:Int×Int×List Int)=>0<=x.1/\x.1<=1000000/\(l.length:Int) - 1<=x.2.1/\x.2.1<(L.length:Int)/\List.all x.2.2 isByte=true/\x.2.2.length=l.length+k) (fun x=>(x.2.1+1).toNat) ?_ N _ ⟨h0,h1,?_,?_,b1,e2⟩ (by dsimp only;omega)
  .rintro ⟨v,j,M⟩ ⟨v0,v1,j0,j1,b2,e3⟩ c2 hc2;dsimp only at v0 v1 j0 j1 b2 e3 hc2;dsimp only[U3];refine Jv (fun h=> ?_) (fun _=>Ju ⟨b2,e3⟩);all_goals grind[J9,w64,b2,PY]
  .dsimp only;omega
  .dsimp only;omega
theorem dY (t:Int) (h0:0<=t) (h1:t<=254033452799):Ends (fun r=>r.1.length<=131077) (Ol N t):=by
 unfold Ol;try simp -zeta only[Ap]
 refine Jz (AvP N hN t h0 h1) ?_;rintro ⟨⟨y,m,d,h,mi,s⟩,e⟩ ⟨⟨⟨y0,y1⟩,⟨m0,m1⟩,⟨d0,d1⟩,⟨c0,c1⟩,⟨i0,i1⟩,s0,s1⟩,he⟩;dsimp only at y0 y1 m0 m1 d0 d1 c0 c1 i0 i1 s0 s1 he ⊢;subst he;rw[show((0:Int) != 0)=false from rfl,cond_false];have q:y.tmod 100=y % 100:=Em (by omega);rw[q];refine Jz (AlH hN [] (y % 100) 2 (by omega) rfl (by simp) (by omega) (by omega)) fun L hL=> ?_;refine KE (P:=fun x=>(x.1=23\/x.1=24)/\x.2.1=y/\x.2.2.1=m/\x.2.2.2.1=d/\x.2.2.2.2.1=h/\x.2.2.2.2.2.1=mi/\x.2.2.2.2.2.2.1=s/\List.all x.2.2.2.2.2.2.2 isByte=true/\x.2.2.2.2.2.2.2.length<=4) (fun j hj=> ?_) ?_
 .refine Jv (fun _=> ?_) (fun _=>hj _ ⟨.inl rfl,rfl,rfl,rfl,rfl,rfl,rfl,hL.1,by have:=hL.2;simp at this;dsimp only;omega⟩);all_goals grind[Jz,AlH]
 .rintro ⟨tg,y',m',d',h',mi',s',L3⟩ ⟨ht,rfl,rfl,rfl,rfl,rfl,rfl,b3,l3⟩;dsimp only at y0 y1 m0 m1 d0 d1 c0 c1 i0 i1 s0 s1 ht b3 l3;dsimp only[U8];refine KP (fun(x:Int×List Int×List Int)=>0<=x.1/\x.1<=5/\x.2.1=[m',d',h',mi',s']/\List.all x.2.2 isByte=true/\(x.2.2.length:Int)<=4+2*x.1) (fun x=>(5 - x.1).toNat) ?_ N _ ⟨by dsimp only;omega,by dsimp only;omega,rfl,b3,by dsimp only;omega⟩ (by dsimp only;omega);rintro ⟨i,P,L4⟩ ⟨p0,p1,rfl,b4,l4⟩ c hc;dsimp only at p0 p1 b4 l4 hc;dsimp only[U3];refine Jv (fun hh=> ?_) (fun _=> ?_)
  .have hh:i<5:=D6 hh;have hv:0<=([m',d',h',mi',s']:List Int).getD i.toNat 0/\([m',d',h',mi',s']:List Int).getD i.toNat 0<=1000000:=by all_goals grind[Ends,Ol]
   refine J9 (Di p0) (J9 (Di (by show i<5;omega)) (J9 (Di (by show i.toNat<5;omega)) ?_));refine Jz (AlH hN L4 _ 2 (by omega) b4 (by omega) hv.1 hv.2) fun L5 hL5=> ?_;all_goals grind[w64]
  .refine J9 b4 ?_
   have w:Ends (fun r=>r.1.length<=131077) (KD N tg [List.map Vm.byteOf L4,[90]]):=by
    rcases ht with rfl | rfl
    .exact Yw hN 23 _ (by omega) (by omega)
    .exact Yw hN 24 _ (by omega) (by omega)
   exact Jz w fun v hv=>Ju hv
theorem AwV (l:List Ex) (hl:l.length<=1048576):Ends (fun _=>True) (vC N l):=by
 unfold vC;try simp only[clR]
 refine KP (fun(x:Int×List (Bs×Int))=>0<=x.1/\x.1<=(l.length:Int)) (fun x=>((l.length:Int) - x.1).toNat) ?_ N _ ⟨by dsimp only;omega,by dsimp only;omega⟩ (by dsimp only;omega);rintro ⟨i,M⟩ ⟨i0,i1⟩ c hc;dsimp only at i0 i1 hc;dsimp only[U2];refine Jv (fun h=> ?_) (fun _=>Ju trivial);have h:i<(l.length:Int):=D6 h;refine J9 (Di i0) (J9 (Di h) ?_);rw[w64 (x:=i+1)];exact Jv (fun _=>hc _ ⟨by dsimp only;omega,by dsimp only;omega⟩ (by dsimp only;omega)) (fun _=>hc _ ⟨by dsimp only;omega,by dsimp only;omega⟩ (by dsimp only;omega))
theorem AiU (l:List Ex) (hs: ∀ x∈l,NH x):Ends (fun _=>True) (gV N l):=by
 unfold gV;try simp only[clR]
 refine Jv (fun _=>Ju trivial) (fun _=>Jv (fun _=>Ju trivial) (fun h=> ?_));have h: ¬(l.length:Int)>24:=DY h;refine Jz (AwV hN l (by omega)) fun M _=> ?_;refine KP (fun(x:Int×List (Bs×Int))=>0<=x.1/\x.1<=(l.length:Int)) (fun x=>((l.length:Int) - x.1).toNat) ?_ N _ ⟨by dsimp only;omega,by dsimp only;omega⟩ (by dsimp only;omega);rintro ⟨i,M⟩ ⟨i0,i1⟩ c hc;dsimp only at i0 i1 hc;dsimp only[U2];refine Jv (fun h=> ?_) (fun _=>Ju trivial);have h:i<(l.length:Int):=D6 h;have hx:=hs _ (getD_mem (([],false,[]):Ex) (show i.toNat<l.length by omega));refine J9 (Di i0) (J9 (Di h) ?_);rw[Aqd N _ hN hx.1,Jt];refine Jv (fun _=>Ju trivial) (fun _=>Jv (fun _=>Ju trivial) (fun _=> ?_));have h2:(l.getD i.toNat ([],false,[])).2.2.length<=1048576:=hx.2;rw[AqX N _ (by omega) (by omega) (by omega),Jt,w64 (x:=i+1)];exact Jv (fun _=>Ju trivial) (fun _=>hc _ ⟨by dsimp only;omega,by dsimp only;omega⟩ (by dsimp only;omega))
theorem Agy (s:Bs) (hs:s.length<=1048576):Ends (fun r=>(∀ x∈r.1,NH x)/\r.1.length<=1048576) (Zh N s):=by
 have z0: ∀ x∈([]:List Ex),NH x:=fun x hx=>by cases hx
 have z:(∀ x∈([]:List Ex),NH x)/\([]:List Ex).length<=1048576:=⟨z0,DN _⟩
 unfold Zh;try simp -zeta only[Ap]
 rw[UR N s,Jt];have hc:=QR s;refine Jv (fun _=>Ju z) (fun _=>Jv (fun _=>Ju z) (fun _=> ?_));rw[MK N _,Jt];have hg:Good 1048576 (JQ (KH s).1.2.1).1:=(KR _).mono (by omega);generalize JQ (KH s).1.2.1=r at hg ⊢;obtain⟨l,er⟩:=r;dsimp only at hg ⊢;have hl:=hg.len;refine Jv (fun _=>Ju z) (fun _=> ?_);refine KP (fun(x:Int×List Ex)=>0<=x.1/\x.1<=(l.length:Int)/\(x.2.length:Int)=x.1/\ ∀ y∈x.2,NH y) (fun x=>((l.length:Int) - x.1).toNat) ?_ N _ ⟨by dsimp only;omega,by dsimp only;omega,rfl,z0⟩ (by dsimp only;omega);rintro ⟨i,M⟩ ⟨i0,i1,i2,i3⟩ c hk;dsimp only at i0 i1 i2 i3 hk;dsimp only[U2];refine Jv (fun h=> ?_) (fun _=> ?_)
 .have h:i<(l.length:Int):=D6 h;refine J9 (Di i0) (J9 (Di h) ?_);refine Jz (AyL hN (Q5 (hg.all _ (getD_mem ((0,[],[]):El) (show i.toNat<l.length by omega))))) fun v hv=> ?_;refine Jv (fun _=>Ju z) (fun _=>J9 (Di) ?_);rw[w64 (x:=i+1)];exact hk _ ⟨by dsimp only;omega,by dsimp only;omega,by dsimp only;rw[Dp];show((M.length+1:Nat):Int)=_;omega,OX i3 hv⟩ (by dsimp only;omega)
 .exact Jz (AiU hN M i3) fun e _=>Jv (fun _=>Ju z) (fun _=>Ju ⟨i3,by show M.length<=_;omega⟩)
theorem AyR {x:Ex} (hx:NH x):Ends (fun r=>r.1.length<=131077) (XQ N x):=by
 have z:([]:Bs).length<=131077:=DN _;unfold XQ;try simp -zeta only[Ap]
 rw[Acz N x.1 (by omega) hx.1,Jt];refine Jv (fun _=>Ju z) (fun _=> ?_);refine Jz (Yw hN 6 _ (by omega) (by omega)) fun v hv=>Jv (fun _=>Ju z) (fun _=> ?_);refine KE (P:=fun y=>y.2.2.2.length=3) (fun j hj=>Jv (fun _=> ?_) (fun _=>hj _ rfl)) ?_
 .rw[show SV N true=some [255]from rfl,Jt];exact Jz (Yw hN 1 _ (by omega) (by omega)) fun w hw=>Jv (fun _=>Ju z) (fun _=>hj _ rfl)
 .rintro ⟨a,b,c,L⟩ hL;dsimp only[U4]at hL ⊢;refine Jz (Yw hN 4 _ (by omega) (by omega)) fun w hw=> ?_;rw[hL];refine J9 rfl (J9 rfl (Jv (fun _=>Ju z) (fun _=> ?_)));exact Jz (Yw hN 48 _ (by omega) (by omega) (by rw[Gg,hL];omega)) fun q hq=>Ju hq
theorem Agz (l:List Ex) (hs: ∀ x∈l,NH x) (hl:l.length<=1000):Ends (fun r=>r.1.length<=131077) (Zi N l):=by
 have z:([]:Bs).length<=131077:=DN _;unfold Zi;try simp -zeta only[Ap]
 refine Jz (AiU hN l hs) fun e _=>Jv (fun _=>Ju z) (fun _=> ?_);refine KP (fun(x:Int×List Bs)=>0<=x.1/\x.1<=(l.length:Int)/\(x.2.length:Int)=x.1) (fun x=>((l.length:Int) - x.1).toNat) ?_ N _ ⟨by dsimp only;omega,by dsimp only;omega,rfl⟩ (by dsimp only;omega);rintro ⟨i,M⟩ ⟨i0,i1,i2⟩ c hk;dsimp only at i0 i1 i2 hk;dsimp only[U2];refine Jv (fun h=> ?_) (fun _=> ?_)
 .have h:i<(l.length:Int):=D6 h;refine J9 (Di i0) (J9 (Di h) ?_);refine Jz (AyR hN (hs _ (getD_mem (([],false,[]):Ex) (show i.toNat<l.length by omega)))) fun v hv=> ?_;refine Jv (fun _=>Ju z) (fun _=>J9 (Di) ?_);all_goals grind[w64]
 .exact Jz (Yw hN 48 _ (by omega) (by omega) (by omega)) fun e he=>Jv (fun _=>Ju z) (fun _=>Ju he)
end
section
variable (N:Nat) (hN:1048578<N) {L:List Int} (hL:L.length<=9223372036854775807)
include hL
def A29 (a:Att):Prop:=a.1.length<=40/\a.2.2.length<=40
instance (a:Att):Decidable (A29 a):=by unfold A29;infer_instance
include hN in
end
def Y7 (N:Nat) {L:List Int} (hL:L.length<=9223372036854775807) {d:List Int×Int} (hd:KY L d) (n:Nat) (hn:0<n:=by omega) (hn':n<2147483648:=by omega): ∃(i:Nat) (d1:List Int×Int),JK N d (n:Int)=some ((i:Int),d1)/\i<n/\KY L d1:=by obtain⟨⟨x,d1⟩,h1,h2,h3,h4⟩:=AmF N hL hd n hn hn';have h2:0<=x:=h2;have h3:x<(n:Int):=h3;refine⟨x.toNat,d1,?_,by omega,h4⟩;rw[h1,show((x.toNat:Nat):Int)=x by omega]
def Abc {α :Type} (l:List α) (a b:Nat):(JD l a b).length=min b l.length - a:=by show((l.take b).drop a).length=_;rw[Ew,Eb]
def As9 (x:Int):List.all ([u8.wrap x]:List Int) isByte=true:=by simp [PY]
def Ayy (a:Nat) (h:a<256):JF .andNot .i64 (a:Int) 31=((a / 32*32:Nat):Int):=by
 have: ∀ a:Fin 256,JF .andNot .i64 ((a.val:Nat):Int) 31=((a.val / 32*32:Nat):Int):=by decide +kernel
 exact this ⟨a,h⟩
def A27 (a:Nat) (h:a<256):JF .and .i64 (a:Int) 224=((a / 32*32:Nat):Int):=by
 have: ∀ a:Fin 256,JF .and .i64 ((a.val:Nat):Int) 224=((a.val / 32*32:Nat):Int):=by decide +kernel
 exact this ⟨a,h⟩
def Sr (r k:Nat):(((r:Nat):Int)==((k:Nat):Int))=decide (r=k):=by
 by_cases h:r=k
 .simp [h]
 .simp [h];omega
def Dam (L:List Int) (n:Nat) (o:Option (Bs×List Int×Int)):Prop:= ∃(r:Bs) (d:List Int×Int),o=some (r,d)/\KY L d/\r.length<=n
def Dam.mono {L:List Int} {n m:Nat} {o:Option (Bs×List Int×Int)} (h:Dam L n o) (hm:n<=m):Dam L m o:=by obtain⟨r,d,h1,h2,h3⟩:=h;exact⟨r,d,h1,h2,by omega⟩
def Amo (N:Nat) {L:List Int} (hL:L.length<=9223372036854775807) {d:List Int×Int} (hd:KY L d) (s:Bs) (hs:s.length<=1073741824):Dam L (s.length+1) (X6 N d s):=by
 unfold X6;try simp -zeta only[Ap]
 by_cases h:s=[]
 .subst h;exact⟨[],d,rfl,hd,by simp⟩
 .have hp:=vX h;rw[AiV,Dw h,cond_false];obtain⟨i,d1,h1,hi,hd1⟩:=Y7 N hL hd s.length hp (by omega);rw[h1,Jt];dsimp only;obtain⟨x,d2,h2,hx,hd2⟩:=Y7 N hL hd1 256;rw[show(256:Int)=((256:Nat):Int)from rfl,h2,Jt];dsimp only;rw[As9,JI];obtain⟨k,d3,h3,hk,hd3⟩:=Y7 N hL hd2 5;rw[show(5:Int)=((5:Nat):Int)from rfl,h3,Jt];dsimp only;rw[w64 (x:=(i:Int)+1),show((i:Int)+1).toNat=i+1 by omega,show(i:Int).toNat=i from rfl];have hone:(List.map Vm.byteOf ([u8.wrap (x:Int)]:List Int)).length=1:=rfl;have c1:=Abc s 0 i;have c2:=Abc s (i+1) s.length;have c3:=Abc s i s.length;generalize List.map Vm.byteOf ([u8.wrap (x:Int)]:List Int)=one at hone ⊢;rw[show decide ((0:Int)<=(i:Int))=true from Di,show decide ((i:Int)<=(s.length:Int))=true from Di,show decide ((0:Int)<=(i:Int)+1)=true from Di,show decide ((i:Int)+1<=(s.length:Int))=true from Di];simp only[JI];rw[show((k:Int)==0)=decide (k=0)from Sr k 0,show((k:Int)==1)=decide (k=1)from Sr k 1,show((k:Int)==2)=decide (k=2)from Sr k 2,show((k:Int)==3)=decide (k=3)from Sr k 3];simp only[O8,TL];by_cases k0:k=0
  .rw[Dn k0,A52,Dn (by simp;omega)];exact⟨_,d3,rfl,hd3,by simp;omega⟩
  rw[Dk k0];by_cases k1:k=1
  .rw[Dn k1,A52,Dn (by simp;omega)];exact⟨_,d3,rfl,hd3,by simp;omega⟩
  rw[Dk k1];by_cases k2:k=2
  .rw[Dn k2,A52];exact⟨_,d3,rfl,hd3,by simp;omega⟩
  rw[Dk k2];by_cases k3:k=3
  .rw[Dn k3];exact⟨_,d3,rfl,hd3,by omega⟩
  rw[Dk k3];exact⟨_,d3,rfl,hd3,by omega⟩
def uF (N t:Nat) (c:Bs) (ht:t<256) (h31:t % 32≠31) (hN:1<N) (hs:c.length<=140737488355328): ∃ r,JV N (t:Int) ([c]:List Bs)=some r/\r.length<=c.length+5:=by
 unfold JV;have hf:([c]:List Bs).flatten=c:=by simp
 rw[jZ N t [c] ht h31 (by simpa using hN) (by simp) (by rw[hf];exact hs),Jt,hf];refine⟨_,rfl,?_⟩;show((NM t c).getD []).length<=_;unfold NM;split
 .exact Sp.JM t c
 .simp
def AgS (N:Nat) {L:List Int} (hL:L.length<=9223372036854775807) {d:List Int×Int} (hd:KY L d) (s:Bs) (hs:s.length<=1073741824:=by omega) (hN:1<N:=by omega):Dam L (s.length+5) (Qy N d s):=by
 unfold Qy;try simp -zeta only[Ap]
 rw[O8];by_cases h:s.length<2
 .rw[A52];exact⟨s,d,rfl,hd,by omega⟩
 .rw[A51,show decide ((2:Int)<=(s.length:Int))=true from Di,show decide ((0:Int)<(s.length:Int))=true from Di];simp only[JI];obtain⟨k,d1,h1,hk,hd1⟩:=Y7 N hL hd 6;rw[show(6:Int)=((6:Nat):Int)from rfl,h1,Jt];dsimp only;rw[show((k:Int)==0)=decide (k=0)from Sr k 0,show((k:Int)==1)=decide (k=1)from Sr k 1,show((k:Int)==2)=decide (k=2)from Sr k 2,show((k:Int)==3)=decide (k=3)from Sr k 3,show((k:Int)==4)=decide (k=4)from Sr k 4];simp only[O8];have c2:=Abc s 2 s.length;have hb:(s.getD 0 0).toNat<256:=Ib _;by_cases k0:k=0
  .rw[Dn k0];obtain⟨j,d2,h2,hj,hd2⟩:=Y7 N hL hd1 31;rw[show(31:Int)=((31:Nat):Int)from rfl,h2,Jt];dsimp only;obtain⟨r,hr,hrl⟩:=uF N j (JD s 2 s.length) (by omega) (by omega) hN (by omega);rw[hr,Jt];exact⟨r,d2,rfl,hd2,by omega⟩
  rw[Dk k0];by_cases k1:k=1
  .rw[Dn k1,w64,Ayy _ hb];obtain⟨r,hr,hrl⟩:=uF N ((s.getD 0 0).toNat / 32*32) (JD s 2 s.length) (by omega) (by omega) hN (by omega);rw[hr,Jt];exact⟨r,d1,rfl,hd1,by omega⟩
  rw[Dk k1];by_cases k2:k=2
  .rw[Dn k2,w64,A27 _ hb];obtain⟨r,hr,hrl⟩:=uF N ((s.getD 0 0).toNat / 32*32) [] (by omega) (by omega) hN (by simp);rw[hr,Jt];exact⟨r,d1,rfl,hd1,by simp at hrl;omega⟩
  rw[Dk k2];by_cases k3:k=3
  .rw[Dn k3];obtain⟨x,d2,h2,hx,hd2⟩:=Y7 N hL hd1 256;rw[show(256:Int)=((256:Nat):Int)from rfl,h2,Jt];dsimp only;rw[As9,JI];exact⟨_,d2,rfl,hd2,by show 3<=_;omega⟩
  rw[Dk k3];by_cases k4:k=4
  .rw[Dn k4];exact⟨_,d1,rfl,hd1,by show 2<=_;omega⟩
  rw[Dk k4];obtain⟨r,d2,h2,hd2,hl⟩:=Amo N hL hd1 s hs;rw[h2,Jt];exact⟨r,d2,rfl,hd2,by omega⟩
def A4s {s:Bs} (h:Sp.err s=0):Sp.tag s % 32≠31:=by
 intro h31;cases s with
 | nil=>unfold Sp.err Sp.rd Sp.head at h;simp at h
 | cons t r =>have h31':t.toNat % 32=31:=h31;unfold Sp.err Sp.rd Sp.head at h;simp [h31']at h
def Aw5 {l:List El} {i:Nat} (hi:i<l.length):((l.take i).map (·.2.2)).flatten.length+(l.getD i (0,[],[])).2.2.length=((l.take (i+1)).map (·.2.2)).flatten.length:=by rw[take_snoc hi,EX,EZ,Dp];congr 1;rw[show l.getD i (0,[],[])=l[i] by simp [Dj,hi]];simp
def Ajc (l:List Bs) (i:Nat):(l.take i).flatten.length<=l.flatten.length:=by
 conv=>rhs;rw[<- GH i l,EZ,Dp]
 omega
def Atg (l:List El) (i:Nat):((l.take i).map (·.2.2)).flatten.length<=(l.map (·.2.2)).flatten.length:=by rw[List.map_take];exact Ajc _ i
set_option maxRecDepth 4000 in
def AvS (N:Nat) {L:List Int} (hL:L.length<=9223372036854775807) (hN:4<N): ∀(n:Nat) (s:Bs),s.length<n->s.length<N->s.length<=1048576-> ∀ d:List Int×Int,KY L d->Dam L (4*s.length+10) (X7 N n d s):=by
 intro n
 induction n with
 | zero=>intro s h;omega
 | succ n ih =>
  intro s hn hsN hs d hd;show Dam L _ (Yl N (X7 N n) d s);unfold Yl;try simp -zeta only[Ap]
  have hrep:=(AgS N hL hd s).mono (show s.length+5<=4*s.length+10 by omega);have hrep':Dam L (4*s.length+10) (Jr (Qy N d s) fun r29=>some (r29.1,r29.2)):=by obtain⟨r,d',h1,h2,h3⟩:=hrep;rw[h1,Jt];exact⟨r,d',rfl,h2,h3⟩
  rw[rM N s hN (by omega),Jt];simp only[Ad0,AkB,Tj];by_cases h1:Sp.NP s=0
  .have he:=(VT h1).1;have ho:KH s=(KZ s,0):=by unfold KH;rw[Dn h1]
   rw[ho];dsimp only;rw[show((0:Int) != 0)=false from rfl,cond_false,Qg];split
   .exact hrep'
   .have hrd:=Sp.nH s he;have hcl:=Sp.zJ s he;have hgl:=KR (Sp.content s);have hec:(KZ s).2.1=Sp.content s:=rfl;rw[hec,AnJ N _ hN (by omega) (by omega),Jt];have hcs:(Sp.content s).length+2<=s.length:=by omega
    generalize JQ (Sp.content s)=q at hgl ⊢;by_cases h3:q.2=0
    .rw[Adr,Dw (show ¬(q.2≠0)from fun h=>h h3),cond_false,Ars,O8];by_cases h4:q.1=[]
     .rw[Dn h4];exact hrep'
     .rw[Dk h4];have hql:=hgl.len;have hraws:=hgl.AzN;obtain⟨j,d1,e1,hj,hd1⟩:=Y7 N hL hd q.1.length (vX h4) (by omega);rw[e1,Jt];dsimp only;obtain⟨m,d2,e2,hm,hd2⟩:=Y7 N hL hd1 8;rw[show(8:Int)=((8:Nat):Int)from rfl,e2,Jt];dsimp only;refine QE (fun x=> ∃ i:Nat,x.2.1=(i:Int)/\i<=q.1.length/\KY L (x.2.2.1,x.2.2.2.1)/\x.2.2.2.2=(KZ s)/\x.1.length<=((q.1.take i).map (·.2.2)).flatten.length+(if j<i then 3*(Sp.content s).length+10 else 0)) (fun x=>q.1.length - x.2.1.toNat) (Dam L (4*s.length+10)) ?_ N _ ⟨0,rfl,by omega,hd2,rfl,by simp⟩ (by show q.1.length - 0<N;omega);rintro ⟨acc,t,L1,k1,ee⟩ ⟨i,ht,hi,hdk,hee,hacc⟩ K hK;dsimp only at ht hdk hee hacc hK;subst ht;subst hee;have htake:=Atg q.1 i;dsimp only[U7,KZ];rw[O8];by_cases hlt:i<q.1.length
      .rw[A52,show decide ((0:Int)<=(i:Int))=true from Di,show decide ((i:Int)<(q.1.length:Int))=true from Di,JI,JI,w64,show(i:Int).toNat=i from rfl];have hgood:=hgl.all _ (getD_mem ((0,[],[]):El) hlt);have hcon:=hgood.content;have hstep:=Aw5 hlt;have hnext:=Atg q.1 (i+1);generalize q.1.getD i (0,[],[])=e at hgood hcon hstep ⊢
       have add:i=j-> ∀(u:Bs) (L2:List Int) (k2:Int),KY L (L2,k2)->u.length<=4*e.2.2.length+10 ->
        Dam L (4*s.length+10) (Vm.chk (decide (acc.length+u.length<=140737488355328)) (K (acc++u,(i:Int)+1,L2,k2,(Sp.tag s:Int),Sp.content s,Sp.raw s))):=by
        intro hij u L2 k2 hdu hu;rw[A51]at hacc;rw[TL,A52];refine hK _ ⟨i+1,by show(i:Int)+1=((i+1:Nat):Int);omega,by omega,hdu,rfl,?_⟩ (by show q.1.length - ((i:Int)+1).toNat<q.1.length - (i:Int).toNat;omega);show(acc++u).length<=_;rw[A52,Dp];omega
       by_cases hij:i=j
       .rw[show((i:Int) != (j:Int))=false by rw[hij];simp,cond_false];rw[show((m:Int)==0)=decide (m=0)from Sr m 0,show((m:Int)==1)=decide (m=1)from Sr m 1,show((m:Int)==2)=decide (m=2)from Sr m 2,O8,O8,O8];by_cases m0:m=0
        .rw[Dn m0,TL,A52];exact add hij _ _ _ hdk (by rw[Dp];omega)
        rw[Dk m0];by_cases m1:m=1
        .rw[Dn m1];have:=add hij [] _ _ hdk (by simp);rw[TL,Dn (by rw[A51]at hacc;simp;omega),DX]at this;exact this
        rw[Dk m1];by_cases m2:m=2
        .rw[Dn m2];obtain⟨r,d3,g1,g2,g3⟩:=AgS N hL hdk e.2.2;rw[g1,Jt];exact add hij r d3.1 d3.2 g2 (by omega)
        rw[Dk m2];obtain⟨r,d3,g1,g2,g3⟩:=ih e.2.2 (by omega) (by omega) (by omega) _ hdk;rw[g1,Jt];exact add hij r d3.1 d3.2 g2 g3
       .rw[show((i:Int) != (j:Int))=true by simp;omega,cond_true,TL,Dn (by split at hacc<;>omega)];refine hK _ ⟨i+1,by show(i:Int)+1=((i+1:Nat):Int);omega,by omega,hdk,rfl,?_⟩ (by show q.1.length - ((i:Int)+1).toNat<q.1.length - (i:Int).toNat;omega);show(acc++e.2.2).length<=_;rw[Dp];by_cases hji:j<i
        .rw[Dn hji]at hacc;rw[A52];omega
        .rw[Dk hji]at hacc;rw[A51];omega
      .rw[A51];dsimp only[U6];obtain⟨r,g1,g2⟩:=uF N (Sp.tag s) acc (AaN s) (A4s he) (by omega) (by split at hacc<;>omega);rw[g1,Jt];exact⟨r,_,rfl,hdk,by split at hacc<;>omega⟩
    .rw[Adr,Di h3];exact hrep'
  .have ho:KH s=((0,[],[]),Sp.NP s):=by unfold KH;rw[Dk h1]
   rw[ho];dsimp only;rw[Adr,Di h1];exact hrep'
def Aen (n:List (List Att)):Prop:=n.length<=1048576/\ ∀ r∈n,r.length<=1048576
def Ao0 (l:List Gn):Prop:=l.length<=1048576/\ ∀ g∈l,Aen g.2.2
def AzR (e:El) (he:e.2.1.length<=1048576):(Xu e).1.length<=1048576:=by
 have hg:Good 1048576 (JQ e.2.1).1:=(KR e.2.1).mono he;have hz: ∀ x:Int,(([],x):List Att×Int).1.length<=1048576:=fun x=>by show 0<=_;omega
 refine Na (P:=fun r:List Att×Int=>r.1.length<=1048576) (hz _) fun _=> ?_;refine Na (P:=fun r:List Att×Int=>r.1.length<=1048576) (hz _) fun _=> ?_;refine Na (P:=fun r:List Att×Int=>r.1.length<=1048576) (hz _) fun _=> ?_;refine Na (P:=fun r:List Att×Int=>r.1.length<=1048576) (hz _) fun _=> ?_;show((JQ e.2.1).1.map _).length<=_;rw[Dz];exact hg.len
def AlA (r:List (List Att)×Int):Prop:=Aen r.1
def dC:Aen []:=⟨DN _,fun r h=>(by cases h)⟩
def ApY (s:Bs) (hs:s.length<=1048576):Aen (nmD s).1:=by
 have hc:=QR s;have hg:Good 1048576 (JQ (KH s).1.2.1).1:=(KR _).mono (by omega);have hz: ∀ x:Int,AlA ([],x):=fun x=>dC;refine Na (P:=AlA) (hz _) fun _=>Na (P:=AlA) (hz _) fun _=>Na (P:=AlA) (hz _) fun _=>Na (P:=AlA) (hz _) fun _=>Na (P:=AlA) (hz _) fun _=>⟨?_,fun r hr=> ?_⟩
 .show((JQ (KH s).1.2.1).1.map _).length<=_;rw[Dz];exact hg.len
 .obtain⟨x,hx,rfl⟩:=DI.1 hr;exact AzR x (by have:=(hg.all x hx).content;omega)
def Ap4 (g:Gn) (c:Bool) (h:Aen g.2.2):Aen (gnC g c).1.2.2:=by
 unfold gnC;cases P6 g c != 0 with
 | true=>exact dC
 | false=>exact h
def Azh (e:El) (c:Bool) (he:e.2.1.length<=1048576):Aen (gnD e c).1.2.2:=by
 unfold gnD;cases e.1==129||e.1==130||e.1==135 with
 | true=>exact Ap4 _ _ dC
 | false =>
  cases e.1==164 with
  | false=>exact dC
  | true =>
   cases (nmD e.2.1).2 != 0 with
   | true=>exact dC
   | false=>exact Ap4 _ _ (ApY _ he)
def Aqg (r:List Gn×Int):Prop:=Ao0 r.1
def Axx:Ao0 []:=⟨DN _,fun r h=>(by cases h)⟩
def Aux (s:Bs) (hs:s.length<=1048576):Ao0 (RQ s).1:=by
 have hg:Good 1048576 (JQ s).1:=(KR s).mono hs;have hz: ∀ x:Int,Aqg ([],x):=fun x=>Axx;refine Na (P:=Aqg) (hz _) fun _=>Na (P:=Aqg) (hz _) fun _=>Na (P:=Aqg) (hz _) fun _=>Na (P:=Aqg) (hz _) fun _=>⟨?_,fun r hr=> ?_⟩
 .show((JQ s).1.map _).length<=_;rw[Dz];exact hg.len
 .obtain⟨x,hx,rfl⟩:=DI.1 hr;exact Azh x false (by have:=(hg.all x hx).content;omega)
def cpN (n:List (List Att)):Prop:=Ua n/\Aen n
def cp0:cpN []:=⟨fun p hp=>(by cases hp),dC⟩
section
variable {N:Nat} (hN:1048578<N)
include hN
theorem xZ (s:Bs) (t:Int) (hs:s.length<=1048576):Ends (fun _=>True) (Vh N s t):=by unfold Vh;have hl:=VU s t;rw[SK N s t hN hs,Jt];refine Jv (fun _=>Ju trivial) (fun _=> ?_);rw[wB N _ (by omega) (by omega),Jt];exact Ju trivial
theorem ArC (s:Bs) (hs:s.length<=1048576):Ends (fun _=>True) (dX N s):=by unfold dX;have hl:=QR s;rw[UR N s,Jt];exact Jv (fun _=>Ju trivial) (fun _=>Jz (Agv N hN _ _ (by omega)) fun _ _=>Ju trivial)
theorem Anm (s:Bs) (hs:s.length<=1048576):Ends (fun r=>cpN r.1) (RZ N s):=by
 unfold RZ;try simp only[clR]
 have hl:=VU s 48;rw[SK N s 48 hN hs,Jt];refine Jv (fun _=>Ju cp0) (fun _=> ?_);rw[RF N _ hN,Jt];have hG:OE (RQ (ML s 48).1.2.1).1/\Ao0 (RQ (ML s 48).1.2.1).1:=⟨(mW (ML s 48).1.2.1).1,Aux _ (by omega)⟩
 generalize RQ (ML s 48).1.2.1=r at hG ⊢;obtain⟨l,e⟩:=r;dsimp only at hG ⊢;refine Jv (fun _=>Ju cp0) (fun _=> ?_);cases l with
 | nil=>exact Ju cp0
 | cons a r =>rw[Di (show(0:Int)<(((a::r).length:Nat):Int) by rw[List.length_cons];omega)];simp only[DU,JI];exact Jv (fun _=>Ju cp0) (fun _=>Ju ⟨(hG.1 a Dv).2,hG.2.2 a Dv⟩)
theorem Ahv (s:Bs) (hs:s.length<=1048576):Ends (fun r=>r.1.length<=1048576) (QX N s):=by
 have z:([]:Bs).length<=1048576:=DN _;unfold QX;rw[uD N s hN hs];have hg:=wR s hs;refine Jv (fun h=> ?_) (fun h=> ?_)
 .dsimp only;rw[h];exact Ju z
 .refine Jv (fun _=>Ju z) (fun _=> ?_);refine Jz (dB hg 128) fun v hv=>Jv (fun _=>Ju z) (fun _=>Jv (fun _=>Ju z) (fun _=> ?_));have h1:=hv.1.1;exact Jz (pV _) fun _ _=>Ju (Q:=fun r:Bs×Int=>r.1.length<=1048576) h1
theorem Ap3 (s:Bs) (hs:s.length<=1048576):Ends (fun r=>OE r.1.1/\rg r.1.2.2.2.1) (YW N s):=by
 have z0:OE []:=fun g hg=>by cases hg
 have r0:rg 0:=by unfold rg;omega
 have z:OE []/\rg 0:=⟨z0,r0⟩
 unfold YW;rw[uD N s hN hs];have hg:=wR s hs;refine Jv (fun h=> ?_) (fun h=> ?_)
 .dsimp only;rw[h];exact Ju z
 .refine Jv (fun _=>Ju z) (fun _=> ?_);refine KE (P:=fun x=>OE x.1/\Good 1048576 x.2) (fun j hj=> ?_) ?_
  .refine Jz (Aah hg 160) fun v hv=>Jv (fun _=> ?_) (fun _=>hj _ ⟨z0,hv.2⟩);have hl:=VU v.1.2.1 160;have h1:=hv.1.1;rw[SK N _ 160 hN h1,Jt];refine Jv (fun _=>Ju z) (fun _=> ?_);rw[RF N _ hN,Jt];have hG:OE (RQ (ML v.1.2.1 160).1.2.1).1:=(mW _).1;exact Jv (fun _=>Ju z) (fun _=>hj _ ⟨hG,hv.2⟩)
  .rintro ⟨gs,l⟩ ⟨h1,h2⟩;dsimp only[U2]at h1 h2 ⊢;refine Jz (Ahr h2 129) fun v hv=>Jv (fun _=>Ju z) (fun _=>Jz (Ahr hv 130) fun w hw=>Jv (fun _=>Ju z) (fun _=> ?_));refine KE (P:=fun x=>OE x.1/\Good 1048576 x.2.2.2.2/\rg x.2.2.2.1) (fun j hj=> ?_) ?_
   .refine Jz (Aah hw 131) fun q hq=>Jv (fun _=> ?_) (fun _=>hj _ ⟨h1,hq.2,r0⟩);rw[Ac4 N _ hN hq.1.1,Jt];exact Jv (fun _=>Ju z) (fun _=>Jv (fun _=>Ju z) (fun _=>hj _ ⟨h1,hq.2,Am3 _⟩))
   .rintro ⟨a,b,c,d,l2⟩ ⟨h3,h4,h5⟩;dsimp only[U5]at h3 h4 h5 ⊢;exact Jz (Ahr h4 132) fun v hv=>Jv (fun _=>Ju z) (fun _=>Jz (pV _) fun _ _=>Ju ⟨h3,h5⟩)
theorem AgT {l:List El} (hg:Good 1048576 l):Ends (fun r=>Good 1048576 r.2.2) (YZ N l):=by unfold YZ;refine Jz (dB hg 2) fun v hv=>Jv (fun _=>Ju hv.2) (fun _=> ?_);rw[wB N _ (by omega) hv.1.1,Jt];exact Ju hv.2
theorem Afc {l:List El} (hg:Good 1048576 l):Ends (fun r=>Good 1048576 r.2.2) (bK N l):=by unfold bK;exact Jz (Afv hg) fun v hv=>Jv (fun _=>Ju hv.2) (fun _=>Jz (Agv N hN _ _ hv.1.1) fun _ _=>Ju hv.2)
theorem As7 {e:El} (he:smE e):Ends (fun _=>True) (LJ N e):=by
 unfold LJ;try simp only[clR]
 refine Jv (fun _=>Ju trivial) (fun _=> ?_);have h1:=he.1;rw[MK N e.2.1,Jt];have hg:Good 1048576 (JQ e.2.1).1:=(KR e.2.1).mono he.1;generalize JQ e.2.1=r at hg ⊢;obtain⟨l,er⟩:=r;dsimp only at hg ⊢;refine Jv (fun _=>Ju trivial) (fun _=> ?_);cases l with
 | nil=>exact Ju trivial
 | cons a r =>have ha:=(Q5 (hg.all a Dv)).1;rw[show(((a::r).length:Int)==0)=false from MO (by rw[List.length_cons];omega),cond_false];refine J9 (Di (by rw[List.length_cons];omega)) (Jv (fun _=>Ju trivial) (fun _=>J9 (Di (by rw[List.length_cons];omega)) ?_));rw[Eh,Su N a.2.1 ha,Jt];exact Jv (fun _=>Ju trivial) (fun _=>Jv (fun _=>Ju trivial) (fun _=>Ju trivial))
theorem AhP {l:List El} (hg:Good 1048576 l):Ends (fun r=>Good 1048576 r.2) (Qu N l):=by unfold Qu;exact Jz (Afv hg) fun v hv=>Jv (fun _=>Ju hv.2) (fun _=>Jz (As7 hN hv.1) fun _ _=>Ju hv.2)
theorem AqE {l:List El} (hg:Good 1048576 l):Ends (fun r=>Good 1048576 r.2.2) (Si N l):=by unfold Si;refine Jz (dB hg 3) fun v hv=>Jv (fun _=>Ju hv.2) (fun _=> ?_);rw[rC N _ hv.1.1,Jt];exact Jv (fun _=>Ju hv.2) (fun _=>Jv (fun _=>Ju hv.2) (fun _=>Ju hv.2))
theorem Aof (e:Yq3) (x:Ex) (he:cpN e.2.2.2.2) (hx:NH x):Ends (fun r=>cpN r.2.2.2.2.2) (XN N e x):=by
 unfold XN;try simp -zeta only[Ap]
 refine Jv (fun _=>Ju he) (fun _=>Jv (fun _=> ?_) (fun _=>Jv (fun _=> ?_) (fun _=>Jv (fun _=> ?_) (fun _=>Ju he))))
 .exact Jz (xZ hN _ 10 hx.2) fun _ _=>Ju he
 .exact Jz (ArC hN _ hx.2) fun _ _=>Ju he
 .exact Jz (Anm hN _ hx.2) fun v hv=>Ju hv
end
def Abj (e:Yq3):Prop:=cpN e.2.2.2.2
def TE (is:List (List Att)) (ak:Bs) (ns:List Gn) (fr:List Pt) (en:List Yq3):Prop:=cpN is/\ak.length<=1048576/\OE ns/\(∀ p∈fr,Qr p)/\en.length<=1048576/\ ∀ e∈en,Abj e
def OkD (l:Yq4):Prop:=TE l.2.2.1 l.2.2.2.2.2.2.2.1 l.2.2.2.2.2.2.2.2.2.1 l.2.2.2.2.2.2.2.2.2.2.2.2.2.2.1 l.2.2.2.2.2.2.2.2.2.2.2.2.2.2.2.1
def okQ (r:List Pt×Int):Prop:= ∀ p∈r.1,Qr p
def Asb (s:Bs) (hs:s.length<=1048576): ∀ p∈(Aqq s).1,Qr p:=by
 have hl:=VU s 48;have hg:Good 1048576 (JQ (ML s 48).1.2.1).1:=(KR _).mono (by omega);have hz: ∀ e:Int,okQ ([],e):=fun e p hp=>by cases hp
 unfold Aqq psD;refine Na (P:=okQ) (hz _) fun _=>Na (P:=okQ) (hz _) fun _=>Na (P:=okQ) (hz _) fun _=>Na (P:=okQ) (hz _) fun _=>Na (P:=okQ) (hz _) fun _=>fun p hp=> ?_;obtain⟨e,he,rfl⟩:=DI.1 hp;have:=(hg.all e he).content;exact Am2 (by omega)
def left_eq' (N:Nat) (l:List El):OU N l=some ((l.length:Int),l):=rfl
def OkW (A B:Bs) (l:Yq4):Prop:=l.1=A/\l.2.1=B/\OkD l/\rg l.2.2.2.2.2.2.2.2.2.2.2.2.1
section
variable {N:Nat} (hN:1048578<N)
include hN
theorem AyG (n:List (List Att)) (hn:cpN n):Ends (fun r=>r=n) (VG N n):=by
 have hl:=hn.2.1;unfold VG;try simp -zeta only[Ap]
 refine KP (fun(x:Int×List (List Att))=>0<=x.1/\x.1<=(n.length:Int)/\x.2=n.take x.1.toNat) (fun x=>((n.length:Int) - x.1).toNat) ?_ N _ ⟨by dsimp only;omega,by dsimp only;omega,rfl⟩ (by dsimp only;omega);rintro ⟨i,M⟩ ⟨i0,i1,i2⟩ c hc;dsimp only at i0 i1 i2 hc;dsimp only[U2];refine Jv (fun h=> ?_) (fun h=> ?_)
 .have h:i<(n.length:Int):=D6 h;have hi:i.toNat<n.length:=by omega
  have hr:=hn.2.2 _ (getD_mem ([]:List Att) hi);have hM:M.length<=1048576:=by rw[i2,Eb];omega
  refine J9 (Di i0) (J9 (Di h) (J9 (Di) (J9 (Di) ?_)));rw[w64 (x:=i+1)];refine hc _ ⟨by dsimp only;omega,by dsimp only;omega,?_⟩ (by dsimp only;omega);dsimp only;rw[i2,show(i+1).toNat=i.toNat+1 by omega,FO,DD hi,getD_lt n i.toNat _ hi];rfl
 .have h: ¬ i<(n.length:Int):=DY h;refine Ju ?_;rw[i2,show i.toNat=n.length by omega,ED]
theorem Aw8 {l:List El} (hg:Good 1048576 l) (n:List (List Att)) (hn:cpN n):Ends (fun r=>Abj r.1) (Vz N l n):=by
 have z:Abj (0,0,0,0,[]):=cp0;unfold Vz;try simp -zeta only[Ap]
 refine Jz (AyG hN n hn) fun m hm=> ?_;subst hm;refine Jz (AgT hN hg) fun a ha=>Jv (fun _=>Ju z) (fun _=>Jz (Afc hN ha) fun b hb=>Jv (fun _=>Ju z) (fun _=> ?_));refine KE (P:=fun x=>cpN x.2.2.2.2.2) (fun j hj=> ?_) ?_
 .refine Jz (Aah hb 48) fun q hq=>Jv (fun _=> ?_) (fun _=>hj _ hn);refine Jz (Agy hN _ hq.1.2) fun xs hxs=>Jv (fun _=>Ju z) (fun _=> ?_);obtain⟨xs,er⟩:=xs;dsimp only at hxs ⊢;have hl:=hxs.2;refine KP (fun(x:Int×List El×Yq3)=>0<=x.1/\x.1<=(xs.length:Int)/\Abj x.2.2) (fun x=>((xs.length:Int) - x.1).toNat) ?_ N _ ⟨by dsimp only;omega,by dsimp only;omega,hn⟩ (by dsimp only;omega);rintro ⟨i,l2,e0,e1,e2,e3,e4⟩ ⟨i0,i1,i2⟩ c hc;dsimp only at i0 i1 i2 hc;dsimp only[U7];refine Jv (fun h=> ?_) (fun _=> ?_)
  .have h:i<(xs.length:Int):=D6 h;have hx:=hxs.1 _ (getD_mem (([],false,[]):Ex) (show i.toNat<xs.length by omega));refine J9 (Di i0) (J9 (Di h) (Jz (Aof hN (e0,e1,e2,e3,e4) _ i2 hx) fun v hv=>Jv (fun _=>Ju z) (fun _=> ?_)));rw[w64 (x:=i+1)];exact hc _ ⟨by dsimp only;omega,by dsimp only;omega,hv⟩ (by dsimp only;omega)
  .dsimp only[U6];exact hj _ i2
 .rintro ⟨l2,e1,e2,e3,e4,e5⟩ h5;dsimp only[U6]at h5 ⊢;exact Jz (pV _) fun v _=>Jv (fun _=>Ju z) (fun _=>Ju h5)
theorem Ar4 (s:Bs) (hs:s.length<=1048576) (n:List (List Att)) (hn:cpN n):Ends (fun r=>r.1.length<=1048576/\ ∀ e∈r.1,Abj e) (TB N s n):=by
 have z:([]:List Yq3).length<=1048576/\ ∀ e∈([]:List Yq3),Abj e:=⟨DN _,fun e he=>by cases he⟩
 unfold TB;try simp -zeta only[Ap]
 rw[Acm hN s hs];have hg:Good 1048576 (JQ s).1:=(KR s).mono hs;generalize JQ s=r at hg ⊢;obtain⟨l,er⟩:=r;dsimp only at hg ⊢;have hlen:=hg.len;refine Jv (fun h=>by rw[h];exact Ju z) (fun _=>Jv (fun _=>Ju z) (fun _=> ?_));rw[left_eq' N l,Jt];refine Jv (fun _=>Ju z) (fun _=> ?_);refine KP (fun(x:List (List Att)×List El×List Yq3)=>cpN x.1/\Good 1048576 x.2.1/\x.2.2.length+x.2.1.length<=l.length/\ ∀ e∈x.2.2,Abj e) (fun x=>x.2.1.length) ?_ N _ ⟨hn,hg,by simp,z.2⟩ (by dsimp only;omega);rintro ⟨m,l2,acc⟩ ⟨h1,h2,h3,h4⟩ c hc;dsimp only at h1 h2 h3 h4 hc;dsimp only[U3];rw[left_eq' N l2,Jt];dsimp only;cases l2 with
 | nil=>exact Ju ⟨by show acc.length<=_;omega,h4⟩
 | cons e r2 =>
  have he:=Q5 (h2.all e Dv);have h2':=h2.tail;rw[show decide (((e::r2).length:Int)>0)=true from Di (by rw[List.length_cons];omega),cond_true,Amq N e r2 hN he.1];have hg3:Good 1048576 (JQ e.2.1).1:=(KR e.2.1).mono he.1;rw[List.length_cons]at h3;by_cases t1:e.1=48
  .rw[YQ t1,cond_false];cases t2:(JQ e.2.1).2 != 0 with
   | true =>rw[cond_true,QN];dsimp only;rw[t2];exact Ju z
   | false =>
    rw[cond_false,Uf];refine Jv (fun _=>Ju z) (fun _=>Jz (Aw8 hN hg3 m h1) fun v hv=>Jv (fun _=>Ju z) (fun _=>J9 (Di) ?_));refine hc _ ⟨hv,h2',?_,OX h4 hv⟩ ?_
    .dsimp only;rw[Dp];show acc.length+1+r2.length<=_;omega
    .dsimp only;rw[List.length_cons];omega
  .rw[UU t1,cond_true,QN];exact Ju z
theorem AqQ {A B:Bs} (l:Yq4) (x:Ex) (hl:OkW A B l) (hx:NH x):Ends (fun r=>OkW A B r.2) (Zc N l x):=by
 obtain⟨a,b,c,d,e,f,g,h,i,j,k,m,n,o,p,q,r⟩:=l;obtain⟨rfl,rfl,hl0,hr0⟩:=hl;have hr:rg n:=hr0;have hw:OkW a b (a,b,c,d,e,f,g,h,i,j,k,m,n,o,p,q,r):=⟨rfl,rfl,hl0,hr⟩
 have hl:TE c h j p q:=hl0;unfold Zc;try simp only[clR]
 refine Jv (fun _=>Ju hw) (fun _=>Jv (fun _=> ?_) (fun _=>Jv (fun _=> ?_) (fun _=>Jv (fun _=> ?_) (fun _=>Jv (fun _=> ?_) (fun _=>Jv (fun _=> ?_) (fun _=>Ju hw))))))
 .exact Jz (Ahv hN _ hx.2) fun v hv=>Ju ⟨rfl,rfl,(show TE c v.1 j p q from⟨hl.1,hv,hl.2.2⟩),hr⟩
 .exact Jz (xZ hN _ 2 hx.2) fun v _=>Ju ⟨rfl,rfl,(show TE c h j p q from hl),hr⟩
 .exact Jz (xZ hN _ 2 hx.2) fun v _=>Ju ⟨rfl,rfl,(show TE c h j p q from hl),hr⟩
 .exact Jz (Ap3 hN _ hx.2) fun v hv=>Ju ⟨rfl,rfl,(show TE c h v.1.1 p q from⟨hl.1,hl.2.1,hv.1,hl.2.2.2⟩),hv.2⟩
 .rw[sS N _ hN hx.2,Jt];exact Ju ⟨rfl,rfl,(show TE c h j (Aqq x.2.2).1 q from⟨hl.1,hl.2.1,hl.2.2.1,Asb _ hx.2,hl.2.2.2.2⟩),hr⟩
theorem Aza {A B:Bs} (l:Yq4) (s:Bs) (hl:OkW A B l) (hs:s.length<=1048576):Ends (fun r=>OkW A B r.2) (QD N l s):=by
 obtain⟨a,b,c,d,e,f,g,h,i,j,k,m,n,o,p,q,r⟩:=l;obtain⟨rfl,rfl,hl0,hr0⟩:=hl;have hr:rg n:=hr0;have hw:OkW a b (a,b,c,d,e,f,g,h,i,j,k,m,n,o,p,q,r):=⟨rfl,rfl,hl0,hr⟩
 have hl:TE c h j p q:=hl0;unfold QD;try simp -zeta only[Ap]
 refine Jz (Agy hN s hs) ?_;rintro ⟨xs,er⟩ ⟨h1,h2⟩;dsimp only at h1 h2 ⊢;refine Jv (fun _=>Ju hw) (fun _=> ?_);refine KP (fun x=>0<=x.1/\x.1<=(xs.length:Int)/\x.2.1=a/\x.2.2.1=b/\rg x.2.2.2.2.2.2.2.2.2.2.2.2.2.1/\TE x.2.2.2.1 x.2.2.2.2.2.2.2.2.1 x.2.2.2.2.2.2.2.2.2.2.1 x.2.2.2.2.2.2.2.2.2.2.2.2.2.2.2.1 x.2.2.2.2.2.2.2.2.2.2.2.2.2.2.2.2.1) (fun x=>((xs.length:Int) - x.1).toNat) ?_ N _ ⟨by dsimp only;omega,by dsimp only;omega,rfl,rfl,hr,hl⟩ (by dsimp only;omega);clear hw hl hl0 hr hr0;rintro ⟨t,a',b',c,d,e,f,g,h,i,j,k,m,n,o,p,q,r,mp⟩ ⟨i0,i1,rfl,rfl,hr,hl⟩ y hy;dsimp only at i0 i1 hr hl hy;have hw:OkW a' b' (a',b',c,d,e,f,g,h,i,j,k,m,n,o,p,q,r):=⟨rfl,rfl,hl,hr⟩
 dsimp only[U19];refine Jv (fun hh=> ?_) (fun _=> ?_)
 .have hh:t<(xs.length:Int):=D6 hh;have hx:=h1 _ (getD_mem (([],false,[]):Ex) (show t.toNat<xs.length by omega));refine J9 (Di i0) (J9 (Di hh) (Jz (AqQ hN (a',b',c,d,e,f,g,h,i,j,k,m,n,o,p,q,r) _ hw hx) fun v hv=>Jv (fun _=>Ju hv) (fun _=> ?_)));rw[w64 (x:=t+1)];exact hy _ ⟨by dsimp only;omega,by dsimp only;omega,hv.1,hv.2.1,hv.2.2.2,hv.2.2.1⟩ (by dsimp only;omega)
 .dsimp only[U18];exact Jv (fun _=>Ju hw) (fun _=>Ju hw)
theorem Atk {A B:Bs} (l:Yq4) (s:Bs) (hl:OkW A B l) (hs:s.length<=1048576):Ends (fun r=>OkW A B r.2) (XM N l s):=by
 obtain⟨a,b,c,d,e,f,g,h,i,j,k,m,n,o,p,q,r⟩:=l;obtain⟨rfl,rfl,hl0,hr0⟩:=hl;have hr:rg n:=hr0;have hw:OkW a b (a,b,c,d,e,f,g,h,i,j,k,m,n,o,p,q,r):=⟨rfl,rfl,hl0,hr⟩
 have hl:TE c h j p q:=hl0;unfold XM;try simp -zeta only[Ap]
 rw[Acm hN s hs];have hg:Good 1048576 (JQ s).1:=(KR s).mono hs;generalize JQ s=r0 at hg ⊢;obtain⟨l0,er⟩:=r0;dsimp only at hg ⊢;refine Jv (fun hh=>by rw[hh];exact Ju hw) (fun _=>Jv (fun _=>Ju hw) (fun _=> ?_));refine Jz (AgT hN hg) fun v1 g1=>Jv (fun _=>Ju hw) (fun _=>Jv (fun _=>Ju hw) (fun _=> ?_));refine Jz (AhP hN g1) fun v2 g2=>Jv (fun _=>Ju hw) (fun _=> ?_);refine Jz (dB g2 48) fun v3 g3=>Jv (fun _=>Ju hw) (fun _=> ?_);rw[uT N _ hN g3.1.2,Jt];have hnm:cpN (nmD v3.1.2.2).1:=⟨Aez _ g3.1.2,ApY _ g3.1.2⟩
 generalize nmD v3.1.2.2=nm at hnm ⊢;obtain⟨c',e'⟩:=nm;dsimp only at hnm ⊢;have hl2:TE c' h j p q:=⟨hnm,hl.2⟩
 refine Jv (fun _=>Ju ⟨rfl,rfl,hl2,hr⟩) (fun _=> ?_);refine Jz (Afc hN g3.2) fun v4 g4=>Jv (fun _=>Ju ⟨rfl,rfl,hl2,hr⟩) (fun _=> ?_);refine Jz (Afc hN g4) fun v5 g5=>Jv (fun _=>Ju ⟨rfl,rfl,hl2,hr⟩) (fun _=> ?_);refine KE (P:=fun x=>(x.1=a/\x.2.1=b/\rg x.2.2.2.2.2.2.2.2.2.2.2.2.1)/\TE x.2.2.1 x.2.2.2.2.2.2.2.1 x.2.2.2.2.2.2.2.2.2.1 x.2.2.2.2.2.2.2.2.2.2.2.2.2.2.1 x.2.2.2.2.2.2.2.2.2.2.2.2.2.2.2.1/\Good 1048576 x.2.2.2.2.2.2.2.2.2.2.2.2.2.2.2.2.2.2.2.2) (fun jj hj=> ?_) ?_
 .refine Jz (Aah g5 48) fun v6 g6=>Jv (fun _=> ?_) (fun _=>hj _ ⟨⟨rfl,rfl,hr⟩,hl2,g6.2⟩);refine Jz (Ar4 hN _ g6.1.1 c' hnm) fun v7 g7=> ?_;have hl3:TE c' h j p v7.1:=⟨hnm,hl.2.1,hl.2.2.1,hl.2.2.2.1,g7⟩
  exact Jv (fun _=>Ju ⟨rfl,rfl,hl3,hr⟩) (fun _=>hj _ ⟨⟨rfl,rfl,hr⟩,hl3,g6.2⟩)
 .clear hw hl0 hr hr0;rintro ⟨a',b',c,d,e,f,g,h,i,j,k,m,n,o,p,q,r,s1,s2,s3,l9⟩ ⟨⟨rfl,rfl,hr⟩,h1,h2⟩;dsimp only at hr h1 h2;dsimp only[U21];have hw:OkW a' b' (a',b',c,d,e,f,g,h,i,j,k,m,n,o,p,q,r):=⟨rfl,rfl,h1,hr⟩
  refine Jz (dB h2 160) fun v8 g8=>Jv (fun _=>Ju hw) (fun _=> ?_);refine Jz (Aza hN (a',b',c,d,e,f,g,h,i,j,k,m,n,o,p,q,r) _ hw g8.1.1) fun v9 g9=>Jv (fun _=>Ju g9) (fun _=>Jz (pV _) fun _ _=>Ju g9)
end
def of8 {m:Nat} {b:UInt8} (h:m % 256=b.toNat:=by omega):UInt8.ofNat m=b:=by apply GX.1;rw[F5];exact h
def Aqv {s:Bs} (h:Sp.err s=0):Sp.raw s=Sp.elem (Sp.tag s) (Sp.content s):=by
 have hrd:Sp.rd s=Sp.head s/\(Sp.head s).1=0/\(Sp.head s).2.2+(Sp.head s).2.1<=s.length:=by
  unfold Sp.err Sp.rd at h;unfold Sp.rd;by_cases c:(Sp.head s).1=0/\s.length - (Sp.head s).2.1<(Sp.head s).2.2
  .rw[Dn c]at h;cases h
  .rw[Dk c]at h ⊢;refine⟨rfl,h,?_⟩;have:=Sp.Af3 s h;have c: ¬ s.length - (Sp.head s).2.1<(Sp.head s).2.2:=fun x=>c ⟨h,x⟩;omega
 obtain⟨e,h0,hl⟩:=hrd;unfold Sp.raw Sp.content Sp.elem Sp.tag;rw[e]
 match s,h0,hl with
 | [],h0,_=>cases h0
 | [t],h0,_ =>
  exfalso;unfold Sp.head at h0;dsimp only at h0;by_cases c:t.toNat % 32=31
  .rw[Dn c]at h0;cases h0
  .rw[Dk c]at h0;cases h0
 | t::n::r,h0,hl =>
  have ht:UInt8.ofNat ((t::n::r).headD 0).toNat=t:=Hq
  by_cases c1:t.toNat % 32=31
  .have hd:Sp.head (t::n::r)=(5,0,0):=by unfold Sp.head;dsimp only;rw[Dn c1]
   rw[hd]at h0;cases h0
  by_cases c2:n.toNat<128
  .have hd:Sp.head (t::n::r)=(0,2,n.toNat):=by unfold Sp.head;dsimp only;rw[Dk c1,Dn c2]
   rw[hd]at hl ⊢;dsimp only at hl ⊢;rw[List.length_cons,List.length_cons]at hl;have hlen:(r.take n.toNat).length=n.toNat:=by rw[Eb];omega
   show(t::n::r).take (2+n.toNat)=_::Sp.MG ((r.take n.toNat).length)++r.take n.toNat
   rw[hlen,ht,show 2+n.toNat=n.toNat+1+1 by omega,List.take_succ_cons,List.take_succ_cons];unfold Sp.MG;rw[Dn c2,of8 (b:=n) (by have:=n.toNat_lt;omega)];rfl
  by_cases c3:n.toNat=128\/131<n.toNat
  .have hd:Sp.head (t::n::r)=(6,0,0):=by unfold Sp.head;dsimp only;rw[Dk c1,Dk c2,Dn c3]
   rw[hd]at h0;cases h0
  by_cases c4:r.length<n.toNat - 128
  .have hd:Sp.head (t::n::r)=(3,0,0):=by unfold Sp.head;dsimp only;rw[Dk c1,Dk c2,Dk c3,Dn c4]
   rw[hd]at h0;cases h0
  by_cases c5:Sp.beNat (r.take (n.toNat - 128))<Sp.leastOf (n.toNat - 128)\/131072<Sp.beNat (r.take (n.toNat - 128))
  .have hd:Sp.head (t::n::r)=(6,0,0):=by unfold Sp.head;dsimp only;rw[Dk c1,Dk c2,Dk c3,Dk c4,Dn c5]
   rw[hd]at h0;cases h0
  have hd:Sp.head (t::n::r)=(0,2+(n.toNat - 128),Sp.beNat (r.take (n.toNat - 128))):=by unfold Sp.head;dsimp only;rw[Dk c1,Dk c2,Dk c3,Dk c4,Dk c5]
  rw[hd]at hl ⊢;dsimp only at hl ⊢;rw[List.length_cons,List.length_cons]at hl
  have key: ∀(k:Nat) (u v:Bs),n.toNat - 128=k->r=u++v->u.length=k->Sp.MG (Sp.beNat u)=n::u ->
   (t::n::r).take (2+(n.toNat - 128)+Sp.beNat (r.take (n.toNat - 128)))=UInt8.ofNat ((t::n::r).headD 0).toNat::Sp.MG ((((t::n::r).drop (2+(n.toNat - 128))).take (Sp.beNat (r.take (n.toNat - 128)))).length)++(((t::n::r).drop (2+(n.toNat - 128))).take (Sp.beNat (r.take (n.toNat - 128)))):=by
   intro k u v hk hr hu hb;subst hr;rw[hk]at hl ⊢;have e1:(u++v).take k=u:=by rw[<- hu,Ie]
   rw[e1]at hl ⊢;rw[Dp]at hl;have e2:(t::n::(u++v)).drop (2+k)=v:=by rw[show 2+k=k+1+1 by omega,Ia,Ia,<- hu,Hf]
   have e3:(v.take (Sp.beNat u)).length=Sp.beNat u:=by rw[Eb];omega
   rw[e2,e3,ht,hb,show 2+k+Sp.beNat u=(k+Sp.beNat u)+1+1 by omega,List.take_succ_cons,List.take_succ_cons,<- hu,Ii];rfl
  have hn:n.toNat=129\/n.toNat=130\/n.toNat=131:=by omega
  rcases hn with hn | hn | hn
  .rw[hn]at c4 c5;cases r with
   | nil=>exact absurd c4 (by simp)
   | cons a r =>have hb:Sp.beNat [a]=a.toNat:=A2D a;have c5: ¬(Sp.beNat [a]<128\/131072<Sp.beNat [a]):=c5;rw[hb]at c5;refine key 1 [a] r (by omega) rfl rfl ?_;rw[hb];unfold Sp.MG;have:=a.toNat_lt;rw[A51,A52,of8 (b:=a)];congr 1;exact(GX.1 hn).symm
  .rw[hn]at c4 c5;cases r with
   | nil=>exact absurd c4 (by simp)
   | cons a r =>
    cases r with
    | nil=>exact absurd c4 (by simp)
    | cons b r =>have hb:Sp.beNat [a,b]=a.toNat*256+b.toNat:=A2E a b;have c5: ¬(Sp.beNat [a,b]<256\/131072<Sp.beNat [a,b]):=c5;rw[hb]at c5;refine key 2 [a,b] r (by omega) rfl rfl ?_;rw[hb];unfold Sp.MG;have:=a.toNat_lt;have:=b.toNat_lt;rw[A51,A51,A52,of8 (b:=a),of8 (b:=b)];congr 1;exact(GX.1 hn).symm
  .rw[hn]at c4 c5;cases r with
   | nil=>exact absurd c4 (by simp)
   | cons a r =>
    cases r with
    | nil=>exact absurd c4 (by simp)
    | cons b r =>
     cases r with
     | nil=>exact absurd c4 (by simp)
     | cons c r =>have hb:Sp.beNat [a,b,c]=(a.toNat*256+b.toNat)*256+c.toNat:=A2F a b c;have c5: ¬(Sp.beNat [a,b,c]<65536\/131072<Sp.beNat [a,b,c]):=c5;rw[hb]at c5;refine key 3 [a,b,c] r (by omega) rfl rfl ?_;rw[hb];unfold Sp.MG;have:=a.toNat_lt;have:=b.toNat_lt;have:=c.toNat_lt;rw[A51,A51,A51,of8 (b:=a),of8 (b:=b),of8 (b:=c)];congr 1;exact(GX.1 hn).symm
def AdK {M:Nat} {e:El} (h:eG M e):e.2.2=Sp.elem e.1.toNat e.2.1:=by obtain⟨t,h1,rfl,_⟩:=h;exact Aqv h1
def AuI: ∀(f:Nat) (s:Bs) (a:List El),s.length<f->(Oa f s a).2=0->((Oa f s a).1.map (·.2.2)).flatten=(a.map (·.2.2)).flatten++s:=by
 intro f
 induction f with
 | zero=>intro s a h;omega
 | succ f ih =>
  intro s a hf h;have e:Oa (f+1) s a=if s=[]then(a,(0:Int))else if Sp.err s≠0 then([],Sp.err s)else Oa f (Sp.rest s) (a++[KZ s]):=rfl;rw[e]at h ⊢;by_cases h0:s=[]
  .rw[Dn h0,h0,DX]
  .rw[Dk h0]at h ⊢;by_cases he:Sp.err s=0
   .rw[Dk (fun x=>x he)]at h ⊢;have:=Sp.dO s he;rw[ih _ _ (by omega) h,EX,EZ,DZ];congr 1;show(Sp.raw s++[])++Sp.rest s=s;rw[DX,AhQ]
   .rw[Dn he]at h;exact absurd h he
def Aeo {s:Bs} (h:(JQ s).2=0):((JQ s).1.map (·.2.2)).flatten=s:=by have:=AuI (s.length+1) s [] (by omega) h;exact this
def AzF {s:Bs} {t:Int} (h:(ML s t).2=0):s=Sp.elem t.toNat (ML s t).1.2.1:=by
 unfold ML at h ⊢;cases h1:(KH s).2 != 0 with
 | true =>rw[h1,cond_true]at h;rw[h]at h1;cases h1
 | false =>
  rw[h1,cond_false]at h;rw[cond_false];cases h2:(KH s).1.1 != t with
  | true=>rw[h2,cond_true]at h;cases h
  | false =>
   rw[cond_false];have h2:(KH s).1.1=t:=by simpa using h2
   have h1:(KH s).2=0:=by simpa using h1
   unfold KH at h1 h2 ⊢;by_cases h3:Sp.NP s=0
   .rw[Dn h3]at h2 ⊢;obtain⟨h4,h5⟩:=VT h3;have h6:=AhQ (s:=s);rw[h5,DX]at h6;have h7:=Aqv h4;rw[h6]at h7;rw[<- h2];exact h7
   .rw[Dk h3]at h1;exact absurd h1 h3
def A0b {s:Bs} (h:(Wl s).2=0):s=Sp.elem 48 (((Wl s).1.map (·.2.2)).flatten):=by
 unfold Wl at h ⊢;cases h1:(ML s 48).2 != 0 with
 | true=>rw[h1,cond_true]at h;rw[h]at h1;cases h1
 | false =>rw[h1,cond_false]at h;rw[cond_false,Aeo h];exact AzF (by simpa using h1)
def Ae0 (lim:Nat): ∀(s:Bs) (cur:Nat) (acc l:List Nat),Ns lim s cur true acc=some l-> ∃ v t,l=acc++v::t/\cur*128<=v:=by
 intro s
 induction s with
 | nil=>intro cur acc l h;cases h
 | cons b r ih =>
  intro cur acc l h;rw[Nu,Dk (fun x=>by cases x.1)]at h;by_cases h1:lim<cur*128+b.toNat % 128
  .rw[Dn h1]at h;cases h
  rw[Dk h1]at h;by_cases h2:128<=b.toNat
  .rw[Dn h2]at h;obtain⟨v,t,e,hv⟩:=ih _ _ _ h;exact⟨v,t,e,by omega⟩
  .rw[Dk h2]at h;obtain⟨t,e⟩:=Ug lim _ _ _ _ _ h;exact⟨_,t,by rw[e,DZ];rfl,by omega⟩
def bC {acc t u:List Nat} {v w:Nat} (h:acc++v::t=acc++w::u):v=w:=by have:=List.append_cancel_left h;injection this
def Akt {b:UInt8} {v:Nat} (h:b.toNat=v:=by omega):b=UInt8.ofNat v:=by rw[<- h];exact UInt8.ofNat_toNat.symm
def UN {lim v:Nat} {s:Bs} {acc t:List Nat} (hv:v<128) (h:Ns lim s 0 false acc=some (acc++v::t)): ∃ r,s=UInt8.ofNat v::r/\Ns lim r 0 false (acc++[v])=some ((acc++[v])++t):=by
 cases s with
 | nil =>have h:some acc=some (acc++v::t):=h;have:=congrArg List.length (Ei h);rw[Dp,List.length_cons]at this;omega
 | cons b r =>
  have hb:=b.toNat_lt;rw[Nu]at h;by_cases h0:false=false/\b.toNat=128
  .rw[Dn h0]at h;cases h
  rw[Dk h0]at h;have h0:b.toNat≠128:=fun x=>h0 ⟨rfl,x⟩;by_cases h1:lim<0*128+b.toNat % 128
  .rw[Dn h1]at h;cases h
  rw[Dk h1]at h;by_cases h2:128<=b.toNat
  .rw[Dn h2]at h;obtain⟨w,u,e,hw⟩:=Ae0 lim _ _ _ _ h;have:=bC e;omega
  .rw[Dk h2]at h;have e0:0*128+b.toNat % 128=b.toNat:=by omega
   rw[e0]at h;obtain⟨u,e⟩:=Ug lim _ _ _ _ _ h;rw[DZ]at e;have e:=bC (u:=u) e;exact⟨r,by rw[Akt e.symm],by rw[e,h,<- e,DZ];rfl⟩
def Avz {lim:Nat} {s:Bs} {acc t:List Nat} (h:Ns lim s 0 false acc=some (acc++58888::t)): ∃ r,s=131::204::8::r/\Ns lim r 0 false (acc++[58888])=some ((acc++[58888])++t):=by
 cases s with
 | nil =>have h:some acc=some (acc++58888::t):=h;have:=congrArg List.length (Ei h);rw[Dp,List.length_cons]at this;omega
 | cons b r =>
  have hb:=b.toNat_lt;rw[Nu]at h;by_cases h0:false=false/\b.toNat=128
  .rw[Dn h0]at h;cases h
  rw[Dk h0]at h;have h0:b.toNat≠128:=fun x=>h0 ⟨rfl,x⟩;by_cases h1:lim<0*128+b.toNat % 128
  .rw[Dn h1]at h;cases h
  rw[Dk h1]at h;by_cases h2:128<=b.toNat
  rotate_left
  .rw[Dk h2]at h;obtain⟨u,e⟩:=Ug lim _ _ _ _ _ h;rw[DZ]at e;have:=bC (u:=u) e;omega
  rw[Dn h2]at h;cases r with
  | nil=>cases h
  | cons c r =>
   have hc:=c.toNat_lt;rw[Nu,Dk (fun x=>by cases x.1)]at h;by_cases h3:lim<(0*128+b.toNat % 128)*128+c.toNat % 128
   .rw[Dn h3]at h;cases h
   rw[Dk h3]at h;by_cases h4:128<=c.toNat
   rotate_left
   .rw[Dk h4]at h;obtain⟨u,e⟩:=Ug lim _ _ _ _ _ h;rw[DZ]at e;have:=bC (u:=u) e;omega
   rw[Dn h4]at h;cases r with
   | nil=>cases h
   | cons d r =>
    have hd:=d.toNat_lt;rw[Nu,Dk (fun x=>by cases x.1)]at h;by_cases h5:lim<((0*128+b.toNat % 128)*128+c.toNat % 128)*128+d.toNat % 128
    .rw[Dn h5]at h;cases h
    rw[Dk h5]at h;by_cases h6:128<=d.toNat
    .rw[Dn h6]at h;obtain⟨w,u,e,hw⟩:=Ae0 lim _ _ _ _ h;have:=bC e;omega
    rw[Dk h6]at h;obtain⟨u,e⟩:=Ug lim _ _ _ _ _ h;have e1:acc++58888::t=acc++(((0*128+b.toNat % 128)*128+c.toNat % 128)*128+d.toNat % 128)::u:=by rw[e,DZ];rfl
    have e2:=bC e1;have q1:b=131:=Akt (v:=131);have q2:c=204:=Akt (v:=204);have q3:d=8:=Akt (v:=8);subst q1 q2 q3;refine⟨r,rfl,?_⟩;rw[<- e2]at h;rw[h,DZ];rfl
def Ak2:Bs:=[49,46,51,46,54,46,49,46,52,46,49,46,53,56,56,56,56,46,49,46,49]
def Ayx:Oq Ak2=some [1,3,6,1,4,1,58888,1,1]:=by kernel_rfl
def Arn {s:Bs} (h:SI (Vp s)=(Ak2,0)):s=[43,6,1,4,1,131,204,8,1,1]:=by
 cases hd:Vp s with
 | none=>rw[hd]at h;cases h
 | some a =>
  rw[hd]at h;have ht:nZ a=Ak2:=congrArg Prod.fst h;unfold Vp at hd;cases hn:Ns 4294967294 s 0 false []with
  | none=>rw[hn]at hd;cases hd
  | some l =>
   rw[hn]at hd;have hd:(if l.length=0\/11<l.length then none else upTo 2147483647 (two l))=some a:=hd;by_cases hl:l.length=0\/11<l.length
   .rw[Dn hl]at hd;cases hd
   rw[Dk hl]at hd;have hl0:l≠ []:=fun x=>hl (.inl (by rw[x];rfl))
   have ha:two l=a:=by
    unfold upTo at hd;split at hd
    .exact Ei hd
    .cases hd
   have hlim:=ApZ hn;have q:=Awa hl0 (by omega) (fun x hx=>by have:=hlim x hx;omega);rw[hd,ha,ht,Ayx]at q;have q: [1,3,6,1,4,1,58888,1,1]=two l:=by rw[ha];exact Ei q
   cases l with
   | nil=>exact absurd rfl hl0
   | cons n t =>
    unfold two at q;injection q with q1 q;injection q with q2 q3
    have hn43:n=43:=by
     split at q1
     .omega
     .rename_i hh;rw[Dk hh]at q2;omega
    subst hn43 q3;obtain⟨r1,e1,n1⟩:=UN (v:=43) (acc:=[]) (by omega) hn;obtain⟨r2,e2,n2⟩:=UN (v:=6) (by omega) n1;obtain⟨r3,e3,n3⟩:=UN (v:=1) (by omega) n2;obtain⟨r4,e4,n4⟩:=UN (v:=4) (by omega) n3;obtain⟨r5,e5,n5⟩:=UN (v:=1) (by omega) n4;obtain⟨r6,e6,n6⟩:=Avz n5;obtain⟨r7,e7,n7⟩:=UN (v:=1) (by omega) n6;obtain⟨r8,e8,n8⟩:=UN (v:=1) (by omega) n7
    have e9:r8=[]:=by
     cases r8 with
     | nil=>rfl
     | cons b r =>
      exfalso;have hb:=b.toNat_lt;rw[DX,Nu]at n8;split at n8
      .cases n8
      split at n8
      .cases n8
      split at n8
      .obtain⟨w,u,e,hw⟩:=Ae0 _ _ _ _ _ n8;have:=congrArg List.length e;simp at this<;>omega
      .obtain⟨u,e⟩:=Ug _ _ _ _ _ _ n8;have:=congrArg List.length e;simp at this<;>omega
    rw[e1,e2,e3,e4,e5,e6,e7,e8,e9];rfl
def Adk:Bs:=Sp.elem 48 (Sp.elem 6 [43,6,1,4,1,131,204,8,1,1])
def AoS {α :Type} {b:Bool} {x y z: α} (h:(bif b then x else y)=z) (hx:x≠z:=by decide):b=false/\y=z:=by
 cases b with
 | true=>exact absurd h hx
 | false=>exact⟨rfl,h⟩
section
variable {N:Nat} (hN:1048578<N)
include hN
theorem A26 {e:El} (he:eG 1048576 e) (h:LJ N e=some 0):e.2.2=Adk:=by
 have h1:=(Q5 he).1;have hb:=AdK he;unfold LJ at h;try simp -zeta only[Ap]at h
 rw[MK N e.2.1,Jt]at h;have hg:Good 1048576 (JQ e.2.1).1:=(KR e.2.1).mono h1;have hf:(JQ e.2.1).2=0->((JQ e.2.1).1.map (·.2.2)).flatten=e.2.1:=Aeo;generalize JQ e.2.1=r at hg hf h;obtain⟨l,er⟩:=r;dsimp only at hg hf h;obtain⟨a1,h⟩:=AoS h;have t1:e.1=48:=by simpa using a1
 cases a2:er != 0 with
 | true =>rw[a2,cond_true]at h;have:=Ei h;rw[this]at a2;cases a2
 | false =>
  rw[a2,cond_false]at h;have hf:=hf (by simpa using a2);cases l with
  | nil=>cases h
  | cons a r =>
   have ga:=hg.all a Dv;have sa:=(Q5 ga).1;rw[show(((a::r).length:Int)==0)=false from MO (by rw[List.length_cons];omega),cond_false,Di (show(0:Int)<(((a::r).length:Nat):Int) by rw[List.length_cons];omega),JI,Eh]at h;obtain⟨a3,h⟩:=AoS h;have t2:a.1=6:=by simpa using a3
   rw[JI,Su N a.2.1 sa,Jt]at h;have hd:SI (Vp a.2.1)=(Ak2,0)->a.2.1=[43,6,1,4,1,131,204,8,1,1]:=Arn;generalize SI (Vp a.2.1)=q at h hd;obtain⟨id,e2⟩:=q;dsimp only at h;cases a4:e2 != 0 with
   | true =>rw[a4,cond_true]at h;have:=Ei h;rw[this]at a4;cases a4
   | false =>
    rw[a4,cond_false]at h;have e20:e2=0:=by simpa using a4
    cases a5: !(id==Ak2)with
    | true =>exfalso;have a5':(!(id==([49,46,51,46,54,46,49,46,52,46,49,46,53,56,56,56,56,46,49,46,49]:Bs)))=true:=a5;rw[a5']at h;simp only[FH,EI,Et,JI,cond_true,EF,DU]at h;exact absurd h (by decide)
    | false =>
     have a5':(!(id==([49,46,51,46,54,46,49,46,52,46,49,46,53,56,56,56,56,46,49,46,49]:Bs)))=false:=a5;rw[a5']at h;simp only[FH,EI,Et,JI,cond_true,cond_false,EF,DU]at h;obtain⟨a6,_⟩:=AoS h;have a6:=DY a6;have hid:id=Ak2:=by simpa using a5
     have ha:=hd (by rw[hid,e20]);cases r with
     | cons b r=>exfalso;apply a6;rw[List.length_cons,List.length_cons];omega
     | nil =>have hf:a.2.2++[]=e.2.1:=hf;rw[DX,AdK ga,t2,ha]at hf;rw[hb,t1,<- hf];rfl
end
def AzM (N:Nat) {s:Bs} (hs:s.length<=1048576):ZM N s 0=some (0::s,0):=by
 unfold ZM;try simp -zeta only[Ap]
 rw[show UE N s 0=some true from rfl];try simp only[clR]
 refine(LZ _ rfl).trans ?_;refine(LZ _ (Di (by simp;omega))).trans rfl
def As6 (M:Nat):NV (M+300)=some Adk:=by kernel_rfl
section
variable {N:Nat} (hN:1048578<N)
include hN
theorem AxQ {tbs sig:Bs} (h:(ML tbs 48).2=0) (hl:(tbs++(Adk++Sp.elem 3 (0::sig))).length<=131072):Ul N tbs sig=some (Sp.elem 48 (tbs++(Adk++Sp.elem 3 (0::sig))),0):=by
 obtain⟨M,rfl⟩: ∃ M,N=M+300:=⟨N - 300,by omega⟩
 have hsig:sig.length+1<=131072:=by
  have:(Sp.elem 3 (0::sig)).length=(Sp.MG (0::sig).length).length+(0::sig).length+1:=by unfold Sp.elem;simp
  rw[Dp,Dp,this,List.length_cons]at hl;omega
 have htbs:tbs.length<=131072:=by rw[Dp]at hl;omega
 have f3:JU (M+300) false 3 [0::sig]=_:=Aip (M+300) 3 false [0::sig] (by omega) (by omega) (by omega) (by simp) (by rw[RD,List.length_cons];omega);rw[RD]at f3;have f48:JU (M+300) false 48 [tbs,Adk,Sp.elem 3 (0::sig)]=_:=Aip (M+300) 48 false [tbs,Adk,Sp.elem 3 (0::sig)] (by omega) (by omega) (by omega) (by simp) (by rw[flat3];simpa [DZ]using hl);rw[flat3]at f48;have e1:OJ (M+300) false tbs sig=some (Sp.elem 48 (tbs++(Adk++Sp.elem 3 (0::sig))),false,tbs,sig):=by unfold OJ;rw[As6,Jt,AzM _ (by omega),Jt];have t:Ku (M+300) false (0::sig) 0=some (0::sig,false):=rfl;rw[t,Jt];dsimp only;rw[f3,Jt];unfold KG;dsimp only;rw[f48,Jt,Jt]
 unfold Ul gG;rw[SK _ tbs 48 (by omega) (by omega),Jt,YQ h,cond_false,e1,Jt];rfl
omit hN in
theorem AsY {l:List El} {t:Int} (h:(Af7 l t).2.1=0): ∃ e r,l=e::r/\e.1=t/\Af7 l t=(e,0,r):=by
 cases l with
 | nil=>cases h
 | cons e r =>
  unfold Af7 at h ⊢;dsimp only at h ⊢;by_cases q:e.1=t
  .rw[YQ q,cond_false];exact⟨e,r,rfl,q,rfl⟩
  .rw[UU q,cond_true]at h;cases h
omit hN in
theorem A28 {l:List El}:(∃ e r,l=e::r/\MP N l=some (e,0,r))\/ ∃ x,MP N l=some (x,3,l):=by
 cases l with
 | nil=>exact .inr ⟨_,rfl⟩
 | cons e r =>
  left;refine⟨e,r,rfl,?_⟩;unfold MP;try simp -zeta only[Ap]
  rw[show(((e::r).length:Int)==0)=false from MO (by rw[List.length_cons];omega),cond_false,Di (show(0:Int)<(((e::r).length:Nat):Int) by rw[List.length_cons];omega),Di (show(1:Int)<=(((e::r).length:Nat):Int) by rw[List.length_cons];omega),JI,JI,Apc];rfl
theorem A1Y {l r2:List El} (hg:Good 1048576 l) (h:Qu N l=some (0,r2)): ∃ e,l=e::r2/\e.2.2=Adk:=by
 unfold Qu at h;rcases A28 (N:=N) (l:=l)with ⟨e,r,rfl,ha⟩ | ⟨x,ha⟩
 .rw[ha,Jt]at h;dsimp only at h;rw[show((0:Int) != 0)=false from rfl,cond_false]at h;have ge:=hg.all e Dv;obtain⟨v,hv,_⟩:=As7 hN (Q5 ge);rw[hv,Jt]at h;have h:=Ei h;injection h with h1 h2;subst h1 h2;exact⟨e,rfl,A26 hN ge hv⟩
 .rw[ha,Jt]at h;have h:=Ei h;injection h with h1 h2;cases h1
theorem A2d {l r2:List El} {sig:Bs} (hg:Good 1048576 l) (h:Si N l=some (sig,0,r2)): ∃ e,l=e::r2/\e.2.2=Sp.elem 3 (0::sig):=by
 unfold Si at h;rw[As3,Jt]at h;cases h1:(Af7 l 3).2.1 != 0 with
 | true =>rw[h1,cond_true]at h;have h:=Ei h;injection h with h2 h3;injection h3 with h3 h4;rw[h3]at h1;cases h1
 | false =>
  obtain⟨e,r,rfl,ht,hn⟩:=AsY (by simpa using h1);rw[h1,cond_false,hn]at h;dsimp only at h;have ge:=hg.all e Dv;have hb:=AdK ge;rw[rC N _ (Q5 ge).1,Jt]at h;cases h2:(Qh e.2.1).2.2 != 0 with
  | true =>rw[h2,cond_true]at h;have h:=Ei h;injection h with h3 h4;injection h4 with h4 h5;rw[h4]at h2;cases h2
  | false =>
   rw[h2,cond_false]at h;cases h3:(Qh e.2.1).2.1 != 0 with
   | true=>rw[h3,cond_true]at h;exact absurd (congrArg (fun o=>(o.map (·.2.1))) h) (by simp)
   | false =>
    rw[h3,cond_false]at h;have h:=Ei h;injection h with h4 h5;injection h5 with h5 h6;subst h6;refine⟨e,rfl,?_⟩;rw[hb,ht];congr 1;rw[<- h4];have h2:(Qh e.2.1).2.2=0:=by simpa using h2
    have h3:(Qh e.2.1).2.1=0:=by simpa using h3
    generalize e.2.1=c at h2 h3;cases c with
    | nil=>cases h2
    | cons u r =>
     cases q:decide (7<u.toNat)|| !spP r u.toNat with
     | true =>
      have e9:Qh (u::r)=([],0,7):=by unfold Qh;dsimp only;rw[q];rfl
      rw[e9]at h2;cases h2
     | false =>
      have e9:Qh (u::r)=(r,(u.toNat:Int),0):=by unfold Qh;dsimp only;rw[q];rfl
      rw[e9]at h3 ⊢;have h3:((u.toNat:Nat):Int)=0:=h3;have hu:u=0:=Akt (v:=0);rw[hu]
omit hN in
theorem stop {e:Int} {z:Yq4} {k:Option (Yq4×Int)} {l:Yq4} (h:(bif e != 0 then some (z,e)else k)=some (l,0)):e=0/\k=some (l,0):=by
 cases q:e != 0 with
 | true =>rw[q,cond_true]at h;have h:=Ei h;injection h with h1 h2;rw[h2]at q;cases q
 | false =>rw[q,cond_false]at h;exact⟨by simpa using q,h⟩
omit hN in
omit hN in
theorem one_le (s:Bs) (t:Int):(ML s t).1.2.1.length<=131072:=by
 unfold ML;cases (KH s).2 != 0 with
 | true=>exact DN _
 | false =>
  rw[cond_false];cases (KH s).1.1 != t with
  | true=>exact DN _
  | false =>
   rw[cond_false];unfold KH;by_cases h3:Sp.NP s=0
   .rw[Dn h3];have h4:=(VT h3).1;show(Sp.content s).length<=_
    have hk:(Sp.rd s).2.2<=131072:=by
     unfold Sp.err Sp.rd at h4;unfold Sp.rd;by_cases c:(Sp.head s).1=0/\s.length - (Sp.head s).2.1<(Sp.head s).2.2
     .rw[Dn c]at h4;cases h4
     .rw[Dk c]at h4 ⊢;exact(Sp.Af3 s h4).2.2.2
    unfold Sp.content;rw[Eb];omega
   .rw[Dk h3];exact DN _
omit hN in
theorem A39 {s:Bs} (h:(Wl s).2=0):(((Wl s).1.map (·.2.2)).flatten).length<=131072:=by
 have hl:=one_le s 48;unfold Wl at h ⊢;cases h1:(ML s 48).2 != 0 with
 | true=>rw[h1,cond_true]at h;rw[h]at h1;cases h1
 | false =>rw[h1,cond_false]at h;rw[cond_false,Aeo h];exact hl
theorem Awt {s:Bs} (hs:s.length<=1048576) {l:Yq4} (h:PS N s=some (l,0)):l.1=s/\(∃ x,Vg N x=some (l.2.1,0)/\l=x)/\Ul N l.2.1 l.2.2.2.2.2.2.2.2.2.2.2.2.2.2.2.2=some (s,0):=by
 unfold PS at h;try simp -zeta only[Ap]at h
 rw[uD N s hN (by omega)]at h;have hg:=wR s (by omega);have hf:(Wl s).2=0->s=Sp.elem 48 (((Wl s).1.map (·.2.2)).flatten)/\(((Wl s).1.map (·.2.2)).flatten).length<=131072:=fun h=>⟨A0b h,A39 h⟩
 generalize Wl s=r at hg hf h;obtain⟨es,er⟩:=r;dsimp only at hg hf h;cases q0:er != 0 with
 | true =>rw[q0,cond_true,cond_true]at h;have h:=Ei h;injection h with h1 h2;rw[h2]at q0;cases q0
 | false =>
  rw[q0,cond_false]at h;obtain⟨hf,hbd⟩:=hf (by simpa using q0);obtain⟨_,k1⟩:=stop h;clear h;rw[As3,Jt]at k1;obtain⟨n1,k2⟩:=stop k1;clear k1;obtain⟨e1,r1,rfl,t1,hn⟩:=AsY n1;rw[hn]at k2;dsimp only at k2;have g1:=hg.all e1 Dv;have gr:=hg.tail;obtain⟨v,hv,hw⟩:=Atk hN (A:=s) (B:=e1.2.2) (s,e1.2.2,[],0,0,0,-1,[],false,[],false,false,0,false,[],[],[]) e1.2.1 ⟨rfl,rfl,⟨cp0,DN _,(fun g hg=>by cases hg),(fun g hg=>by cases hg),DN _,(fun g hg=>by cases hg)⟩,by unfold rg;dsimp only;omega⟩ (Q5 g1).1;rw[hv,Jt]at k2;obtain⟨ve,vl⟩:=v;obtain⟨w1,w2,_⟩:=hw;dsimp only at k2 w1 w2;obtain⟨_,k3⟩:=stop k2;clear k2;obtain⟨v2,hv2,gv2⟩:=AhP hN gr;rw[hv2,Jt]at k3;obtain⟨n2,k4⟩:=stop k3;clear k3;obtain⟨v3,hv3,gv3⟩:=AqE hN gv2;rw[hv3,Jt]at k4;obtain⟨n3,k5⟩:=stop k4;clear k4;rw[aZ,Jt]at k5;obtain⟨n4,k6⟩:=stop k5;clear k5;obtain⟨a1,a2⟩:=v2;obtain⟨b1,b2,b3⟩:=v3;dsimp only at n2 n3 n4 k6 hv2 hv3 gv2 gv3;subst n2 n3;obtain⟨e2,rfl,q2⟩:=A1Y hN gr hv2;obtain⟨e3,rfl,q3⟩:=A2d hN gv2 hv3
  have hb3:b3=[]:=by
   by_cases z:b3=[]
   .exact z
   .rw[Dk z]at n4;cases n4
  subst hb3;have hf:s=Sp.elem 48 (e1.2.2++(e2.2.2++(e3.2.2++[]))):=hf;have hbd:(e1.2.2++(e2.2.2++(e3.2.2++[]))).length<=131072:=hbd;rw[q2,q3,DX]at hf hbd;obtain⟨x0,x1,x2,x3,x4,x5,x6,x7,x8,x9,y0,y1,y2,y3,y4,y5,y6⟩:=vl;dsimp only at k6 w1 w2;subst w1;cases hC:Yy N (x0,x1,x2,x3,x4,x5,x6,x7,x8,x9,y0,y1,y2,y3,y4,y5,b1)with
  | none=>rw[hC]at k6;cases k6
  | some c =>
   rw[hC,Jt]at k6;obtain⟨_,k7⟩:=stop k6;clear k6;cases hT:Vg N (x0,x1,x2,x3,x4,x5,x6,x7,x8,x9,y0,y1,y2,y3,y4,y5,b1)with
   | none=>rw[hT]at k7;cases k7
   | some t =>
    rw[hT,Jt]at k7;obtain⟨tb,te⟩:=t;dsimp only at k7;cases q5:te != 0 with
    | true =>exfalso;rw[q5]at k7;simp only[EI,Et,EF,DU,JI,cond_true]at k7;have k7:=Ei k7;injection k7 with _ z;cases z
    | false =>
     rw[q5]at k7;simp only[EI,Et,EF,DU,JI,cond_true,cond_false]at k7;have hte:te=0:=by simpa using q5
     cases q6: !(tb==x1)with
     | true =>exfalso;rw[q6,cond_true]at k7;have k7:=Ei k7;injection k7 with _ z;cases z
     | false =>
      rw[q6,cond_false]at k7;have htb:tb=x1:=by simpa using q6
      have k7:=Ei k7;injection k7 with z _;subst z;subst hte htb;refine⟨rfl,⟨_,hT,rfl⟩,?_⟩;show Ul N tb b1=some (x0,0);rw[w2];have h48:(ML e1.2.2 48).2=0:=by obtain⟨t,ht,rfl,_⟩:=g1;show(ML (Sp.raw t) 48).2=0;unfold ML;rw[A1P ht];show(bif (((KZ t).1) != 48)then _ else _:El×Int).2=0;rw[YQ t1];rfl
      rw[AxQ hN h48 hbd,<- hf]
end
section
variable {N:Nat} (hN:1048578<N)
include hN
theorem Apz (s:Bs) (hs:s.length<=1048576):Ends (fun _=>True) (jC N s):=by
 unfold jC;try simp only[clR]
 refine J9 (Di) ?_;have hl:(List.map (fun(b:UInt8)=>((b.toNat:Int))) s).length=s.length:=Dz _;have hb: ∀ x∈List.map (fun(b:UInt8)=>((b.toNat:Int))) s,isByte x=true:=fun x hx=>by obtain⟨b,_,rfl⟩:=DI.1 hx;have:=b.toNat_lt;unfold isByte;simp;omega
 generalize List.map (fun(b:UInt8)=>((b.toNat:Int))) s=L at hl hb ⊢;refine KP (fun(x:Bool×Int×List Int×List Int)=>0<=x.2.1/\x.2.1<=(s.length:Int)/\x.2.2.1=L/\(∀ y∈x.2.2.2,isByte y=true)/\(x.2.2.2.length:Int)<=2*x.2.1) (fun x=>((s.length:Int) - x.2.1).toNat) ?_ N _ ⟨by dsimp only;omega,by dsimp only;omega,rfl,(fun y hy=>by cases hy),by dsimp only;simp⟩ (by dsimp only;omega);rintro ⟨b,i,L2,acc⟩ ⟨i0,i1,rfl,i3,i4⟩ k hk;dsimp only at i0 i1 i3 i4 hk hl hb;dsimp only[U4];rw[hl];refine Jv (fun h=> ?_) (fun _=>J9 (by rw[D8];exact i3) (Ju trivial));have h:i<(s.length:Int):=D6 h;have hx:=hb _ (getD_mem (0:Int) (show i.toNat<L2.length by omega));refine J9 (Di i0) (J9 (Di h) (J9 (Di) ?_));rw[w64 (x:=i+1)];refine Jv (fun _=>hk _ ⟨by dsimp only;omega,by dsimp only;omega,rfl,i3,by dsimp only;omega⟩ (by dsimp only;omega)) (fun _=> ?_);refine KE (P:=fun x=>x.2.1=L2/\(∀ y∈x.2.2,isByte y=true)/\(x.2.2.length:Int)<=2*i+1) (fun j hj=>Jv (fun _=>J9 (Di) (hj _ ⟨rfl,OX i3 rfl,by dsimp only;rw[Dp];show((acc.length+1:Nat):Int)<=_;omega⟩)) (fun _=>hj _ ⟨rfl,i3,by dsimp only;omega⟩)) ?_;rintro ⟨b2,L3,acc2⟩ ⟨rfl,j3,j4⟩;dsimp only at j3 j4;dsimp only[U3];refine KE (P:=fun x=>isByte x.1=true/\x.2.1=L3/\x.2.2=acc2) (fun j hj=>Jv (fun _=>hj _ ⟨PY _,rfl,rfl⟩) (fun _=>hj _ ⟨hx,rfl,rfl⟩)) ?_;rintro ⟨v,L4,acc3⟩ ⟨v1,rfl,rfl⟩;dsimp only at v1 j3 j4 hl hk;dsimp only[U3];exact J9 (Di) (hk _ ⟨by dsimp only;omega,by dsimp only;omega,rfl,OX j3 v1,by dsimp only;rw[Dp];show((acc3.length+1:Nat):Int)<=_;omega⟩ (by dsimp only;omega))
omit hN in
theorem get_some {α :Type} {o:Option α} {Q: α ->Prop} (h:Ends Q o): ∃ v,o=some v:=by obtain⟨v,h,_⟩:=h;exact⟨v,h⟩
theorem AvB {a b:Bs} (ha:a.length<=1048576) (hb:b.length<=1048576):Ends (fun _=>True) (aQ N a b):=by unfold aQ;exact Jz (Apz hN a ha) fun _ _=>Jz (Apz hN b hb) fun _ _=>Ju trivial
def rdS (l:List Att):Prop:=l.length<=1048576/\ ∀ a∈l,XI a
theorem Apg {l:List Att} (hl:rdS l) {a:Att} (ha:XI a):Ends (fun _=>True) (Y2 N l a):=by
 obtain⟨a1,a2,a3⟩:=a;have hn:=hl.1;unfold Y2;try simp only[clR]
 refine KP (fun(x:Int×Att)=>0<=x.1/\x.1<=(l.length:Int)/\x.2=(a1,a2,a3)) (fun x=>((l.length:Int) - x.1).toNat) ?_ N _ ⟨by dsimp only;omega,by dsimp only;omega,rfl⟩ (by dsimp only;omega);rintro ⟨i,b1,b2,b3⟩ ⟨i0,i1,i2⟩ k hk;injection i2 with q1 q2;injection q2 with q2 q3;subst q1 q2 q3;dsimp only at i0 i1 hk;dsimp only[U4];refine Jv (fun h=> ?_) (fun _=>Ju trivial);have h:i<(l.length:Int):=D6 h;have hx:=hl.2 _ (getD_mem (([],0,[]):Att) (show i.toNat<l.length by omega));obtain⟨v,hv⟩:=get_some (AvB hN ha.2 hx.2);rw[hv,w64 (x:=i+1)];simp only[Option.isSome_some,Option.getD_some,DU,JI];refine J9 (Di i0) (J9 (Di h) ?_);exact Jv (fun _=>Ju trivial) (fun _=>hk _ ⟨by dsimp only;omega,by dsimp only;omega,rfl⟩ (by dsimp only;omega))
theorem Aw3 {a b:List Att} (ha:rdS a) (hb:rdS b):Ends (fun _=>True) (mQ N a b):=by
 have hn:=ha.1;unfold mQ;try simp only[clR]
 refine Jv (fun _=>Ju trivial) (fun hab=> ?_);have hab:(a.length:Int)=(b.length:Int):=by simpa using hab
 refine KP (fun(x:Int)=>0<=x/\x<=(a.length:Int)) (fun x=>((a.length:Int) - x).toNat) ?_ N _ ⟨by omega,by omega⟩;intro i ⟨i0,i1⟩ k hk;refine Jv (fun h=> ?_) (fun _=>Ju trivial);have h:i<(a.length:Int):=D6 h;have hx:=ha.2 _ (getD_mem (([],0,[]):Att) (show i.toNat<a.length by omega));have hy:=hb.2 _ (getD_mem (([],0,[]):Att) (show i.toNat<b.length by omega));obtain⟨v,hv⟩:=get_some (Apg hN hb hx);obtain⟨w,hw⟩:=get_some (Apg hN ha hy);rw[hv,hw,Jt,w64 (x:=i+1),Di i0,Di h,Di (show i<(b.length:Int) by omega)];simp only[Option.isSome_some,Option.getD_some,DU,JI];exact Jv (fun _=>Ju trivial) (fun _=>hk _ ⟨by omega,by omega⟩ (by omega))
def A4D (n:List (List Att)):Prop:=n.length<=1048576/\ ∀ r∈n,rdS r
omit hN in
theorem A0C {n:List (List Att)} (h:cpN n):A4D n:=⟨h.2.1,fun r hr=>⟨h.2.2 r hr,h.1 r hr⟩⟩
theorem Ar0 {a b:List (List Att)} (ha:cpN a) (hb:cpN b):Ends (fun _=>True) (VH N a b):=by
 have ha:=A0C ha;have hb:=A0C hb;have hn:=hb.1;unfold VH;try simp -zeta only[Ap]
 refine Jv (fun _=>Ju trivial) (fun hab=> ?_);have hab: ¬(b.length:Int)>(a.length:Int):=DY hab;refine KP (fun(x:Int×List (List Att)×List (List Att))=>0<=x.1/\x.1<=(b.length:Int)/\x.2.1=a/\x.2.2=b) (fun x=>((b.length:Int) - x.1).toNat) ?_ N _ ⟨by dsimp only;omega,by dsimp only;omega,rfl,rfl⟩ (by dsimp only;omega);rintro ⟨i,a',b'⟩ ⟨i0,i1,rfl,rfl⟩ k hk;dsimp only at i0 i1 hk ha hb hab hn;dsimp only[U3];refine Jv (fun h=> ?_) (fun _=>Ju trivial);have h:i<(b'.length:Int):=D6 h;have hx:=ha.2 _ (getD_mem ([]:List Att) (show i.toNat<a'.length by omega));have hy:=hb.2 _ (getD_mem ([]:List Att) (show i.toNat<b'.length by omega));refine J9 (Di i0) (J9 (Di) (J9 (Di i0) (J9 (Di h) ?_)));rw[w64 (x:=i+1)];exact Jz (Aw3 hN hx hy) fun _ _=>Jv (fun _=>Ju trivial) (fun _=>hk _ ⟨by dsimp only;omega,by dsimp only;omega,rfl,rfl⟩ (by dsimp only;omega))
theorem Abd {a b:List (List Att)} (ha:cpN a) (hb:cpN b):Ends (fun _=>True) (OL N a b):=by
 unfold OL;try simp only[clR]
 obtain⟨v,hv⟩:=get_some (Ar0 hN ha hb);rw[hv];simp only[Option.isSome_some,Option.getD_some,DU,JI];exact Ju trivial
end
end Go.Proofs.YtmgpaalplkkpnaaGreatDoor.Pl
