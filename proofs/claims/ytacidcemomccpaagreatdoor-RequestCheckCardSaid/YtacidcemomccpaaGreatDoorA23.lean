import Derived.Test.YtacidcemomccpaaGreatDoorA22
set_option linter.all false
namespace Go.Proofs.YtacidcemomccpaaGreatDoor.Pl
open IntKind (i64 u8 u32 u64)
open Go Vm
def W32 (w:List Int):List Int:=(List.range 8).flatMap λi=>[u8.wrap ((w.getD i 0).fdiv 16777216),u8.wrap ((w.getD i 0).fdiv 65536),u8.wrap ((w.getD i 0).fdiv 256),u8.wrap (w.getD i 0)]
def kF (N:Nat) (t6g:List Int):Option Bs :=
 Jy (X:=Int×List Int) (Y:=(List Int)) (U2 λt76h l1028672h k8 x9 =>
 bif decide (t76h<(t6g.length:Int))then(chk (decide ((0:Int)<=t76h)) <|
 chk (decide (t76h<(t6g.length:Int))) <|
 chk (decide ((l1028672h.length+4)*2<=140737488355328)) <|
 let y56576:List Int:=l1028672h++([u8.wrap ((t6g.getD t76h.toNat 0).fdiv (16777216)),u8.wrap ((t6g.getD t76h.toNat 0).fdiv (65536)),u8.wrap ((t6g.getD t76h.toNat 0).fdiv (256)),u8.wrap (t6g.getD t76h.toNat 0)]:List Int)
 k8 (i64.wrap (t76h+(1:Int)),y56576))
 else(x9 l1028672h))
 N (0,([]:List Int)) (λl1032768i =>
 chk (List.all l1032768i isByte) <|
 some (List.map Vm.byteOf l1032768i))
def Aa3:List Int:=[1779033703,3144134277,1013904242,2773480762,1359893119,2600822924,528734635,1541459225]
def blk4 (a b c d:UInt8):Bs:=[115,101,101,100,a,b,c,d,128]++List.replicate 54 0++[64]
def lI {α :Type} {b:Bool} {x y: α} (h:b=true):(bif b then x else y)=x:=by rw[h];rfl
def AeL {α :Type} {b:Bool} {x y: α} (h:b=false):(bif b then x else y)=y:=by rw[h];rfl
def Ax9 {α β ρ :Type} (f: α -> β -> ρ) (a: α) (b: β):U2 f (a,b)=f a b:=rfl
def Aw9 {α ρ :Type} [Inhabited α] {x y:Option α} {f g: α ->Option ρ} (h:x=y) (hf: ∀ r,f r=g r):Jq x f=Jq y g:=by rw[h,funext hf]
def Apw {α β γ δ ρ :Type} (f: α -> β -> γ -> δ -> ρ) (a: α) (b: β) (k: γ) (x: δ):U2 f (a,b) k x=f a b k x:=rfl
def AxA {α β ε γ δ ρ :Type} (f: α -> β -> ε -> γ -> δ -> ρ) (a: α) (b: β) (c: ε) (k: γ) (x: δ):U3 f (a,b,c) k x=f a b c k x:=rfl
def pd4:List Int:=[128]++List.replicate 54 0++[64]
def Azn (M:Nat) (a b c d:UInt8):Uk (M+300) [[115,101,101,100],[a,b,c,d]]=Jq (QO (M+300) Aa3 (blk4 a b c d)) (kF (M+300)):=by
 unfold Uk;try simp -zeta only[Ap]
 generalize QO (M+300)=R;refine((?h1: ∀ K:Bs->Option Bs,Jy _ (M+300) (([]:Bs),(0:Int)) K=K [115,101,101,100,a,b,c,d]) _).trans ?_
 case h1 =>
  intro K
  iterate 2
   refine(KL _ _ _ _).trans ?_;refine(Apw _ _ _ _ _).trans ?_;refine(lI (by kernel_rfl)).trans ?_
   iterate 3 refine(JV _).trans ?_
  refine(KL _ _ _ _).trans ?_;refine(Apw _ _ _ _ _).trans ?_;exact(AeL (by kernel_rfl)).trans rfl
 rw[OW];rw[show(i64.wrap (64 - (i64.wrap ((([115,101,101,100,a,b,c,d]:Bs).length:Int)+9)).tmod 64)==64)=false by kernel_rfl,cond_false];rw[show i64.wrap (64 - (i64.wrap ((([115,101,101,100,a,b,c,d]:Bs).length:Int)+9)).tmod 64)=47 by kernel_rfl];refine(Ax9 _ _ _).trans ?_
 iterate 5 refine(JV _).trans ?_
 refine((?h2: ∀ K:List Int×List Int->Option Bs,Jy _ (M+300) ((0:Int),Aa3,_) K=K (Aa3,pd4)) _).trans ?_
 case h2 =>
  intro K
  iterate 8
   refine(KL _ _ _ _).trans ?_;refine(AxA _ _ _ _ _ _).trans ?_;refine(lI (by kernel_rfl)).trans ?_
   iterate 4 refine(JV _).trans ?_
  refine(KL _ _ _ _).trans ?_;refine(AxA _ _ _ _ _ _).trans ?_;refine(AeL (by kernel_rfl)).trans ?_;exact congrArg (λl=>K (Aa3,l)) (DC (by kernel_rfl))
 refine(Ax9 _ _ _).trans ?_
 iterate 2 refine(JV _).trans ?_
 refine((?h3: ∀ K:List Int->Option Bs,Jy _ (M+300) (Aa3,(0:Int)) K=Jq (R Aa3 (blk4 a b c d)) K) _).trans ?_
 case h3 =>
  intro K;refine(KL _ _ _ _).trans ?_;refine(Apw _ _ _ _ _).trans ?_;refine(lI (by kernel_rfl)).trans ?_
  iterate 3 refine(JV _).trans ?_
  refine Aw9 (congrArg (R Aa3) ?_) λr=> ?_
  .rfl
  .refine(KL _ _ _ _).trans ?_;refine(Apw _ _ _ _ _).trans ?_;exact AeL (by kernel_rfl)
 rfl
def Ayt (M:Nat) (a b c d:UInt8):((QO (M+300) Aa3 (blk4 a b c d)).map List.length)=some 8:=by kernel_rfl
def kF8 (M:Nat) (a b c d e f g h:Int):kF (M+300) [a,b,c,d,e,f,g,h]=chk (List.all (W32 [a,b,c,d,e,f,g,h]) isByte) (some (List.map Vm.byteOf (W32 [a,b,c,d,e,f,g,h]))):=by kernel_rfl
def Av2 (M:Nat) (p:Int): ∃ s,SA (M+300) p=some s/\s.length=32:=by
 have e:PN (M+300) p=some (b4P p):=by
  unfold PN;try simp -zeta only[Ap]
  rw[JV _ (by simp [OZ])];rfl
 unfold SA;rw[e,Js];obtain⟨a,b,c,d,hb⟩: ∃ a b c d,b4P p=[a,b,c,d]:=⟨_,_,_,_,rfl⟩
 rw[hb,Azn];obtain⟨w,hw,hl⟩:=Option.map_eq_some_iff.1 (Ayt M a b c d);rw[hw,Js]
 match w,hl with
 | [a,b,c,d,e,f,g,h],_ =>rw[kF8,JV _ (by simp [W32,OZ,H7]),Js];exact⟨_,rfl,by simp [W32,H7]⟩
def Ay2:List Int:=[0,1000,2000000000,3155759999,3155760000,254033452799,2400000000]
structure Azr (se:Int) (is su:List (List Att)) (nb nf kh:Int) (ki kr:Bs) (x:Info):Prop where
 se:1<=se/\se<=300
 is:MG is
 su:MG su
 nb:nb∈Ay2
 nf:nf∈Ay2
 kh:0<=kh/\kh<9
 ki:ki.length=16
 kr:kr.length=16
 x:PX x
section
variable (N:Nat) (hN:1048700<N) {L:List Int} (hL:L.length<=9223372036854775807)
include hN hL
theorem AuV {d:List Int×Int} (hd:KJ L d):Ends (λr=>((0<=r.1.1/\r.1.1<9)/\r.1.2.1.length=16/\r.1.2.2.length=16)/\KJ L r.2) (vH N d):=by
 unfold vH;try simp only[clR]
 refine JF (nx N hL hd 50 (by omega)) ?_;rintro ⟨r,e⟩ ⟨h0,h1,h2⟩;dsimp only at h0 h1 h2 ⊢;obtain⟨s,e2,hs⟩: ∃ s,SA N r=some s/\s.length=32:=by have:=Av2 (N - 300) r;rwa [show N - 300+300=N by omega]at this
 rw[e2,Js];refine JF (nx N hL h2 9 (by omega)) ?_;rintro ⟨r,e⟩ ⟨h0,h1,h2⟩;dsimp only at h0 h1 h2 ⊢;refine JK (Dk) (JK (Dk) (KU ⟨⟨⟨h0,h1⟩,?_,?_⟩,h2⟩))
 .dsimp only;unfold J4;rw[DU,D9];omega
 .dsimp only;unfold J4;rw[DU,D9];omega
end
abbrev Apl:Type:=Bs×Bs×List (List Att)×Int×Bs×Bs×Bool×Bool×Int×Int×List Bs×List Bs×List (Bs×Bs)×Int×Int×Int×List Gn×Bool×List Gn×List Gn×Bs×Bs×List Pt×List Pt×List Ex×Bs
def Pm (c:Apl):Info:=(c.2.2.2.2.2.2.1,c.2.2.2.2.2.2.2.1,c.2.2.2.2.2.2.2.2.1,c.2.2.2.2.2.2.2.2.2.1,c.2.2.2.2.2.2.2.2.2.2.1,c.2.2.2.2.2.2.2.2.2.2.2.1,c.2.2.2.2.2.2.2.2.2.2.2.2.1,c.2.2.2.2.2.2.2.2.2.2.2.2.2.1,c.2.2.2.2.2.2.2.2.2.2.2.2.2.2.1,c.2.2.2.2.2.2.2.2.2.2.2.2.2.2.2.1,c.2.2.2.2.2.2.2.2.2.2.2.2.2.2.2.2.1,c.2.2.2.2.2.2.2.2.2.2.2.2.2.2.2.2.2.1,c.2.2.2.2.2.2.2.2.2.2.2.2.2.2.2.2.2.2.1,c.2.2.2.2.2.2.2.2.2.2.2.2.2.2.2.2.2.2.2.1,c.2.2.2.2.2.2.2.2.2.2.2.2.2.2.2.2.2.2.2.2.1,c.2.2.2.2.2.2.2.2.2.2.2.2.2.2.2.2.2.2.2.2.2.1,c.2.2.2.2.2.2.2.2.2.2.2.2.2.2.2.2.2.2.2.2.2.2.1,c.2.2.2.2.2.2.2.2.2.2.2.2.2.2.2.2.2.2.2.2.2.2.2.1,c.2.2.2.2.2.2.2.2.2.2.2.2.2.2.2.2.2.2.2.2.2.2.2.2.1)
def nC (su:List (List Att)) (k:Int×Bs×Bs) (x:Info):Int:=bif Og su != 0 then Og su else bif vC k != 0 then vC k else Qp x
def sS (c:Apl):Int:=nC c.2.2.1 (c.2.2.2.1,c.2.2.2.2.1,c.2.2.2.2.2.1) (Pm c)
structure AkK (c:Apl):Prop where
 su:MG c.2.2.1
 x:PX (Pm c)
section
variable (N:Nat) (hN:1048578<N)
include hN
theorem Ab4 (c:Apl) (hs:AkK c):RS N c=some (sS c):=by
 obtain⟨raw,bd,su,kh,ki,kr,B,C,pl,D,F,G,H,J,K,L,M,O,P,Q,R,S,T,U,V,sg⟩:=c;have h2:MG su:=hs.su;have h3:RP N (B,C,pl,D,F,G,H,J,K,L,M,O,P,Q,R,S,T,U,V)=some (Qp (B,C,pl,D,F,G,H,J,K,L,M,O,P,Q,R,S,T,U,V)):=iT N (B,C,pl,D,F,G,H,J,K,L,M,O,P,Q,R,S,T,U,V) hN hs.x;unfold RS sS Pm nC;try simp -zeta only[Ap]
 try dsimp only
 rw[Xn N _ hN h2,lW,h3];generalize Qp (B,C,pl,D,F,G,H,J,K,L,M,O,P,Q,R,S,T,U,V)=I;simp only[Js,JX]
theorem yZ (c:Apl) (hs:AkK c):Ob N c=some (sS c):=by
 obtain⟨raw,bd,su,kh,ki,kr,B,C,pl,D,F,G,H,J,K,L,M,O,P,Q,R,S,T,U,V,sg⟩:=c;have h2:MG su:=hs.su;have h3:Qu N (B,C,pl,D,F,G,H,J,K,L,M,O,P,Q,R,S,T,U,V)=some (Qp (B,C,pl,D,F,G,H,J,K,L,M,O,P,Q,R,S,T,U,V)):=zA N (B,C,pl,D,F,G,H,J,K,L,M,O,P,Q,R,S,T,U,V) hN hs.x;unfold Ob sS Pm nC;try simp -zeta only[Ap]
 try dsimp only
 rw[ZM N _ hN h2,AlW,lW,h3];generalize Qp (B,C,pl,D,F,G,H,J,K,L,M,O,P,Q,R,S,T,U,V)=I;simp only[Js,JX]
omit hN in
theorem takeB (N:Nat) (b:Bool) (s:Bs) (e:Int):Kq N b s e=some (s,b||(e != 0)):=by
 rw[TD];by_cases h:e=0
 .subst h;rfl
 .rw[Dk h,VB h]
def Yu (x:Info):Option Bs:=bif (encI x).2 != 0 then none else bif (encI x).1.isEmpty then some []else bif (Tv (encI x).1).2 != 0 then none else KR 160 (Tv (encI x).1).1
omit hN in
theorem As8 (l:List Ex):(Tv l).1.length<=131077:=by
 unfold Tv;cases Yt l != 0 with
 | true=>exact Eb _
 | false =>
  cases l.any (λx=>(RI x).isNone)with
  | true=>exact Eb _
  | false=>exact AdM 48 _
omit hN in
theorem AuK {x:Info} {v:Bs} (h:Yu x=some v):v.length<=131077:=by
 have e:v.length=((Yu x).getD []).length:=by rw[h];rfl
 rw[e];unfold Yu;cases (encI x).2 != 0 with
 | true=>exact Eb _
 | false =>
  cases (encI x).1.isEmpty with
  | true=>exact Eb _
  | false =>
   cases (Tv (encI x).1).2 != 0 with
   | true=>exact Eb _
   | false=>exact dB
theorem Axj (x:Info) (hx:PX x): ∃ s e,PQ N 160 x=some (s,e)/\(e != 0)=(Yu x).isNone/\ ∀ v,Yu x=some v->s=v:=by
 unfold PQ Yu;try simp -zeta only[Ap]
 rw[AiY N x hN hx,Js,len0];have hsm:=(AoM hN hx).1;try simp only[clR]
 cases he:(encI x).2 != 0 with
 | true=>exact⟨[],_,rfl,he,(λv h=>by cases h)⟩
 | false =>
  rw[EL,cond_false];cases hl:(encI x).1.isEmpty with
  | true=>exact⟨[],_,rfl,he,(λv h=>Fv h)⟩
  | false =>
   rw[cond_false,cond_false];unfold dU;rw[AiX N hN _ hsm,Js];have hle:=As8 (encI x).1;cases h2:(Tv (encI x).1).2 != 0 with
   | true=>exact⟨[],_,rfl,h2,(λv h=>by cases h)⟩
   | false =>
    rw[cond_false,cond_false,show(160:Int)=((160:Nat):Int)from rfl,aO N 160 _ (by omega) (by omega) (by simp;omega) (by simp) (by rw[JL];omega),Js,JL];refine⟨_,_,rfl,?_,(λv h=> ?_)⟩
    .show((if(KR 160 (Tv (encI x).1).1).isNone=true then(2:Int)else 0) != 0)=_;cases (KR 160 (Tv (encI x).1).1)<;>rfl
    .rw[h];rfl
def rH (su:List (List Att)) (k:Int×Bs×Bs) (v:Bs):Bs:=[Amk 0,nmB su,AlV k,v].flatten
def AbM (su:List (List Att)) (k:Int×Bs×Bs) (x:Info):Bs×Int :=
 bif nC su k x != 0 then([],nC su k x)else match Yu x with
 | none=>([],2)
 | some v=>VH 48 (rH su k v)
omit hN in
theorem Ao9 {su:List (List Att)} {k:Int×Bs×Bs} {x:Info} (h:nC su k x=0):Og su=0/\vC k=0/\Qp x=0:=by unfold nC at h;obtain⟨h4,h⟩:=sW h;obtain⟨h5,h6⟩:=sW h;exact⟨h4,h5,h6⟩
theorem AfY {su:List (List Att)} {k:Int×Bs×Bs} {v:Bs} (h4:Og su=0) (h5:vC k=0) (hv:v.length<=131077):(rH su k v).length<=1000000:=by have a1:=(Ahx N hN 0).2.2;have a9:=(iG h4).1;have a10:=(Ahq N hN h5).2.2;unfold rH;simp only[List.flatten_cons,List.flatten_nil,Dp,List.length_nil];omega
theorem AiW (c:Apl) (hs:AkK c):UF N c=some (AbM c.2.2.1 (c.2.2.2.1,c.2.2.2.2.1,c.2.2.2.2.2.1) (Pm c)):=by
 have hC:=yZ N hN c hs;have hxs:=hs.x;have h2:=hs.su;unfold sS at hC;unfold UF;try simp -zeta only[Ap]
 rw[hC,Js];have hX:PQ N 160 (c.2.2.2.2.2.2.1,c.2.2.2.2.2.2.2.1,c.2.2.2.2.2.2.2.2.1,c.2.2.2.2.2.2.2.2.2.1,c.2.2.2.2.2.2.2.2.2.2.1,c.2.2.2.2.2.2.2.2.2.2.2.1,c.2.2.2.2.2.2.2.2.2.2.2.2.1,c.2.2.2.2.2.2.2.2.2.2.2.2.2.1,c.2.2.2.2.2.2.2.2.2.2.2.2.2.2.1,c.2.2.2.2.2.2.2.2.2.2.2.2.2.2.2.1,c.2.2.2.2.2.2.2.2.2.2.2.2.2.2.2.2.1,c.2.2.2.2.2.2.2.2.2.2.2.2.2.2.2.2.2.1,c.2.2.2.2.2.2.2.2.2.2.2.2.2.2.2.2.2.2.1,c.2.2.2.2.2.2.2.2.2.2.2.2.2.2.2.2.2.2.2.1,c.2.2.2.2.2.2.2.2.2.2.2.2.2.2.2.2.2.2.2.2.1,c.2.2.2.2.2.2.2.2.2.2.2.2.2.2.2.2.2.2.2.2.2.1,c.2.2.2.2.2.2.2.2.2.2.2.2.2.2.2.2.2.2.2.2.2.2.1,c.2.2.2.2.2.2.2.2.2.2.2.2.2.2.2.2.2.2.2.2.2.2.2.1,c.2.2.2.2.2.2.2.2.2.2.2.2.2.2.2.2.2.2.2.2.2.2.2.2.1)=PQ N 160 (Pm c):=rfl;rw[hX];generalize Pm c=x at hxs ⊢;generalize (c.2.2.2.1,c.2.2.2.2.1,c.2.2.2.2.2.1)=k;generalize c.2.2.1=su at h2 ⊢;unfold AbM;by_cases h0:nC su k x=0
 .obtain⟨c4,c5,c6⟩:=Ao9 h0;rw[h0,show((0:Int) != 0)=false from rfl,cond_false,cond_false];rw[xJ N su hN h2,c4,Js,(Ahq N hN c5).2.1,Js];obtain⟨s,e,q1,q2,q3⟩:=Axj N hN x hxs;rw[q1,Js];dsimp only;rw[q2];cases hv:Yu x with
  | none=>rfl
  | some v =>have hs:=q3 v hv;subst hs;have pl:=AfY N hN (v:=s) c4 c5 (AuK hv);rw[show(some s).isNone=false from rfl,cond_false,(Ahx N hN 0).2.1,Js,show(48:Int)=((48:Nat):Int)from rfl];rw[show((0:Int) != 0)=false from rfl,cond_false];rw[aO N 48 _ (by omega) (by omega) (by simp;omega) (by simp) (GK (show _<=1000000 from pl) (by omega)),Js];rfl
 .rw[show(nC su k x != 0)=true from EM.2 h0];rfl
omit hN in
theorem Aza (b:Bool):MC N b=some (b,b):=by kernel_rfl
theorem Aoo (c:Apl) (hs:AkK c):OG N c=some (AbM c.2.2.1 (c.2.2.2.1,c.2.2.2.2.1,c.2.2.2.2.2.1) (Pm c)):=by
 have hC:=Ab4 N hN c hs;have hxs:=hs.x;have h2:=hs.su;unfold sS at hC;unfold OG;try simp -zeta only[Ap]
 rw[hC,Js];by_cases h0:nC c.2.2.1 (c.2.2.2.1,c.2.2.2.2.1,c.2.2.2.2.2.1) (Pm c)=0
 .obtain⟨c4,c5,c6⟩:=Ao9 h0;rw[h0,show((0:Int) != 0)=false from rfl,cond_false]
  have fin: ∀(b:Bool) (t:Bs),t.length<=131077->(Jq (ND N b 0) λr42=>Jq (TM N c.2.2.1) λr46=>Jq (Kq N r42.2 r46.1 r46.2) λr49=>Jq (TR N (c.2.2.2.1,c.2.2.2.2.1,c.2.2.2.2.2.1)) λr53 =>
   Jq (Kq N r49.2 r53.1 r53.2) λr56=>Jq (JR N r56.2 [r42.1,r49.1,r56.1,t]) λr59=>Jq (MC N r59.2) λr61=>bif r61.1 then some (([]:Bs),2)else some (r59.1,(0:Int))) =
   some (bif b||(KR 48 (rH c.2.2.1 (c.2.2.2.1,c.2.2.2.2.1,c.2.2.2.2.2.1) t)).isNone then([],2)else((KR 48 (rH c.2.2.1 (c.2.2.2.1,c.2.2.2.2.1,c.2.2.2.2.2.1) t)).getD [],0)):=by
   intro b t ht;have pl:=AfY N hN (v:=t) c4 c5 ht;rw[(Ahx N hN 0).1,Js,lS N _ hN h2,c4,Js,takeB,Js];dsimp only;rw[(Ahq N hN c5).1,Js,takeB,Js];dsimp only;rw[show((0:Int) != 0)=false from rfl,cond_false];simp only[EO];rw[ArK N _ _ (by simp;omega) (by simp),Js,Aza,Js];dsimp only;unfold rH;generalize KR 48 _=o;cases o<;>cases b<;>rfl
  rw[OW];dsimp only[U28];refine(congrArg (λo=>Jq o _) (Acs N (Pm c) hN hxs)).trans ?_;rw[Js];have hsm:=(AoM hN hxs).1;unfold AbM;rw[h0,show((0:Int) != 0)=false from rfl,cond_false];cases he:(encI (Pm c)).2 != 0 with
  | true =>
   have e:Yu (Pm c)=none:=by unfold Yu;rw[he];rfl
   rw[e,cond_true,takeB,Js,he];exact fin true [] (Eb _)
  | false =>
   rw[cond_false];cases hl:(encI (Pm c)).1.isEmpty with
   | true =>
    have e:Yu (Pm c)=some []:=by unfold Yu;rw[he,hl];rfl
    rw[e,G9.1 hl,show decide ((([]:List Ex).length:Int)>0)=false from rfl,cond_false];refine(fin false [] (Eb _)).trans ?_;show some _=some (VH 48 _);unfold VH;generalize KR 48 _=o;cases o<;>rfl
   | false =>
    have h3:((encI (Pm c)).1.length:Int)>0:=by
     have:(encI (Pm c)).1≠ []:=λh=>by rw[h]at hl;cases hl
     have:=FY.2 this;omega
    rw[Dk h3,cond_true,Ajj N hN _ hsm,Js,takeB,Js];dsimp only;rw[show(160:Int)=((160:Nat):Int)from rfl,Ag6 N 160 _ _ (by omega) (by omega) (by simp;omega) (by simp),Js,JL];refine(fin _ _ dB).trans ?_;have e:Yu (Pm c)=bif (Tv (encI (Pm c)).1).2 != 0 then none else KR 160 (Tv (encI (Pm c)).1).1:=by unfold Yu;rw[he,hl];rfl
    rw[e];cases h2:(Tv (encI (Pm c)).1).2 != 0 with
    | true=>rw[EP,DZ,DZ];rfl
    | false =>
     rw[cond_false];cases KR 160 (Tv (encI (Pm c)).1).1 with
     | none=>rfl
     | some v =>show some _=some (VH 48 _);unfold VH;dsimp only[Option.getD_some];generalize KR 48 _=o;cases o<;>rfl
 .unfold AbM;rw[VB h0];rfl
end
def jS {X X' Y Y' ρ ρ':Type} {B:X->(X->Option ρ)->(Y->Option ρ)->Option ρ} {B':X'->(X'->Option ρ')->(Y'->Option ρ')->Option ρ'} {kx:Y->Option ρ} {kx':Y'->Option ρ'} (Q:Option ρ ->Option ρ'->Prop) (R:X->X'->Prop) (μ :X->Nat)
 (h: ∀ x x',R x x'-> ∀ k k',(∀ y y',R y y'-> μ y< μ x->Q (k y) (k' y'))->Q (B x k kx) (B' x' k' kx')): ∀(N:Nat) (x:X) (x':X'),R x x'-> μ x<N->Q (Jy B N x kx) (Jy B' N x' kx'):=by
 intro N
 induction N with
 | zero=>intro x x' _ h;omega
 | succ N ih=>intro x x' hR hm;exact h x x' hR _ _ λy y' hy hl=>ih y y' hy (by omega)
def toL (p:Y8T):List Int:=[p.1,p.2.1,p.2.2.1,p.2.2.2.1,p.2.2.2.2.1,p.2.2.2.2.2.1,p.2.2.2.2.2.2.1,p.2.2.2.2.2.2.2]
def Both (o:Option Y8T) (o':Option (List Int)):Prop:= ∃ v,o=some v/\o'=some (toL v)
def Both.chk {c:Bool} {o:Option Y8T} {o':Option (List Int)} (hc:c=true) (h:Both o o'):Both (Vm.chk c o) o':=by rw[hc];exact h
def Both.Aac {c:Bool} {o:Option Y8T} {o':Option (List Int)} (hc:c=true) (h:Both o o'):Both o (Vm.chk c o'):=by rw[hc];exact h
def AtQ (a b c:Int):u32.wrap (u32.wrap (a+b)+c)=u32.wrap (a+u32.wrap (b+c)):=by show(_:Int) % 4294967296=(_:Int) % 4294967296;show((a+b) % 4294967296+c) % 4294967296=(a+(b+c) % 4294967296) % 4294967296;omega
def t7 (N:Nat) (x:Int):L9 N x 7=some (J9 .or .u32 (x.fdiv 128) (u32.wrap (x*33554432))):=rfl
def t18 (N:Nat) (x:Int):L9 N x 18=some (J9 .or .u32 (x.fdiv 262144) (u32.wrap (x*16384))):=rfl
def t17 (N:Nat) (x:Int):L9 N x 17=some (J9 .or .u32 (x.fdiv 131072) (u32.wrap (x*32768))):=rfl
def t19 (N:Nat) (x:Int):L9 N x 19=some (J9 .or .u32 (x.fdiv 524288) (u32.wrap (x*8192))):=rfl
def t6 (N:Nat) (x:Int):L9 N x 6=some (J9 .or .u32 (x.fdiv 64) (u32.wrap (x*67108864))):=rfl
def t11 (N:Nat) (x:Int):L9 N x 11=some (J9 .or .u32 (x.fdiv 2048) (u32.wrap (x*2097152))):=rfl
def t25 (N:Nat) (x:Int):L9 N x 25=some (J9 .or .u32 (x.fdiv 33554432) (u32.wrap (x*128))):=rfl
def t2 (N:Nat) (x:Int):L9 N x 2=some (J9 .or .u32 (x.fdiv 4) (u32.wrap (x*1073741824))):=rfl
def t13 (N:Nat) (x:Int):L9 N x 13=some (J9 .or .u32 (x.fdiv 8192) (u32.wrap (x*524288))):=rfl
def t22 (N:Nat) (x:Int):L9 N x 22=some (J9 .or .u32 (x.fdiv 4194304) (u32.wrap (x*1024))):=rfl
def AoS (b:Bs) (i:Nat):(b.map iN).getD i 0=((b.getD i 0).toNat:Int):=by rw[Dn,Dn,Ep];cases b[i]? <;>rfl
def Agh:List Int:=[1116352408,1899447441,3049323471,3921009573,961987163,1508970993,2453635748,2870763221,3624381080,310598401,607225278,1426881987,1925078388,2162078206,2614888103,3248222580,3835390401,4022224774,264347078,604807628,770255983,1249150122,1555081692,1996064986,2554220882,2821834349,2952996808,3210313671,3336571891,3584528711,113926993,338241895,666307205,773529912,1294757372,1396182291,1695183700,1986661051,2177026350,2456956037,2730485921,2820302411,3259730800,3345764771,3516065817,3600352804,4094571909,275423344,430227734,506948616,659060556,883997877,958139571,1322822218,1537002063,1747873779,1955562222,2024104815,2227730452,2361852424,2428436474,2756734187,3204031479,3329325298]
section
variable {N:Nat} (hN:70<=N)
include hN
theorem Aze (a b c d e f g h p0 p1 p2 p3 p4 p5 p6 p7:Int):(Jy (X:=Int×List Int×List Int×List Int) (Y:=(List Int×List Int)) (U4 λt204g l33280g l33792g l35584g k7 x8 =>
 bif decide (t204g<(8:Int))then(chk (decide ((0:Int)<=t204g)) <|
 chk (decide (t204g<(8:Int))) <|
 chk (decide (t204g.toNat<l35584g.length)) <|
 chk (decide (t204g.toNat<l35584g.length)) <|
 chk (decide ((0:Int)<=t204g)) <|
 chk (decide (t204g<(8:Int))) <|
 chk (decide (t204g.toNat<l33280g.length)) <|
 chk (decide (t204g.toNat<l33280g.length)) <|
 let x213:Int:=u32.wrap ((l35584g.getD t204g.toNat 0)+(l33280g.getD t204g.toNat 0))
 chk (decide ((0:Int)<=t204g)) <|
 chk (decide (t204g<(8:Int))) <|
 chk (decide (t204g.toNat<l35584g.length)) <|
 chk (decide (t204g.toNat<l35584g.length)) <|
 k7 (i64.wrap (t204g+(1:Int)),l33280g,l33792g,l35584g.set t204g.toNat x213))
 else(x8 (l33792g,l35584g)))
 N (0,toL (p0,p1,p2,p3,p4,p5,p6,p7),List.replicate 8 0,[a,b,c,d,e,f,g,h]) (U2 λl33792h l35584h =>
 chk (Nat.ble 8 l35584h.length) <|
 chk (Nat.beq 8 l33792h.length) <|
 some ((l35584h.getD 0 0),(l35584h.getD 1 0),(l35584h.getD 2 0),(l35584h.getD 3 0),(l35584h.getD 4 0),(l35584h.getD 5 0),(l35584h.getD 6 0),(l35584h.getD 7 0))))=some (u32.wrap (a+p0),u32.wrap (b+p1),u32.wrap (c+p2),u32.wrap (d+p3),u32.wrap (e+p4),u32.wrap (f+p5),u32.wrap (g+p6),u32.wrap (h+p7)):=by
 obtain⟨M,rfl⟩:=Ir hN;kernel_rfl
theorem ApB (p:Y8T) (b:Bs) (hb:b.length=64):Both (LY N p (b.map iN)) (QO N (toL p) b):=by
 unfold LY QO;try simp -zeta only[Ap]
 refine jS Both (fun(x:Int×List Int×List Int×List Int) (x':Int×List Int×List Int)=>0<=x.1/\x.1<=16/\x.2.1=toL p/\x.2.2.1=List.replicate 8 0/\x.2.2.2.length=64/\x'.1=x.1/\x'.2.1=x.2.2.2/\x'.2.2=Agh) (λx=>(16 - x.1).toNat) ?_ N _ _ ⟨by dsimp only;omega,by dsimp only;omega,rfl,rfl,by dsimp only;simp,rfl,rfl,rfl⟩ (by dsimp only;omega)
 .rintro ⟨t,h8,z8,w⟩ ⟨t',w',K'⟩ ⟨r0,r1,r2,r3,r4,r5,r6,r7⟩ k k' hk;dsimp only at r0 r1 r2 r3 r4 r5 r6 r7 hk;subst r2 r3 r5 r6 r7;dsimp only[U4,U3];have hbl:(b.map iN).length=64:=by rw[D5];exact hb
  by_cases ht:t'<16
  .simp (disch:=omega) only[JD,hbl,hb,r4,AoS];exact hk _ _ ⟨by dsimp only;omega,by dsimp only;omega,rfl,rfl,by rw[FN];exact r4,rfl,rfl,rfl⟩ (by dsimp only;omega)
  .rw[Dq ht,cond_false,cond_false];clear hk k k' r0 r1 ht;refine jS Both (fun(x:Int×List Int×List Int×List Int) (x':Int×List Int×List Int)=>16<=x.1/\x.1<=64/\x.2.1=toL p/\x.2.2.1=List.replicate 8 0/\x.2.2.2.length=64/\x'.1=x.1/\x'.2.1=x.2.2.2/\x'.2.2=Agh) (λx=>(64 - x.1).toNat) ?_ N _ _ ⟨by dsimp only;omega,by dsimp only;omega,rfl,rfl,r4,rfl,rfl,rfl⟩ (by dsimp only;omega);rintro ⟨t,h8,z8,w⟩ ⟨t',w',K'⟩ ⟨r0,r1,r2,r3,r4,r5,r6,r7⟩ k k' hk;dsimp only at r0 r1 r2 r3 r4 r5 r6 r7 hk;subst r2 r3 r5 r6 r7;dsimp only[U4,U3];by_cases ht:t'<64
   .simp (disch:=omega) only[JD,r4,t7,t18,t17,t19];exact hk _ _ ⟨by dsimp only;omega,by dsimp only;omega,rfl,rfl,by rw[FN];exact r4,rfl,rfl,rfl⟩ (by dsimp only;omega)
   .rw[Dq ht,cond_false,cond_false];clear hk k k' r0 r1 ht;have hr:nY N=some _:=rfl;rw[hr,Js];refine Both.chk rfl (Both.chk rfl (Both.chk rfl ?_));refine Both.Aac rfl (Both.Aac rfl (Both.Aac rfl (Both.Aac rfl (Both.Aac rfl (Both.Aac rfl (Both.Aac rfl (Both.Aac rfl ?_)))))));refine jS Both (fun(x:Int×List Int×List Int×List Int×List Int×List Int) (x':Int×Int×Int×Int×Int×Int×Int×Int×Int×List Int×List Int)=>0<=x.1/\x.1<=64/\x.2.1=toL p/\x.2.2.1=List.replicate 8 0/\x.2.2.2.1.length=64/\x.2.2.2.2.1=Agh/\x.2.2.2.2.2=[x'.1,x'.2.1,x'.2.2.1,x'.2.2.2.1,x'.2.2.2.2.1,x'.2.2.2.2.2.1,x'.2.2.2.2.2.2.1,x'.2.2.2.2.2.2.2.1]/\x'.2.2.2.2.2.2.2.2.1=x.1/\x'.2.2.2.2.2.2.2.2.2.1=x.2.2.2.1/\x'.2.2.2.2.2.2.2.2.2.2=Agh) (λx=>(64 - x.1).toNat) ?_ N _ _ ⟨by dsimp only;omega,by dsimp only;omega,rfl,rfl,r4,rfl,rfl,rfl,rfl,rfl⟩ (by dsimp only;omega);clear r4;rintro ⟨t,h8,z8,w,K,v⟩ ⟨a,b,c,d,e,f,g,h,t',w',K'⟩ ⟨r0,r1,r2,r3,r4,r5,r6,r7,r8,r9⟩ k k' hk;dsimp only at r0 r1 r2 r3 r4 r5 r6 r7 r8 r9 hk;subst r2 r3 r5 r6 r7 r8 r9;dsimp only[U6,U11];have rl:Agh.length=64:=rfl;have vl:([a,b,c,d,e,f,g,h]:List Int).length=8:=rfl;have g0:([a,b,c,d,e,f,g,h]:List Int).getD 0 0=a:=rfl;have g1:([a,b,c,d,e,f,g,h]:List Int).getD 1 0=b:=rfl;have g2:([a,b,c,d,e,f,g,h]:List Int).getD 2 0=c:=rfl;have g3:([a,b,c,d,e,f,g,h]:List Int).getD 3 0=d:=rfl;have g4:([a,b,c,d,e,f,g,h]:List Int).getD 4 0=e:=rfl;have g5:([a,b,c,d,e,f,g,h]:List Int).getD 5 0=f:=rfl;have g6:([a,b,c,d,e,f,g,h]:List Int).getD 6 0=g:=rfl;have g7:([a,b,c,d,e,f,g,h]:List Int).getD 7 0=h:=rfl;have nb:Nat.beq 8 8=true:=rfl;by_cases ht:t'<64
    .simp (disch:=omega) only[JD,r4,rl,vl,g0,g1,g2,g3,g4,g5,g6,g7,nb,t6,t11,t25,t2,t13,t22,AtQ];exact hk _ _ ⟨by dsimp only;omega,by dsimp only;omega,rfl,rfl,r4,rfl,rfl,rfl,rfl,rfl⟩ (by dsimp only;omega)
    .rw[Dq ht,cond_false,cond_false];dsimp only[U3,U8];obtain⟨p0,p1,p2,p3,p4,p5,p6,p7⟩:=p;clear hk k k' r4 hb;have ha:=Aze hN a b c d e f g h p0 p1 p2 p3 p4 p5 p6 p7;refine⟨_,ha,?_⟩;show some _=some _;have cm: ∀ x y:Int,u32.wrap (x+y)=u32.wrap (y+x):=λx y=>by rw[Int.add_comm]
     rw[cm a,cm b,cm c,cm d,cm e,cm f,cm g,cm h];rfl
end
def bk (N:Nat) (p:Y8T) (b:Bs):Y8T:=(LY N p (b.map iN)).getD default
def ini:Y8T:=(1779033703,3144134277,1013904242,2773480762,1359893119,2600822924,528734635,1541459225)
def abF (N:Nat):Nat->Y8T->Bs->Y8T×Bs
 | 0,p,l=>(p,l)
 | f+1,p,l=>if 64<=l.length then abF N f (bk N p (l.take 64)) (l.drop 64)else(p,l)
def ab (N:Nat) (p:Y8T) (l:Bs):Y8T×Bs:=abF N l.length p l
def Aui (N:Nat): ∀(f g:Nat) (p:Y8T) (l:Bs),l.length<=f->l.length<=g->abF N f p l=abF N g p l:=by
 intro f
 induction f with
 | zero =>
  intro g p l hf hg;cases g with
  | zero=>rfl
  | succ g=>show(p,l)=if 64<=l.length then _ else _;rw[A0g]
 | succ f ih =>
  intro g p l hf hg;cases g with
  | zero=>show(if 64<=l.length then _ else(p,l))=(p,l);rw[A0g]
  | succ g =>
   show(if 64<=l.length then _ else(p,l))=if 64<=l.length then _ else(p,l);by_cases h:64<=l.length
   .rw[Du h,Du h];exact ih g _ _ (by rw[DU];omega) (by rw[DU];omega)
   .rw[Dt h,Dt h]
def aP {N:Nat} {p:Y8T} {l:Bs} (h:l.length<64):ab N p l=(p,l):=by
 unfold ab;cases hl:l.length with
 | zero=>rfl
 | succ n=>show(if 64<=l.length then _ else(p,l))=(p,l);rw[A0g]
def gY {N:Nat} {p:Y8T} {l:Bs} (h:64<=l.length):ab N p l=ab N (bk N p (l.take 64)) (l.drop 64):=by
 unfold ab;obtain⟨n,hn⟩: ∃ n,l.length=n+1:=⟨l.length - 1,by omega⟩
 rw[hn];show(if 64<=l.length then abF N n (bk N p (l.take 64)) (l.drop 64)else(p,l))=_;rw[Du h];exact Aui N _ _ _ _ (by rw[DU];omega) (DD _)
def ArO {N:Nat}: ∀(n:Nat) (p:Y8T) (l:Bs),l.length<=n->(ab N p l).2.length=l.length % 64:=by
 intro n
 induction n with
 | zero=>intro p l h;rw[aP (by omega)];show l.length=_;omega
 | succ n ih =>
  intro p l h;by_cases h64:64<=l.length
  .rw[gY h64,ih _ _ (by rw[DU];omega),DU];omega
  .rw[aP (by omega)];show l.length=_;omega
def ArN {N:Nat} (b:Bs): ∀(n:Nat) (p:Y8T) (a:Bs),a.length<=n->ab N p (a++b)=ab N (ab N p a).1 ((ab N p a).2++b):=by
 intro n
 induction n with
 | zero=>intro p a h;rw[aP (l:=a) (by omega)]
 | succ n ih =>
  intro p a h;by_cases h64:64<=a.length
  .rw[gY (l:=a) h64,gY (by rw[Dp];omega),FV h64,Gw h64];exact ih _ _ (by rw[DU];omega)
  .rw[aP (l:=a) (by omega)]
def Ale {α :Type} (l:List α):J4 l 0 64=l.take 64:=rfl
def Alc {α :Type} (l:List α):J4 l 64 l.length=l.drop 64:=by unfold J4;rw[E5]
def nZ (p:Y8T) (l:List Int) (n:Int):HsT:=(p.1,p.2.1,p.2.2.1,p.2.2.2.1,p.2.2.2.2.1,p.2.2.2.2.2.1,p.2.2.2.2.2.2.1,p.2.2.2.2.2.2.2,l,n)
section
variable {N:Nat} (hN:150<=N)
include hN
theorem ApA (p:Y8T) {b:Bs} (hb:b.length=64):LY N p (b.map iN)=some (bk N p b)/\QO N (toL p) b=some (toL (bk N p b)):=by obtain⟨v,h1,h2⟩:=ApB (N:=N) (show 70<=N by omega) p b hb;unfold bk;rw[h1];exact⟨rfl,h2⟩
theorem Anl (p:Y8T) (r:Bs) (n:Int) (s:Bs) (hr:r.length<64) (hs:s.length+64<N) (hM:N<=1000000000) (hne:s≠ []) :
 NJ N (nZ p (r.map iN) n) s=some (nZ (ab N (bif n==0 then ini else p) (r++s)).1 ((ab N (bif n==0 then ini else p) (r++s)).2.map iN) (i64.wrap (n+(s.length:Int)))):=by
 unfold NJ nZ;try simp -zeta only[Ap]
 try dsimp only
 rw[show(s==([]:Bs))=false from Ei hne,cond_false]
 have key: ∀ q:Y8T,(chk (decide ((r.map iN).length*2<=140737488355328)) <|
  chk (decide (((r.map iN).length+(s.map (fun(b:UInt8)=>((b.toNat:Int)))).length)*2<=140737488355328)) <|
  Jy (X:=List Int×Int×Int×Int×Int×Int×Int×Int×Int×List Int×Int) (Y:=(List Int×Int×Int×Int×Int×Int×Int×Int×Int×List Int×Int)) (U11 λt4b b0_0b b0_1b b0_2b b0_3b b0_4b b0_5b b0_6b b0_7b b0_8b b0_9b k2 x3 =>
  bif decide ((t4b.length:Int)>=(64:Int))then(chk (decide ((64:Int)<=(t4b.length:Int))) <|
  Jq (LY N (b0_0b,b0_1b,b0_2b,b0_3b,b0_4b,b0_5b,b0_6b,b0_7b) (J4 t4b 0 64)) λr46 =>
  chk (decide ((64:Int)<=(t4b.length:Int))) <|
  k2 (J4 t4b 64 t4b.length,r46.1,r46.2.1,r46.2.2.1,r46.2.2.2.1,r46.2.2.2.2.1,r46.2.2.2.2.2.1,r46.2.2.2.2.2.2.1,r46.2.2.2.2.2.2.2,b0_8b,b0_9b))
  else(x3 (t4b,b0_0b,b0_1b,b0_2b,b0_3b,b0_4b,b0_5b,b0_6b,b0_7b,b0_8b,b0_9b)))
  N (r.map iN++(s.map (fun(b:UInt8)=>((b.toNat:Int)))),q.1,q.2.1,q.2.2.1,q.2.2.2.1,q.2.2.2.2.1,q.2.2.2.2.2.1,q.2.2.2.2.2.2.1,q.2.2.2.2.2.2.2,r.map iN,i64.wrap (n+(s.length:Int))) (U11 λt4c b0_0c b0_1c b0_2c b0_3c b0_4c b0_5c b0_6c b0_7c b0_8c b0_9c =>
  chk (decide (t4c.length*2<=140737488355328)) <|
  some (b0_0c,b0_1c,b0_2c,b0_3c,b0_4c,b0_5c,b0_6c,b0_7c,t4c,b0_9c)))=some (nZ (ab N q (r++s)).1 ((ab N q (r++s)).2.map iN) (i64.wrap (n+(s.length:Int)))):=by
  intro q;rw[Dk (by rw[D5];omega),Ju,Dk (by rw[D5,D5];omega),Ju,show s.map (fun(b:UInt8)=>((b.toNat:Int)))=s.map iN from rfl,<- Fb];have hl:(r++s).length<N:=by rw[Dp];omega
  generalize r++s=l at hl ⊢;generalize i64.wrap (n+(s.length:Int))=m;refine Nc (λx=>x.1.length<N/\ ∃ l:Bs,x.1=l.map iN/\x.2.2.2.2.2.2.2.2.2.2=m) (λx=>x.1.length) (λx=>some (nZ (ab N (x.2.1,x.2.2.1,x.2.2.2.1,x.2.2.2.2.1,x.2.2.2.2.2.1,x.2.2.2.2.2.2.1,x.2.2.2.2.2.2.2.1,x.2.2.2.2.2.2.2.2.1) (x.1.map Vm.byteOf)).1 ((ab N (x.2.1,x.2.2.1,x.2.2.2.1,x.2.2.2.2.1,x.2.2.2.2.2.1,x.2.2.2.2.2.2.1,x.2.2.2.2.2.2.2.1,x.2.2.2.2.2.2.2.2.1) (x.1.map Vm.byteOf)).2.map iN) m)) ?_ N _ ⟨by dsimp only;rw[D5];exact hl,l,rfl,rfl⟩ (by dsimp only;rw[D5];exact hl) |>.trans ?_
  .rintro ⟨t,c0,c1,c2,c3,c4,c5,c6,c7,c8,c9⟩ ⟨h1,l,h2,h3⟩ k hk;dsimp only at h1 h2 h3 hk;subst h2 h3;dsimp only[U11];rw[lJ];rw[D5]at h1 hk ⊢;by_cases h64:64<=l.length
   .rw[Dk (show((l.length:Nat):Int)>=64 by omega),cond_true,Ju,Ale,<- List.map_take,(ApA hN _ (by rw[D9];omega)).1,Js,Ju];have e:J4 (l.map iN) 64 l.length=(l.drop 64).map iN:=by rw[<- (D5 iN:(l.map iN).length=l.length),Alc,Ja]
    rw[e,hk _ ⟨by dsimp only;rw[D5,DU];omega,l.drop 64,rfl,rfl⟩ (by dsimp only;rw[D5,DU];omega)];dsimp only;rw[lJ,gY h64]
   .rw[Dq (show ¬((l.length:Nat):Int)>=64 by omega),cond_false,aP (by omega),Dk,Ju];rfl
  .dsimp only;rw[lJ]
 cases hn:n==0 with
 | true=>rw[OW,cond_true,cond_true];exact key ini
 | false=>rw[OW,cond_false,cond_false];exact key p
end
def AoU {α ρ :Type} {A:(α ->Option ρ)->Option ρ} {J: α ->Option ρ} (y: α) {r:Option ρ} (h: ∀ j,A j=j y) (hj:J y=r):Ld A J=r:=(h J).trans hj
def AwQ (x:Int):iN (Vm.byteOf (u8.wrap x))=u8.wrap x:=by have h:u8.wrap x=x % 256:=rfl;rw[h];show(((UInt8.ofNat (x % 256).toNat).toNat:Nat):Int)=x % 256;rw[FH];omega
def AuT (x:Int):Vm.isByte (u8.wrap x)=true:=by have h:u8.wrap x=x % 256:=rfl;rw[h];unfold Vm.isByte;simp;omega
def byt (n t:Nat):Int:=u8.wrap (((8*n:Nat):Int).fdiv (2 ^ (8*t)))
def nD (n j:Nat):List Int:=(List.range j).reverse.map (byt n)
def Aih (n j:Nat):nD n (j+1)=byt n j::nD n j:=by unfold nD;rw[H7,List.reverse_append];rfl
def zs (n:Nat):Nat:=(119 - n % 64) % 64
def dO (n:Nat):List Int:=128::(List.replicate (zs n) 0++nD n 8)
def WW (n:Nat):Bs:=(dO n).map Vm.byteOf
def AcW (n j:Nat):(nD n j).length=j:=by unfold nD;rw[D5,List.length_reverse,DW]
def Aod (n:Nat):(dO n).length=9+zs n:=by unfold dO;rw[List.length_cons,Dp,Ee,AcW];omega
def Amz (n:Nat):(n+(9+zs n)) % 64=0:=by unfold zs;omega
def Amy (n:Nat): ∀ x∈dO n,∃ y,x=u8.wrap y:=by
 intro x hx;unfold dO at hx;rcases D7.1 hx with rfl | hx
 .exact⟨128,rfl⟩
 rcases DN.1 hx with hx | hx
 .exact⟨0,FO hx⟩
 .unfold nD at hx;obtain⟨t,_,rfl⟩:=DK.1 hx;exact⟨_,rfl⟩
def Axb (n:Nat):(WW n).map iN=dO n:=by
 unfold WW;rw[ES]
 conv=>rhs;rw[<- Gf (dO n)]
 refine Eu λx hx=> ?_;obtain⟨y,rfl⟩:=Amy n x hx;exact AwQ y
def Aoc (n:Nat):List.all (dO n) Vm.isByte=true:=by rw[DI];intro x hx;obtain⟨y,rfl⟩:=Amy n x hx;exact AuT y
def oD (n:Nat):(WW n).length=9+zs n:=by unfold WW;rw[D5,Aod]
def AhZ (n:Nat):(n:Int).tmod 64=((n % 64:Nat):Int):=by rw[Fh (by omega)];omega
section
variable {X Y ρ :Type} {B:X->(X->Option ρ)->(Y->Option ρ)->Option ρ} {kx:Y->Option ρ}
def Azq (S:List Int->X) (R:List Int->Y) (h: ∀ l k,l.length<=1000->B (S l) k kx=bif ((l.length:Int).tmod 64) != 56 then k (S (l++[0]))else kx (R l)) :
 ∀(j F:Nat) (l:List Int),l.length+j<=1000->(l.length+j) % 64=56->j<64->j<F->Jy B F (S l) kx=kx (R (l++List.replicate j 0)):=by
 intro j
 induction j with
 | zero =>
  intro F l h1 h2 _ hF;obtain⟨F,rfl⟩: ∃ G,F=G+1:=⟨F - 1,by omega⟩
  rw[KL,h l _ (by omega),AhZ,iP (by omega),cond_false];show _=kx (R (l++[]));rw[DT]
 | succ j ih =>
  intro F l h1 h2 h3 hF;obtain⟨F,rfl⟩: ∃ G,F=G+1:=⟨F - 1,by omega⟩
  rw[KL,h l _ (by omega),AhZ,VB (by omega),cond_true,ih F _ (by rw[Dp];simp;omega) (by rw[Dp];simp;omega) (by omega) (by omega),Ea];rfl
def Azh (n:Nat) (S:Int->List Int->X) (R:List Int->Y) (h: ∀(t:Int) l k,-1<=t->t<=7->l.length<=1000->B (S t l) k kx=bif decide (t>=0)then k (S (t - 1) (l++[byt n t.toNat]))else kx (R l)) :
 ∀(j F:Nat) (l:List Int),j<=8->l.length+j<=1000->j<F->Jy B F (S ((j:Int) - 1) l) kx=kx (R (l++nD n j)):=by
 intro j
 induction j with
 | zero =>
  intro F l _ h1 hF;obtain⟨F,rfl⟩: ∃ G,F=G+1:=⟨F - 1,by omega⟩
  rw[KL,h _ l _ (by omega) (by omega) (by omega),A0f,cond_false];show _=kx (R (l++[]));rw[DT]
 | succ j ih =>
  intro F l h8 h1 hF;obtain⟨F,rfl⟩: ∃ G,F=G+1:=⟨F - 1,by omega⟩
  rw[KL,h _ l _ (by omega) (by omega) (by omega),Dk,cond_true];have e:((j+1:Nat):Int) - 1 - 1=(j:Int) - 1:=by omega
  have e2:(((j+1:Nat):Int) - 1).toNat=j:=by omega
  rw[e,e2,ih F _ (by omega) (by rw[Dp];simp;omega) (by omega),Aih,Ea];rfl
def Azb {N:Nat} (S:Bs->Y8T->X) (R:Y8T->Y) (h: ∀ l p k,l.length % 64=0->B (S l p) k kx=bif decide ((l.length:Int)>0)then k (S (l.drop 64) (bk N p (l.take 64)))else kx (R p)) :
 ∀(n F:Nat) (l:Bs) (p:Y8T),l.length<=n->n<F->l.length % 64=0->Jy B F (S l p) kx=kx (R (ab N p l).1):=by
 intro n
 induction n with
 | zero =>
  intro F l p hl hF h0;obtain⟨F,rfl⟩: ∃ G,F=G+1:=⟨F - 1,by omega⟩
  rw[KL,h l p _ h0,A0f,cond_false,aP (by omega)]
 | succ n ih =>
  intro F l p hl hF h0;obtain⟨F,rfl⟩: ∃ G,F=G+1:=⟨F - 1,by omega⟩
  rw[KL,h l p _ h0];by_cases hp:0<l.length
  .rw[Dk,cond_true,ih F _ _ (by rw[DU];omega) (by omega) (by rw[DU];omega),<- gY (by omega)]
  .rw[A0f,cond_false,aP (by omega)]
end
def St (N:Nat) (m:Bs):HsT:=if m=[]then(0,0,0,0,0,0,0,0,[],0)else nZ (ab N ini m).1 ((ab N ini m).2.map iN) (m.length:Int)
def Amx (N:Nat) (t6g:List Int):Option Bs :=
 Jy (X:=Int×List Int) (Y:=(List Int)) (U2 λt76h l1028672h k8 x9 =>
 bif decide (t76h<(t6g.length:Int))then(chk (decide ((0:Int)<=t76h)) <|
 chk (decide (t76h<(t6g.length:Int))) <|
 chk (decide ((l1028672h.length+4)*2<=140737488355328)) <|
 let y56576:List Int:=l1028672h++([u8.wrap ((t6g.getD t76h.toNat 0).fdiv (16777216)),u8.wrap ((t6g.getD t76h.toNat 0).fdiv (65536)),u8.wrap ((t6g.getD t76h.toNat 0).fdiv (256)),u8.wrap (t6g.getD t76h.toNat 0)]:List Int)
 k8 (i64.wrap (t76h+(1:Int)),y56576))
 else(x9 l1028672h))
 N (0,([]:List Int)) (λl1032768i =>
 chk (List.all l1032768i Vm.isByte) <|
 some (List.map Vm.byteOf l1032768i))
section
variable {N:Nat} (hN:150<=N) (hM:N<=1000000000)
include hN hM
theorem AvQ (m s:Bs) (hl:m.length+s.length+64<N):NJ N (St N m) s=some (St N (m++s)):=by
 by_cases hs:s=[]
 .subst hs;rw[DT];rfl
 .have hne:m++s≠ []:=λh=>hs (List.append_eq_nil_iff.1 h).2;have h2:St N (m++s)=nZ (ab N ini (m++s)).1 ((ab N ini (m++s)).2.map iN) ((m++s).length:Int):=by unfold St;rw[Dt hne]
  rw[h2];by_cases hm:m=[]
  .subst hm;have:=Anl hN (0,0,0,0,0,0,0,0) [] 0 s (by simp) (by simp at hl;omega) hM hs;refine(Ey ?_ this).trans ?_
   .rfl
   .rw[show((0:Int)==0)=true from rfl,cond_true,w64,Int.zero_add];rfl
  .have h1:St N m=nZ (ab N ini m).1 ((ab N ini m).2.map iN) (m.length:Int):=by unfold St;rw[Dt hm]
   have hp:=FY.2 hm;have hr:=ArO m.length ini m (DD _) (N:=N);rw[h1,Anl hN _ _ _ s (by omega) (by omega) hM hs,QX,cond_false,<- ArN s m.length ini m (DD _),w64];rw[Dp];rfl
end
section
variable {N:Nat} (hN:300<=N) (hM:N<=1000000000)
include hN hM
theorem Au2 {n:Nat} (hn:n<1000000000) {t:Int} (h0:0<=t) (h7:t<=7):Vm.chk (ρ :=List Int) (decide ((0:Int)<=u64.wrap ((8:Int)*(u64.wrap t)))) (some [u8.wrap ((u64.wrap ((u64.wrap (n:Int))*(8:Int))).fdiv (2 ^ (min (u64.wrap ((8:Int)*(u64.wrap t))).toNat 64)))])=some [byt n t.toNat]:=by rw[wu64 (x:=t) (by omega),wu64 (x:=8*t) (by omega),wu64 (x:=(n:Int)) (by omega),wu64 (x:=(n:Int)*8) (by omega),Dk,Ju];unfold byt;rw[show min (8*t).toNat 64=8*t.toNat by omega,show((8*n:Nat):Int)=(n:Int)*8 by omega]
theorem Ayx (m:Bs) (hl:m.length+300<N):OH N (St N m)=(Amx N (toL (ab N ini (m++WW m.length)).1)).map λo=>(o,St N m):=by
 have h150:150<=N:=by omega
 have hr:=ArO m.length ini m (DD _) (N:=N);unfold OH;try simp -zeta only[Ap]
 rw[show VI N=some ini from rfl,Js,show Nat.beq 8 (List.replicate 8 (0:Int)).length=true from rfl,Ju];refine AoU ((m.length:Int),(St N m).1,(St N m).2.1,(St N m).2.2.1,(St N m).2.2.2.1,(St N m).2.2.2.2.1,(St N m).2.2.2.2.2.1,(St N m).2.2.2.2.2.2.1,(St N m).2.2.2.2.2.2.2.1,(St N m).2.2.2.2.2.2.2.2.1,(St N m).2.2.2.2.2.2.2.2.2,toL (ab N ini m).1,(ab N ini m).2.map iN) (λj=> ?_) ?_
 .by_cases hm:m=[]
  .subst hm;rfl
  .have h1:St N m=nZ (ab N ini m).1 ((ab N ini m).2.map iN) (m.length:Int):=by unfold St;rw[Dt hm]
   have hp:=FY.2 hm;rw[h1];unfold nZ;dsimp only;rw[Dk,cond_true,Dk (by rw[D5];omega),Ju];rfl
 .rw[ArN (WW m.length) m.length ini m (DD _)];generalize (ab N ini m).1=p;generalize (ab N ini m).2=r at hr ⊢;generalize St N m=z;obtain⟨b0,b1,b2,b3,b4,b5,b6,b7,b8,b9⟩:=z;dsimp only[U13];rw[Dk (by rw[D5];omega),Ju];refine(Azq (λl=>(b0,b1,b2,b3,b4,b5,b6,b7,b8,b9,toL p,l)) (λl=>(b0,b1,b2,b3,b4,b5,b6,b7,b8,b9,toL p,l)) (λl k hl=> ?_) (zs m.length) N _ (by rw[Dp,D5];unfold zs;simp;omega) (by rw[Dp,D5];unfold zs;simp;omega) (by unfold zs;omega) (by unfold zs;omega)).trans ?_
  .dsimp only[U12];rw[Dk,Ju]
  dsimp only[U12];have h7:(7:Int)=((8:Nat):Int) - 1:=rfl;rw[h7];refine(Azh m.length (λt l=>(t,b0,b1,b2,b3,b4,b5,b6,b7,b8,b9,toL p,l)) (λl=>(b0,b1,b2,b3,b4,b5,b6,b7,b8,b9,toL p,l)) (λt l k h0 h7 hl=> ?_) 8 N _ (by omega) (by rw[Dp,Dp,D5,Ee];unfold zs;simp;omega) (by omega)).trans ?_
  .dsimp only[U13];by_cases ht:t>=0
   .rw[Dk ht,cond_true,cond_true];have hb:=Au2 hN hM (n:=m.length) (by omega) (t:=t) ht h7;rw[wu64 (x:=t) (by omega),wu64 (x:=8*t) (by omega),Dk (show(0:Int)<=8*t by omega),Ju]at hb;rw[wu64 (x:=t) (by omega),wu64 (x:=8*t) (by omega),Dk (show(0:Int)<=8*t by omega),Ju,Fv hb,Dk,Ju,w64]
   .rw[Dq ht,cond_false,cond_false]
  have hpad:r.map iN++[128]++List.replicate (zs m.length) 0++nD m.length 8=(r++WW m.length).map iN:=by rw[Fb,Axb,Ea,Ea];rfl
  rw[hpad];have hlen:(r++WW m.length).length % 64=0:=by rw[Dp,oD,hr];have:=Amz m.length;omega
  have hlt:(r++WW m.length).length<200:=by rw[Dp,oD];unfold zs;omega
  generalize r++WW m.length=l at hlen hlt ⊢;dsimp only[U12];refine(Azb (N:=N) (λl p=>(l.map iN,b0,b1,b2,b3,b4,b5,b6,b7,b8,b9,toL p)) (λp=>(b0,b1,b2,b3,b4,b5,b6,b7,b8,b9,toL p)) (λl q k h0=> ?_) l.length N l p (DD _) (by omega) hlen).trans ?_
  .dsimp only[U12];rw[D5];by_cases hp:(l.length:Int)>0
   .have h64:64<=l.length:=by omega
    have e:J4 (l.map iN) 64 l.length=(l.drop 64).map iN:=by rw[<- (D5 iN:(l.map iN).length=l.length),Alc,Ja]
    rw[Dk hp,cond_true,cond_true,show Nat.ble 8 (toL q).length=true from rfl,Ju,Dk (show(64:Int)<=((l.length:Nat):Int) by omega),Ju,Ale,<- List.map_take];refine(congrArg (λo=>Jq o _) (ApA h150 q (b:=l.take 64) (by rw[D9];omega)).1).trans ?_;rw[Js,show Nat.beq 8 (toL q).length=true from rfl,Ju,Ju,e];rfl
   .rw[Dq hp,cond_false,cond_false]
  .dsimp only[U11];generalize (ab N p l).1=q;rw[show Nat.ble 8 (toL q).length=true from rfl,Ju];unfold Amx;refine jS (λo o'=>o=o'.map λo=>(o,(b0,b1,b2,b3,b4,b5,b6,b7,b8,b9))) (λx x'=>x=(x'.1,b0,b1,b2,b3,b4,b5,b6,b7,b8,b9,x'.2)/\0<=x'.1/\x'.1<=8/\(x'.2.length:Int)=4*x'.1) (λx=>(8 - x.1).toNat) ?_ N _ _ ⟨rfl,by dsimp only;omega,by dsimp only;omega,by dsimp only;simp⟩ (by dsimp only;omega);rintro _ ⟨t,a⟩ ⟨rfl,h0,h8,hla⟩ k k' hk;dsimp only at h0 h8 hla hk;dsimp only[U12,U2];have ql:((toL q).length:Int)=8:=rfl;rw[ql];by_cases ht:t<8
   .rw[Dk ht,cond_true,cond_true,Dk h0,Ju,Ju,Ju,Ju,Dk,Ju,Ju,w64];exact hk _ _ ⟨rfl,by dsimp only;omega,by dsimp only;omega,by dsimp only;rw[Dp];simp;omega⟩ (by dsimp only;omega)
   .rw[Dq ht,cond_false,cond_false];dsimp only[U11];cases List.all a Vm.isByte<;>rfl
theorem mV (l:List Bs) {i:Nat} (hi:i<l.length):(l.take (i+1)).flatten=(l.take i).flatten++l.getD i []:=by rw[EY,FX,getD_lt l i [] hi,D8 hi];simp
theorem Apm (l:List Bs) (i:Nat):(l.take i).flatten.length<=l.flatten.length:=by
 have h:l.flatten=(l.take i).flatten++(l.drop i).flatten:=by rw[<- FX,G6]
 rw[h,Dp];omega
theorem AvF (l:List Bs) (hn:l.length<N) (hl:l.flatten.length+300<N):X7 N l=Amx N (toL (ab N ini (l.flatten++WW l.flatten.length)).1):=by
 have h150:150<=N:=by omega
 unfold X7;try simp -zeta only[Ap]
 rw[show uS N=some (St N [])from rfl,Js];refine(Nc (fun(x:Int×HsT)=> ∃ i:Nat,i<=l.length/\x=((i:Int),St N (l.take i).flatten)) (λx=>l.length - x.1.toNat) (λ_=>Jq (OH N (St N l.flatten)) λr=>some r.1) ?_ N _ ⟨0,Eb _,rfl⟩ (by dsimp only;omega)).trans ?_
 .rintro _ ⟨i,hi,rfl⟩ k hk;dsimp only at hk;by_cases h:i<l.length
  .have hw:=AvQ h150 hM (l.take i).flatten (l.getD i []) (by rw[<- Dp,<- mV hN hM l h];have:=Apm hN hM l (i+1);omega);have hk':=hk (((i+1:Nat):Int),St N (l.take (i+1)).flatten) ⟨i+1,h,rfl⟩ (by dsimp only;omega);rw[mV hN hM l h]at hk';generalize St N (l.take i).flatten=z at hw;obtain⟨b0,b1,b2,b3,b4,b5,b6,b7,b8,b9⟩:=z;dsimp only[U11];rw[Dk,cond_true,Dk,Ju,Ju,Int.toNat_natCast,hw,Js,w64];exact hk'
  .have:i=l.length:=by omega
   subst this;rw[E5];generalize St N l.flatten=z;obtain⟨b0,b1,b2,b3,b4,b5,b6,b7,b8,b9⟩:=z;dsimp only[U11];rw[A0f,cond_false];rfl
 .rw[Ayx hN hM l.flatten hl];cases Amx N _<;>rfl
end
section
variable {ρ :Type}
def Azc {B:Bs×Int->(Bs×Int->Option ρ)->(Bs->Option ρ)->Option ρ} {kx:Bs->Option ρ} (l:List Bs)
 (h: ∀(i:Nat) k,i<l.length->B ((l.take i).flatten,(i:Int)) k kx=k ((l.take i).flatten++l.getD i [],((i+1:Nat):Int)))
 (hend: ∀ k,B (l.flatten,(l.length:Int)) k kx=kx l.flatten): ∀(m i F:Nat),i+m=l.length->m<F->Jy B F ((l.take i).flatten,(i:Int)) kx=kx l.flatten:=by
 intro m
 induction m with
 | zero =>
  intro i F hi hF;obtain⟨F,rfl⟩: ∃ G,F=G+1:=⟨F - 1,by omega⟩
  have:i=l.length:=by omega
  subst this;rw[KL,E5,hend]
 | succ m ih =>
  intro i F hi hF;obtain⟨F,rfl⟩: ∃ G,F=G+1:=⟨F - 1,by omega⟩
  have ht:(l.take (i+1)).flatten=(l.take i).flatten++l.getD i []:=mV (N:=300) (by omega) (by omega) l (by omega);rw[KL,h i _ (by omega),<- ht];exact ih (i+1) F (by omega) (by omega)
def oG (n t:Nat):List Int:=128::(List.replicate (zs n+8 - t) 0++nD n t)
def Avo (n t:Nat) (ht:t<8):(oG n t).set (zs n+8 - t) (byt n t)=oG n (t+1):=by
 unfold oG;obtain⟨k,hk⟩: ∃ k,zs n+8 - t=k+1:=⟨zs n+7 - t,by omega⟩
 rw[hk,List.set_cons_succ,show zs n+8 - (t+1)=k by omega,Aih,List.replicate_succ',Ea];congr 1;rw[IL _ _ (by rw[Ee];omega),Ee,Ip];rfl
def Adl (n t:Nat) (ht:t<=8):(oG n t).length=9+zs n:=by unfold oG;rw[List.length_cons,Dp,Ee,AcW];omega
def Ayh (n:Nat):oG n 8=dO n:=by unfold oG dO;rw[show zs n+8 - 8=zs n by omega]
def Azm {X Y:Type} {B:X->(X->Option ρ)->(Y->Option ρ)->Option ρ} {kx:Y->Option ρ} (n:Nat) (S:Int->List Int->X) (R:List Int->Y)
 (h: ∀(t:Nat) y k,t<=8->y.length=9+zs n->B (S (t:Int) y) k kx=bif decide ((t:Int)<8)then k (S ((t+1:Nat):Int) (y.set (zs n+8 - t) (byt n t)))else kx (R y)) :
 ∀(m t F:Nat),t+m=8->m<F->Jy B F (S (t:Int) (oG n t)) kx=kx (R (dO n)):=by
 intro m
 induction m with
 | zero =>
  intro t F hi hF;obtain⟨F,rfl⟩: ∃ G,F=G+1:=⟨F - 1,by omega⟩
  have:t=8:=by omega
  subst this;rw[KL,h 8 _ _ (by omega) (Adl n 8 (by omega)),A0f,cond_false,Ayh]
 | succ m ih =>
  intro t F hi hF;obtain⟨F,rfl⟩: ∃ G,F=G+1:=⟨F - 1,by omega⟩
  rw[KL,h t _ _ (by omega) (Adl n t (by omega)),Dk,cond_true,Avo n t (by omega)];exact ih (t+1) F (by omega) (by omega)
def Azk {N:Nat} {B:List Int×Int->(List Int×Int->Option ρ)->(List Int->Option ρ)->Option ρ} {kx:List Int->Option ρ} (l:Bs) (h0:l.length % 64=0)
 (h: ∀(i:Nat) p k,64*i<=l.length->B (toL p,((64*i:Nat):Int)) k kx=bif decide (((64*i:Nat):Int)<(l.length:Int))then k (toL (bk N p ((l.drop (64*i)).take 64)),((64*(i+1):Nat):Int))else kx (toL p)) :
 ∀(m i F:Nat) (p:Y8T),64*(i+m)=l.length->m<F->Jy B F (toL p,((64*i:Nat):Int)) kx=kx (toL (ab N p (l.drop (64*i))).1):=by
 intro m
 induction m with
 | zero =>
  intro i F p hi hF;obtain⟨F,rfl⟩: ∃ G,F=G+1:=⟨F - 1,by omega⟩
  rw[KL,h i p _ (by omega),A0f,cond_false,aP (by rw[DU];omega)]
 | succ m ih =>
  intro i F p hi hF;obtain⟨F,rfl⟩: ∃ G,F=G+1:=⟨F - 1,by omega⟩
  rw[KL,h i p _ (by omega),Dk,cond_true,ih (i+1) F _ (by omega) (by omega),gY (l:=l.drop (64*i)) (by rw[DU];omega),Fj];rfl
end
section
variable {N:Nat} (hN:300<=N) (hM:N<=1000000000)
include hN hM
theorem Axr (l:List Bs) (hn:l.length<N) (hl:l.flatten.length+300<N):Uk N l=Amx N (toL (ab N ini (l.flatten++WW l.flatten.length)).1):=by
 unfold Uk;try simp -zeta only[Ap]
 refine(Azc l (λi k hi=> ?_) (λk=> ?_) l.length 0 N (by omega) hn).trans ?_
 .have h1:=Apm hN hM l (i+1);rw[mV hN hM l hi,Dp]at h1;dsimp only[U2];rw[Dk,cond_true,Dk,Ju,Ju,Int.toNat_natCast,Dk,Ju,w64];rfl
 .dsimp only[U2];rw[A0f,cond_false]
 generalize l.flatten=m at hl ⊢;dsimp only;have hz:=Amz m.length;have hz2:zs m.length<64:=by unfold zs;omega
 refine AoU ((zs m.length:Int),toL ini) (λj=> ?_) ?_
 .rw[w64 (x:=(m.length:Int)+9),show(m.length:Int)+9=((m.length+9:Nat):Int) by omega,AhZ,w64];unfold zs at hz hz2 ⊢;by_cases hx:(64:Int) - (((m.length+9) % 64:Nat):Int)=64
  .rw[TJ hx,cond_true];refine congrArg (λz:Int=>j (z,toL ini)) ?_;omega
  .rw[QX hx,cond_false];refine congrArg (λz:Int=>j (z,toL ini)) ?_;omega
 dsimp only[U2];rw[w64 (x:=9+(zs m.length:Int)),Dk (F7 _),Ju,Dk,Ju,Dk,Ju,show(9+(zs m.length:Int)).toNat=9+zs m.length by omega,Ee,Dk,Ju,Dk,Ju];have hset:(List.replicate (9+zs m.length) (0:Int)).set 0 128=oG m.length 0:=by unfold oG;rw[show 9+zs m.length=(zs m.length+8 - 0)+1 by omega,List.replicate_succ];show 128::_=128::(_++[]);rw[DT]
 rw[hset];refine(Azm m.length (λt y=>(t,toL ini,y)) (λy=>(toL ini,y)) (λt y k ht hy=> ?_) 8 0 N (by omega) (by omega)).trans ?_
 .dsimp only[U3];by_cases h8:(t:Int)<8
  .rw[Dk h8,cond_true,cond_true,hy,w64 (x:=((9+zs m.length:Nat):Int) - 1),w64 (x:=((9+zs m.length:Nat):Int) - 1 - (t:Int)),w64 (x:=8*(t:Int)),w64 (x:=8*(m.length:Int)),Dk (show(0:Int)<=8*(t:Int) by omega),Ju,Dk,Ju,Dk,Ju,Dk,Ju,w64];have e1:(((9+zs m.length:Nat):Int) - 1 - (t:Int)).toNat=zs m.length+8 - t:=by omega
   have e2:u8.wrap ((8*(m.length:Int)).fdiv (2 ^ (min (8*(t:Int)).toNat 64)))=byt m.length t:=by unfold byt;rw[show min (8*(t:Int)).toNat 64=8*t by omega,show((8*m.length:Nat):Int)=8*(m.length:Int) by omega]
   rw[e1,e2];rfl
  .rw[Dq h8,cond_false,cond_false]
 dsimp only[U2];rw[Aoc,Ju,show List.map Vm.byteOf (dO m.length)=WW m.length from rfl];have hpl:=oD m.length;have hfull:(m++WW m.length).length % 64=0:=by rw[Dp,hpl];omega
 have hlt:(m++WW m.length).length<N:=by rw[Dp,hpl];omega
 rw[Dk,Ju];generalize m++WW m.length=a at hfull hlt ⊢;refine(Azk (N:=N) a hfull (λi p k hi=> ?_) (a.length / 64) 0 N ini (by omega) (by omega)).trans ?_
 .dsimp only[U2];by_cases h:((64*i:Nat):Int)<(a.length:Int)
  .have e:J4 a (((64*i:Nat):Int)).toNat ((((64*i:Nat):Int)+64).toNat)=(a.drop (64*i)).take 64:=by
    unfold J4;rw[show(((64*i:Nat):Int)+64).toNat=64*i+64 by omega,Int.toNat_natCast,I9,show 64*i+64 - 64*i=64 by omega]
   rw[Dk h,cond_true,cond_true,w64 (x:=((64*i:Nat):Int)+64),Dk,Ju,Dk,Ju,Dk,Ju,e,(ApA (by omega) p (b:=(a.drop (64*i)).take 64) (by rw[D9,DU];omega)).2,Js];rw[show((64*i:Nat):Int)+64=((64*(i+1):Nat):Int) by omega]
  .rw[Dq h,cond_false,cond_false]
 .rfl
theorem Aud (l:List Bs) (hn:l.length<N) (hl:l.flatten.length+300<N):Uk N l=X7 N l:=(Axr hN hM l hn hl).trans (AvF hN hM l hn hl).symm
end
section
variable {N:Nat} (h:Big N)
include h
theorem gQ {l:List Bs} (hk:l.length<N) (hl:l.flatten.length+300<N):MZ N l=LQ N l:=by
 have:=h.n;unfold MZ LQ;try simp -zeta only[Ap]
 rw[Aud (by omega) h.m l hk hl]
theorem rB4 (p:Int):PN N p=some (b4P p):=AeI N p
theorem rB1 (p:Int):Q8 N p=some (b1P p):=AeH N p
theorem Avz {p0:Bs} (h0:p0.length<=1000) (p1 p2:Int): ∀(n:Nat) (a:Int) (F:Nat) (x:Bs),0<=a->a+n<=15->n<F->x.length=16->Jy (X:=Bs×Int) (Y:=Bs) (U2 λt5a t13a k1 x2 =>
 bif decide (t13a<a+(n:Int))then(Jq (PN N p1) λr22 =>
 Jq (Q8 N p2) λr24 =>
 Jq (Q8 N t13a) λr26 =>
 Jq (MZ N ([([67]:Bs),p0,r22,r24,r26,t5a]:List Bs)) λr29 =>
 k1 (r29,i64.wrap (t13a+(1:Int))))
 else(x2 t5a)) F (x,a) (λt5b=>some t5b)=some (wk (st N p0 p1 p2) a n x):=by
 intro n
 induction n with
 | zero =>
  intro a F x h1 h2 hF hx;obtain⟨F,rfl⟩: ∃ G,F=G+1:=⟨F - 1,by omega⟩
  rw[KL];dsimp only[U2];rw[A0f,cond_false];rfl
 | succ n ih =>
  intro a F x h1 h2 hF hx;obtain⟨F,rfl⟩: ∃ G,F=G+1:=⟨F - 1,by omega⟩
  have hn:=h.n;obtain⟨e1,e2⟩:=Arw h h0 p1 p2 a hx;rw[KL];dsimp only[U2];rw[Dk,cond_true,rB4 h,Js,rB1 h,Js,rB1 h,Js,gQ h (by simp;omega) (by simp [b4P,b1P,hx];omega),e1,Js,w64];have:=ih (a+1) F _ (by omega) (by omega) (by omega) e2;rw[show a+1+(n:Int)=a+((n+1:Nat):Int) by omega,rB4 h,rB1 h p2]at this;exact this
theorem AyF {ρ :Type} {B:Bs×Int->(Bs×Int->Option ρ)->(Bs->Option ρ)->Option ρ} {kx:Bs->Option ρ} (n:Nat) (g:Nat->Bs) (hg: ∀ i,(g i).length=16)
 (hB: ∀(i:Nat) acc k,i<n->acc.length=16*i->B (acc,(i:Int)) k kx=k (acc++g i,((i+1:Nat):Int)))
 (hend: ∀ acc k,B (acc,(n:Int)) k kx=kx acc): ∀(m i F:Nat) (acc:Bs),i+m=n->m<F->acc.length=16*i->Jy B F (acc,(i:Int)) kx=kx (acc++((List.range' i m).map g).flatten):=by
 intro m
 induction m with
 | zero =>
  intro i F acc hi hF ha;obtain⟨F,rfl⟩: ∃ G,F=G+1:=⟨F - 1,by omega⟩
  have:i=n:=by omega
  subst this;rw[KL,hend];show _=kx (acc++[]);rw[DT]
 | succ m ih =>
  intro i F acc hi hF ha;obtain⟨F,rfl⟩: ∃ G,F=G+1:=⟨F - 1,by omega⟩
  rw[KL,hB i acc _ (by omega) ha,ih (i+1) F _ (by omega) (by omega) (by rw[Dp,hg,ha];omega),List.range'_succ,Em,List.flatten_cons,Ea]
section
variable {p0 p1:Bs} (h0:p0.length=16) (hs:p1.length=32) {p2:Int} (h1:0<=p2) (h2:p2<256)
include h0 hs h1 h2
end
end
def nib: ∀ c:Fin 256,(i64.wrap ((c.val:Int).fdiv 16)=i64.wrap (u8.wrap ((c.val:Int).tdiv 16))/\J9 .and .u8 (c.val:Int) 15=(c.val:Int).tmod 16)/\(0<=i64.wrap (u8.wrap ((c.val:Int).tdiv 16))/\i64.wrap (u8.wrap ((c.val:Int).tdiv 16))<=15)/\0<=i64.wrap ((c.val:Int).tmod 16)/\i64.wrap ((c.val:Int).tmod 16)<=15:=by decide +kernel
def sums: ∀ s:Fin 481,[(s.val:Int).fdiv 256,J9 .and .i64 ((s.val:Int).fdiv 16) 15,J9 .and .i64 (s.val:Int) 15]=[i64.wrap ((s.val:Int).tdiv 256),(i64.wrap ((s.val:Int).tdiv 16)).tmod 16,(s.val:Int).tmod 16]:=by decide +kernel
def Axg {N:Nat} (hN:2000<=N) {d:Bs} (hd:d.length=16):YL N d=QI N d:=by
 unfold YL QI;try simp -zeta only[Ap]
 rw[hd,show(((16:Nat):Int) != 16)=false from rfl,cond_false,cond_false,show decide (16<=140737488355328)=true from rfl,Ju];refine jS (fun(o o':Option (List Int×Int))=>o=o') (fun(x:Int×Int×List Int) (x':Int×Int×List Int×List Int)=>x'.1=x.1/\x'.2.1=x.2.1/\x'.2.2.1=d.map iN/\x'.2.2.2=x.2.2/\0<=x.2.1/\x.2.1<=16/\(x.2.2.length:Int)=2*x.2.1/\0<=x.1/\x.1<=30*x.2.1) (λx=>(16 - x.2.1).toNat) ?_ N _ _ ⟨rfl,rfl,rfl,rfl,by dsimp only;omega,by dsimp only;omega,by simp,by dsimp only;omega,by dsimp only;omega⟩ (by dsimp only;omega);rintro ⟨s,i,l⟩ ⟨s',i',dl,l'⟩ ⟨r1,r2,r3,r4,r5,r6,r7,r8,r9⟩ k k' hk;dsimp only at r1 r2 r3 r4 r5 r6 r7 r8 r9 hk;subst r1 r2 r3 r4;dsimp only[U3,U4];have ml:(d.map iN).length=16:=by rw[D5];exact hd
 rw[show List.map (λb:UInt8=>((b.toNat:Int))) d=d.map iN from rfl,ml];by_cases hi:i'<16
 .obtain⟨⟨n1,n2⟩,⟨n3,n4⟩,n5,n6⟩:=nib ⟨(d.getD i'.toNat 0).toNat,Gz _⟩;dsimp only at n1 n2 n3 n4 n5 n6;rw[AoS,n1,n2,show decide (i'<((16:Nat):Int))=true from Dk,cond_true,cond_true,Dk r5];generalize i64.wrap (u8.wrap (((d.getD i'.toNat 0).toNat:Int).tdiv 16))=a at n3 n4 ⊢;generalize i64.wrap (((d.getD i'.toNat 0).toNat:Int).tmod 16)=b at n5 n6 ⊢;rw[Dk (show(l'.length+2)*9<=140737488355328 by omega),Dk (show i'.toNat<16 by omega),w64 (x:=15 - a),w64 (x:=15 - a+15),w64 (x:=15 - a+15 - b),w64 (x:=30 - a),w64 (x:=30 - a - b),show 15 - a+15 - b=30 - a - b by omega,w64 (x:=s'+(30 - a - b)),w64 (x:=i'+1)];exact hk _ _ ⟨rfl,rfl,rfl,rfl,by dsimp only;omega,by dsimp only;omega,by dsimp only;rw[Dp];simp;omega,by dsimp only;omega,by dsimp only;omega⟩ (by dsimp only;omega)
 .rw[show decide (i'<((16:Nat):Int))=false from A0f,cond_false,cond_false];have e:=sums ⟨s'.toNat,by omega⟩;dsimp only[U2]at e ⊢;rw[show((s'.toNat:Nat):Int)=s' by omega]at e;rw[e]
section
variable {N:Nat} (h:Big N)
include h
omit h in
omit h in
end
section
variable {N:Nat} (h:Big N) {sd:Bs} (hs:sd.length=32)
include h hs
end
def cuS (s:Bs) (i:Nat):Bs:=bif decide (i<35)then J4 s (16*i) (16*(i+1))else List.replicate 16 0
def reS (N:Nat) (p0:Bs) (p1:Int) (d s:Bs) (i:Nat):Bs:=wk (st N p0 p1 i) ((Zw N d).getD i 0) (15 - (Zw N d).getD i 0).toNat (cuS s i)
def AgQ {s:Bs} (hs:s.length=560) (i:Nat):(cuS s i).length=16:=by
 unfold cuS;cases h:decide (i<35)with
 | true =>have h:=DC h;rw[cond_true,TL _ _ _];omega
 | false=>rfl
section
variable {N:Nat} (h:Big N) {p0:Bs} (h0:p0.length=16) {p1:Int} (h1:0<=p1) (h2:p1<256) {d s:Bs} (hd:d.length=16) (hs:s.length=560)
include h h0 hd hs
theorem AhB (i:Nat):(reS N p0 p1 d s i).length=16:=Anj (st_len h (by omega) p1 i) _ _ _ (AgQ hs i)
include h1 h2
theorem Avn:Vf N p0 p1 d s=some (Ah5 N p0 p1 ((List.range 35).map (reS N p0 p1 d s)),0):=by
 have hn:=h.n;obtain⟨e1,e2,e3⟩:=lQ h hd;unfold Vf;try simp -zeta only[Ap]
 rw[jC N h0 h1 h2,Js];rw[show((0:Int) != 0)=false from rfl,cond_false];rw[e1,Js];show(bif ((s.length:Int) != 560)then _ else _)=_;rw[show((s.length:Int) != 560)=false by rw[hs];rfl,cond_false];refine(tH 35 (reS N p0 p1 d s) (λi acc k hi ha=> ?_) (λacc k ha=> ?_)).trans ?_
 .have e4:=e3 i;have hc:J4 s (16*i) (16*(i+1))=cuS s i:=by unfold cuS;rw[Dk hi,cond_true]
  dsimp only[U2];rw[Dk (by omega:(i:Int)<35),cond_true,w64 (x:=(i:Int)*16),w64 (x:=(i:Int)+1),w64];rw[JV _ (Dk),JV _ (Dk),JV _ (Dk),JV _ (Dk),JV _ (Dk),show((i:Int)*16).toNat=16*i by omega,show(((i:Int)+1)*16).toNat=16*(i+1) by omega,hc,Int.toNat_natCast,walk_eq h (by omega) p1 i e4.1 e4.2 (F7 15) (AgQ hs i),Js,JV _ (Dk)];rfl
 .rfl
 .rw[(bU h (by omega) p1 (by simp) (Ux (AhB h h0 hd hs))).1];rfl
theorem Avu:Xv N p0 p1 d s=some (Ah5 N p0 p1 ((List.range 35).map (reS N p0 p1 d s)),0):=by
 have hn:=h.n;obtain⟨e1,e2,e3⟩:=lQ h hd;have ht:=AhB h h0 (p1:=p1) hd hs;unfold Xv;try simp -zeta only[Ap]
 rw[show((p0.length:Int) != 16)=false by rw[h0];rfl,cond_false,A0f,A0f];refine(JV _ rfl).trans ((JV _ rfl).trans ((JV _ rfl).trans ?_));rw[cond_false,cond_false,Axg (by omega) hd,e1,Js];show(bif ((s.length:Int) != 560)then _ else _)=_;rw[show((s.length:Int) != 560)=false by rw[hs];rfl,cond_false];dsimp only;refine(AyF h 35 (reS N p0 p1 d s) ht (λi acc k hi ha=> ?_) (λacc k=> ?_) 35 0 N [] rfl (by omega) rfl).trans ?_
 .have e4:=e3 i;have hc:J4 s (16*i) (16*(i+1))=cuS s i:=by unfold cuS;rw[Dk hi,cond_true]
  have hw:=Avz h (p0:=p0) (by omega) p1 (i:Int) (15 - (Zw N d).getD i 0).toNat ((Zw N d).getD i 0) N (cuS s i) e4.1 (by omega) (by omega) (AgQ hs i);rw[show(Zw N d).getD i 0+((15 - (Zw N d).getD i 0).toNat:Int)=15 by omega]at hw;have hw:wH N p0 p1 i ((Zw N d).getD i 0) 15 (cuS s i)=some (reS N p0 p1 d s i):=hw;have hl:=ht i;dsimp only[U2];rw[Dk,cond_true,w64 (x:=(i:Int)*16),w64 (x:=(i:Int)+1),w64];rw[JV _ (Dk),Ju,JV _ (Dk),JV _ (Dk),JV _ (Dk),show((i:Int)*16).toNat=16*i by omega,show(((i:Int)+1)*16).toNat=16*(i+1) by omega,hc,Int.toNat_natCast,hw,Js,JV _ (Dk (by rw[hl,ha];omega))];rfl
 .dsimp only[U2];rw[A0f,cond_false]
 .have e:((List.range' 0 35).map (reS N p0 p1 d s)).flatten=((List.range 35).map (reS N p0 p1 d s)).flatten:=by rw[IY]
  have hlen:((List.range 35).map (reS N p0 p1 d s)).flatten.length=560:=by rw[Aao _ (Ux ht),D5,DW]
  rw[List.nil_append,e];rw[rB4 h,Js,gQ h (by simp;omega) (by simp only[List.flatten_cons,List.flatten_nil,Dp,hlen];simp [b4P];omega)];have e4:(b4P p1).length=4:=rfl;rw[(lV (hok h (by simp) (by simp only[List.all_cons,List.all_nil,hlen,h0,e4];rfl))).1,Js];rfl
end
def orK (k t b:Nat) (ht:t*2 ^ k+b<4611686018427387904:=by omega) (hb:b<2 ^ k:=by omega):J9 .or .i64 (((t*2 ^ k:Nat)):Int) (b:Int)=((t*2 ^ k+b:Nat):Int):=by
 have e: ∀ n:Nat,n<2 ^ 64->(BitVec.ofInt 64 (n:Int))=BitVec.ofNat 64 n:=λn _=>by simp
 have h1:t*2 ^ k<4611686018427387904:=by omega
 have h2:b<4611686018427387904:=by omega
 show i64.wrap _=_;rw[show(BitVec.ofInt (i64).bits ((t*2 ^ k:Nat):Int))=BitVec.ofNat 64 (t*2 ^ k)from e _ (by omega),show(BitVec.ofInt (i64).bits ((b:Nat):Int))=BitVec.ofNat 64 b from e _ (by omega)];show i64.wrap (((BitVec.ofNat 64 (t*2 ^ k)) ||| (BitVec.ofNat 64 b)).toNat:Int)=_;rw[BitVec.toNat_or,Gh,Gh,F5 (by omega),F5 (by omega)];rw[show t*2 ^ k=t <<< k by rw[Hq],<- H8 hb,Hq];exact w64
def lfN (a b c d:UInt8):Nat:=((a.toNat*256+b.toNat)*256+c.toNat)*256+d.toNat
def Ny (a:UInt8):a.toNat<256:=a.toNat_lt
def AyN {N:Nat} (hN:10<=N) (a b c d:UInt8) (r:Bs):Tj N (a::b::c::d::r)=some (((lfN a b c d:Nat):Int),true):=by
 have ha:=Ny a;have hb:=Ny b;have hc:=Ny c;have hd:=Ny d;have st: ∀(n:Nat) (x:UInt8),n<4294967296->J9 .or .i64 (i64.wrap ((n:Int)*256)) (i64.wrap (x.toNat:Int))=((n*256+x.toNat:Nat):Int):=λn x hn=>by have:=Ny x;rw[w64,w64,show(n:Int)*256=((n*2 ^ 8:Nat):Int) by omega,orK 8 n x.toNat]
 obtain⟨M,rfl⟩: ∃ M,N=M+10:=⟨N - 10,by omega⟩
 have hl:((a::b::c::d::r:Bs).length:Int)=(r.length:Int)+4:=by simp;omega
 unfold Tj;try simp -zeta only[Ap]
 rw[show J4 (a::b::c::d::r) 0 4=[a,b,c,d]from rfl,hl,A0f,cond_false];refine(JV _ (Dk)).trans ((JV _ rfl).trans ?_);rw[show List.map (fun(b:UInt8)=>((b.toNat:Nat):Int)) [a,b,c,d]=[(a.toNat:Int),(b.toNat:Int),(c.toNat:Int),(d.toNat:Int)]from rfl];have s0:=st 0 a (by omega);have s1:=st a.toNat b (by omega);have s2:=st (a.toNat*256+b.toNat) c (by omega);have s3:=st ((a.toNat*256+b.toNat)*256+c.toNat) d (by omega);rw[Hz,DV]at s0;rw[KL];dsimp only[U3];refine(lI rfl).trans ((JV _ rfl).trans ((JV _ rfl).trans ((JV _ rfl).trans ?_)));rw[show([((a.toNat:Nat):Int),(b.toNat:Int),(c.toNat:Int),(d.toNat:Int)]:List Int).getD (Int.toNat 0) 0=(a.toNat:Int)from rfl,show(0:Int)=((0:Nat):Int)from rfl,s0,show i64.wrap (((0:Nat):Int)+1)=1 from rfl,KL];dsimp only[U3];refine(lI rfl).trans ((JV _ rfl).trans ((JV _ rfl).trans ((JV _ rfl).trans ?_)));rw[show([((a.toNat:Nat):Int),(b.toNat:Int),(c.toNat:Int),(d.toNat:Int)]:List Int).getD (Int.toNat 1) ((0:Nat):Int)=(b.toNat:Int)from rfl,s1,show i64.wrap (1+1)=2 from rfl,KL];dsimp only[U3];refine(lI rfl).trans ((JV _ rfl).trans ((JV _ rfl).trans ((JV _ rfl).trans ?_)));rw[show([((a.toNat:Nat):Int),(b.toNat:Int),(c.toNat:Int),(d.toNat:Int)]:List Int).getD (Int.toNat 2) ((0:Nat):Int)=(c.toNat:Int)from rfl,s2,show i64.wrap (2+1)=3 from rfl,KL];dsimp only[U3];refine(lI rfl).trans ((JV _ rfl).trans ((JV _ rfl).trans ((JV _ rfl).trans ?_)));rw[show([((a.toNat:Nat):Int),(b.toNat:Int),(c.toNat:Int),(d.toNat:Int)]:List Int).getD (Int.toNat 3) ((0:Nat):Int)=(d.toNat:Int)from rfl,s3,show i64.wrap (3+1)=4 from rfl,KL];dsimp only[U3];exact(AeL rfl).trans rfl
def Awq (N:Nat) (a b c d:UInt8) (r:Bs):WB N (a::b::c::d::r)=some (((lfN a b c d:Nat):Int),true):=by
 have ha:=Ny a;have hb:=Ny b;have hc:=Ny c;have hd:=Ny d;have hl:((a::b::c::d::r:Bs).length:Int)=(r.length:Int)+4:=by simp;omega
 unfold WB;try simp -zeta only[Ap]
 rw[hl,A0f,cond_false];rw[show(a::b::c::d::r:Bs).getD 0 0=a from rfl,show(a::b::c::d::r:Bs).getD 1 0=b from rfl,show(a::b::c::d::r:Bs).getD 2 0=c from rfl,show(a::b::c::d::r:Bs).getD 3 0=d from rfl];dsimp only;rw[JV _ (Dk),JV _ (Dk),JV _ (Dk),JV _ (Dk)];have e1:=orK 24 a.toNat (b.toNat*65536)
 have e2:=orK 16 (a.toNat*256+b.toNat) (c.toNat*256);have e3:=orK 8 ((a.toNat*256+b.toNat)*256+c.toNat) d.toNat
 rw[w64 (x:=(a.toNat:Int)),w64 (x:=(b.toNat:Int)),w64 (x:=(c.toNat:Int)),w64 (x:=(d.toNat:Int)),w64,w64,w64];rw[show(a.toNat:Int)*16777216=((a.toNat*2 ^ 24:Nat):Int) by omega,show(b.toNat:Int)*65536=((b.toNat*65536:Nat):Int) by omega,show(c.toNat:Int)*256=((c.toNat*256:Nat):Int) by omega,e1];rw[show a.toNat*2 ^ 24+b.toNat*65536=(a.toNat*256+b.toNat)*2 ^ 16 by omega,e2,show(a.toNat*256+b.toNat)*2 ^ 16+c.toNat*256=((a.toNat*256+b.toNat)*256+c.toNat)*2 ^ 8 by omega,e3];rfl
def AxT (a b c d:UInt8):lfN a b c d<4294967296:=by have:=Ny a;have:=Ny b;have:=Ny c;have:=Ny d;unfold lfN;omega
def AyA {X Y ρ :Type} {B:X->(X->Option ρ)->(Y->Option ρ)->Option ρ} {kx:Y->Option ρ} (S:Nat->X) (n:Nat) (fin:Option ρ) (h: ∀ i,i<n-> ∀ k,B (S i) k kx=k (S (i+1))) (hend: ∀ k,B (S n) k kx=fin): ∀(m i F:Nat),i+m=n->m<F->Jy B F (S i) kx=fin:=by
 intro m
 induction m with
 | zero =>
  intro i F hi hF;obtain⟨F,rfl⟩: ∃ G,F=G+1:=⟨F - 1,by omega⟩
  have:i=n:=by omega
  subst this;rw[KL,hend]
 | succ m ih =>
  intro i F hi hF;obtain⟨F,rfl⟩: ∃ G,F=G+1:=⟨F - 1,by omega⟩
  rw[KL,h i (by omega),ih (i+1) F (by omega) (by omega)]
def sbS (s:Bs) (i:Nat):Bs:=J4 s (564+16*i) (564+16*(i+1))
def ndS (N:Nat) (id:Bs) (L i:Nat) (x y:Bs):Bs:=hS N [[78],id,b1P i,b4P ((L / 2 ^ (i+1):Nat):Int),x,y]
def ptS (N:Nat) (id s:Bs) (L:Nat) (v:Bs):Nat->Bs
 | 0=>v
 | i+1=>bif L / 2 ^ i % 2==0 then ndS N id L i (ptS N id s L v i) (sbS s i)else ndS N id L i (sbS s i) (ptS N id s L v i)
def AwD (s:Bs) (a x y:Nat):J4 (J4 s a s.length) x y=J4 s (a+x) (a+y):=by unfold J4;rw[E5,List.take_drop,Fj]
def AxJ (L i:Nat):L / 2 ^ i / 2=L / 2 ^ (i+1):=by rw[Hl,Nat.pow_succ]
def fdS (L i:Nat) (hi:i<=64):(L:Int).fdiv (2 ^ (min (i:Int).toNat 64))=((L / 2 ^ i:Nat):Int):=by rw[Int.toNat_natCast,Iz hi,FD _ (Int.le_of_lt (Int.pow_pos (by decide))),Int.natCast_ediv,Int.natCast_pow];rfl
section
variable {N:Nat} (h:Big N) {id s:Bs} (h0:id.length=16) {k:Nat} (hk:k<=8) (hs:s.length=564+16*k) (L:Nat) {v q:Bs} (hv:v.length=16)
include h h0
theorem Ak6 (i:Nat) {x y:Bs} (hx:x.length=16) (hy:y.length=16):LQ N [[78],id,b1P i,b4P ((L / 2 ^ (i+1):Nat):Int),x,y]=some (ndS N id L i x y)/\(ndS N id L i x y).length=16 :=
 lV (hok h (by simp) (by simp [h0,hx,hy,b1P,b4P]))
theorem AoY (i:Nat) {x y:Bs} (hx:x.length=16) (hy:y.length=16):Ph N id i ((L / 2 ^ (i+1):Nat):Int) x y=some (ndS N id L i x y):=by unfold Ph;rw[show AaM N (i:Int)=some (b1P i)from AeH N i,Js,AfJ,Js,(Ak6 h h0 L i hx hy).1,Js]
theorem Ape (i:Nat) {x y:Bs} (hx:x.length=16) (hy:y.length=16):MZ N [[78],id,b1P i,b4P ((L / 2 ^ (i+1):Nat):Int),x,y]=some (ndS N id L i x y):=by have hn:=h.n;rw[gQ h (by simp;omega) (by simp [h0,hx,hy,b1P,b4P];omega),(Ak6 h h0 L i hx hy).1]
include hs hv hk
omit h h0 hv hk in
theorem AmW {i:Nat} (hi:i<k):(sbS s i).length=16:=by unfold sbS;rw[TL _ _ _];omega
omit hk in
theorem Atv: ∀ i,i<=k->(ptS N id s L v i).length=16:=by
 intro i
 induction i with
 | zero=>intro _;exact hv
 | succ i ih =>
  intro hi;have h1:=ih (by omega);have h2:=AmW hs (i:=i) (by omega);unfold ptS;cases L / 2 ^ i % 2==0 with
  | true=>exact(Ak6 h h0 L i h1 h2).2
  | false=>exact(Ak6 h h0 L i h2 h1).2
omit h0 hs hv hk in
theorem wS {x:Int} (h1:0<=x) (h2:x<=10000):i64.wrap x=x:=w64
theorem AyO (hL:L<256):Jy (X:=Bs×Int×Int×Int×Bs×Bs) (Y:=(Bs×Int×Bs×Bs)) (U6 λt10a t13a t14a b33536_0a b33536_1a b33536_2a k1 x2 =>
 bif decide (t13a<b33536_0a)then(Ld (α :=Bs×Int×Bs×Bs) (λj3 =>
 chk (decide ((0:Int)<=i64.wrap (t13a*(16:Int)))) <|
 chk (decide (i64.wrap (t13a*(16:Int))<=i64.wrap ((i64.wrap (t13a+(1:Int)))*(16:Int)))) <|
 chk (decide (i64.wrap ((i64.wrap (t13a+(1:Int)))*(16:Int))<=((J4 s 564 s.length).length:Int))) <|
 let x71:Bs:=J4 (J4 s 564 s.length) ((i64.wrap (t13a*(16:Int))).toNat) ((i64.wrap ((i64.wrap (t13a+(1:Int)))*(16:Int))).toNat)
 bif ((t14a.tmod 2)==(0:Int))then(Jq (Ph N b33536_1a t13a (i64.wrap (t14a.tdiv 2)) t10a x71) λr82 =>
 j3 (r82,b33536_0a,b33536_1a,b33536_2a))
 else(Jq (Ph N b33536_1a t13a (i64.wrap (t14a.tdiv 2)) x71 t10a) λr90 =>
 j3 (r90,b33536_0a,b33536_1a,b33536_2a)))
 (U4 λt10b b33536_0b b33536_1b b33536_2b =>
 k1 (t10b,i64.wrap (t13a+(1:Int)),i64.wrap (t14a.tdiv 2),b33536_0b,b33536_1b,b33536_2b)))
 else(x2 (t10a,b33536_0a,b33536_1a,b33536_2a)))
 N (v,0,(L:Int),(k:Int),id,q) (U4 λt10c b33536_0c b33536_1c b33536_2c =>
 bif !(t10c==b33536_2c)then(some (17:Int))
 else(some 0))=some (bif !(ptS N id s L v k==q)then 17 else 0):=by
  have hn:=h.n;have e0:(v,(0:Int),(L:Int),(k:Int),id,q)=(λi:Nat=>(ptS N id s L v i,(i:Int),((L / 2 ^ i:Nat):Int),(k:Int),id,q)) 0:=by dsimp only;rw[Nat.pow_zero,Nat.div_one];rfl
  refine(congrArg (λx=>Jy _ N x _) e0).trans (AyA (λi=>(ptS N id s L v i,(i:Int),((L / 2 ^ i:Nat):Int),(k:Int),id,q)) k _ ?_ ?_ k 0 N (by omega) (by omega))
  .intro i hi c;have hp:=Atv h h0 hs L hv i (by omega);have hb:=AmW hs hi;have hq:L / 2 ^ i<=L:=I7 _ _;have hw:(0:Int)<=((L / 2 ^ i / 2:Nat):Int)/\((L / 2 ^ i / 2:Nat):Int)<=10000:=by generalize L / 2 ^ i=G at hq;omega
   have hl:(J4 s 564 s.length).length=16*k:=by rw[TL _ _ _ (DD _)];omega
   dsimp only[U6,U4];rw[Dk,cond_true,OW,wS h (x:=(i:Int)*16) (by omega) (by omega),wS h (x:=(i:Int)+1) (by omega) (by omega),wS h (x:=((i:Int)+1)*16) (by omega) (by omega),hl,show((i:Int)*16).toNat=16*i by omega,show(((i:Int)+1)*16).toNat=16*(i+1) by omega,AwD];rw[JV _ (Dk),JV _ (Dk),JV _ (Dk)];rw[show(((L / 2 ^ i:Nat):Int)).tmod 2=((L / 2 ^ i % 2:Nat):Int)from rfl,show(((L / 2 ^ i:Nat):Int)).tdiv 2=((L / 2 ^ i / 2:Nat):Int)from rfl,wS h (x:=((L / 2 ^ i / 2:Nat):Int)) hw.1 hw.2,AxJ];have hc:J4 s (564+16*i) (564+16*(i+1))=sbS s i:=rfl;rw[hc];have hd:ptS N id s L v (i+1)=bif L / 2 ^ i % 2==0 then ndS N id L i (ptS N id s L v i) (sbS s i)else ndS N id L i (sbS s i) (ptS N id s L v i):=rfl;rw[hd];have h01:L / 2 ^ i % 2=0\/L / 2 ^ i % 2=1:=by omega
   rcases h01 with e | e
   .rw[e,AoY h h0 L i hp hb];rfl
   .rw[e,AoY h h0 L i hb hp];rfl
  .intro c;dsimp only[U6,U4];rw[A0f,cond_false];cases ptS N id s L v k==q<;>rfl
theorem AyR (hL:L<256):Jy (X:=Bs×Int×Int×Bs×Bs) (Y:=(Bs×Int×Bs×Bs)) (U5 λt11a t13a b33536_0a b33536_1a b33536_2a k1 x2 =>
 bif decide (t13a<b33536_0a)then(let x70:Int:=i64.wrap ((564:Int)+(i64.wrap (t13a*(16:Int))))
 let x75:Int:=i64.wrap ((564:Int)+(i64.wrap ((i64.wrap (t13a+(1:Int)))*(16:Int))))
 chk (decide ((0:Int)<=x70)) <|
 chk (decide (x70<=x75)) <|
 chk (decide (x75<=(s.length:Int))) <|
 chk (decide ((0:Int)<=t13a)) <|
 bif ((((L:Int).fdiv (2 ^ (min t13a.toNat 64))).tmod 2)==(1:Int))then(Jq (Q8 N t13a) λr86 =>
 Jq (PN N (i64.wrap (((L:Int).fdiv (2 ^ (min t13a.toNat 64))).tdiv 2))) λr89 =>
 Jq (MZ N ([([78]:Bs),b33536_1a,r86,r89,J4 s x70.toNat x75.toNat,t11a]:List Bs)) λr93 =>
 k1 (r93,i64.wrap (t13a+(1:Int)),b33536_0a,b33536_1a,b33536_2a))
 else(Jq (Q8 N t13a) λr97 =>
 Jq (PN N (i64.wrap (((L:Int).fdiv (2 ^ (min t13a.toNat 64))).tdiv 2))) λr100 =>
 Jq (MZ N ([([78]:Bs),b33536_1a,r97,r100,t11a,J4 s x70.toNat x75.toNat]:List Bs)) λr104 =>
 k1 (r104,i64.wrap (t13a+(1:Int)),b33536_0a,b33536_1a,b33536_2a)))
 else(x2 (t11a,b33536_0a,b33536_1a,b33536_2a)))
 N (v,0,(k:Int),id,q) (U4 λt11b b33536_0b b33536_1b b33536_2b =>
 bif !(t11b==b33536_2b)then(some (17:Int))
 else(some 0))=some (bif !(ptS N id s L v k==q)then 17 else 0):=by
  have hn:=h.n;refine AyA (λi=>(ptS N id s L v i,(i:Int),(k:Int),id,q)) k _ ?_ ?_ k 0 N (by omega) (by omega)
  .intro i hi c;have hp:=Atv h h0 hs L hv i (by omega);have hb:=AmW hs hi;have hq:L / 2 ^ i<=L:=I7 _ _;have hw:(0:Int)<=((L / 2 ^ i / 2:Nat):Int)/\((L / 2 ^ i / 2:Nat):Int)<=10000:=by generalize L / 2 ^ i=G at hq;omega
   dsimp only[U5];rw[fdS L i (by omega)];rw[Dk (by omega:(i:Int)<(k:Int)),cond_true,wS h (x:=(i:Int)*16) (by omega) (by omega),wS h (x:=(i:Int)+1) (by omega) (by omega),wS h (x:=((i:Int)+1)*16) (by omega) (by omega),wS h (x:=564+(i:Int)*16) (by omega) (by omega),wS h (x:=564+((i:Int)+1)*16) (by omega) (by omega)];rw[JV _ (Dk),JV _ (Dk),JV _ (Dk),JV _ (Dk)];rw[show(564+(i:Int)*16).toNat=564+16*i by omega,show(564+((i:Int)+1)*16).toNat=564+16*(i+1) by omega];rw[show(((L / 2 ^ i:Nat):Int)).tmod 2=((L / 2 ^ i % 2:Nat):Int)from rfl,show(((L / 2 ^ i:Nat):Int)).tdiv 2=((L / 2 ^ i / 2:Nat):Int)from rfl,wS h (x:=((L / 2 ^ i / 2:Nat):Int)) hw.1 hw.2,AxJ];have hc:J4 s (564+16*i) (564+16*(i+1))=sbS s i:=rfl;rw[hc];have hd:ptS N id s L v (i+1)=bif L / 2 ^ i % 2==0 then ndS N id L i (ptS N id s L v i) (sbS s i)else ndS N id L i (sbS s i) (ptS N id s L v i):=rfl;rw[hd];have h01:L / 2 ^ i % 2=0\/L / 2 ^ i % 2=1:=by omega
   simp only[rB1 h,Js,rB4 h];rcases h01 with e | e
   .rw[e,Ape h h0 L i hp hb];rfl
   .rw[e,Ape h h0 L i hb hp];rfl
  .intro c;dsimp only[U5,U4];rw[A0f,cond_false];cases ptS N id s L v k==q<;>rfl
end
def ApM (N:Nat) (k:Int×Bs×Bs):PO N k=KW N k:=rfl
def An0 (N:Nat) (k:Int) (i q:Bs):KW N (k,i,q)=some 18\/KW N (k,i,q)=some 0/\(0<=k/\k<=8)/\i.length=16/\q.length=16:=by
 by_cases h1:k<0
 .left;unfold KW;(try simp -zeta only[Ap]);(try dsimp only);rw[Dk h1];rfl
 by_cases h2:k>8
 .left;unfold KW;(try simp -zeta only[Ap]);(try dsimp only);rw[Dq h1,Dk h2];rfl
 by_cases h3:i.length=16
 .by_cases h4:q.length=16
  .right;refine⟨?_,⟨by omega,by omega⟩,h3,h4⟩;unfold KW;(try simp -zeta only[Ap]);(try dsimp only);rw[Dq h1,Dq h2,h3,h4];rfl
  .left;unfold KW;(try simp -zeta only[Ap]);(try dsimp only);rw[Dq h1,Dq h2,h3,VB (show(q.length:Int)≠16 by omega)];rfl
 .left;unfold KW;(try simp -zeta only[Ap]);(try dsimp only);rw[Dq h1,Dq h2,VB (show(i.length:Int)≠16 by omega)];rfl
def Axe: ∀ k:Fin 9,(0<=u64.wrap (k.val:Int)/\i64.wrap (1*2 ^ (min (u64.wrap (k.val:Int)).toNat 64))=((2 ^ k.val:Nat):Int))/\i64.wrap (1*2 ^ (min ((k.val:Nat):Int).toNat 64))=((2 ^ k.val:Nat):Int)/\2 ^ k.val<=256:=by decide +kernel
def AsW (N:Nat) (s:Bs): ∃ r,WB N s=some r:=by
 match s with
 | a::b::c::d::r=>exact⟨_,Awq N a b c d r⟩
 | []=>exact⟨_,rfl⟩
 | [a]=>exact⟨_,rfl⟩
 | [a,b]=>exact⟨_,rfl⟩
 | [a,b,c]=>exact⟨_,rfl⟩
def four: ∀ s:Bs,4<=s.length-> ∃ a b c d r,s=a::b::c::d::r
 | a::b::c::d::r,_=>⟨a,b,c,d,r,rfl⟩
def Anp {N:Nat} (h:Big N) (k:Int) (id q m s:Bs) (hm:m.length+1000<N): ∃ e,RU N (k,id,q) m s=some e/\YM N (k,id,q) m s=some e:=by
 have hn:=h.n;unfold RU YM;try simp -zeta only[Ap]
 rw[ApM];rcases An0 N k id q with e | ⟨e,⟨k0,k8⟩,hi,hq⟩
 .rw[e];exact⟨18,rfl,rfl⟩
 rw[e,Js,Js,show((0:Int) != 0)=false from rfl,cond_false,cond_false];obtain⟨k,rfl⟩: ∃ n:Nat,k=n:=⟨k.toNat,by omega⟩
 have hk:k<=8:=by omega
 obtain⟨⟨p0,p1⟩,p2,p3⟩:=Axe ⟨k,by omega⟩;dsimp only at p0 p1 p2 p3 ⊢;rw[wS h (x:=(k:Int)*16) (by omega) (by omega),wS h (x:=564+(k:Int)*16) (by omega) (by omega),p1,p2];by_cases hs:s.length=564+16*k
 .obtain⟨L,hL,pl,rl⟩: ∃ L,L<4294967296/\Tj N s=some (((L:Nat):Int),true)/\WB N s=some (((L:Nat):Int),true):=by
   obtain⟨a,b,c,d,r,rfl⟩:=four s (by omega);exact⟨lfN a b c d,AxT a b c d,AyN (by omega) a b c d r,Awq N a b c d r⟩
  rw[pl,Js,rl,Js,iP (show(s.length:Int)=564+(k:Int)*16 by omega)];dsimp only;rw[cond_false,Dk p0,Dk (by omega:(0:Int)<=(k:Int)),Ju];have hx: ∀ y:Bool,(bif false then true else y)=y:=λ_=>rfl;simp only[hx,DZ,EC,H5,ED,EP,Ju,cond_false];by_cases hb:(L:Int)>=((2 ^ k:Nat):Int)
  .rw[Dk hb,cond_true,cond_true];exact⟨17,rfl,rfl⟩
  .rw[Dq hb,cond_false,cond_false];have h256:L<256:=by omega
   have hd:=lV (N:=N) (l:=[[77],id,q,b4P (L:Int),m]) ⟨by omega,h.m,by simp;omega,λs' hs'=>by
    simp only[D7,Fe,GN]at hs';rcases hs' with rfl | rfl | rfl | rfl | rfl
    .simp;omega
    .omega
    .omega
    .simp [b4P];omega
    .omega⟩
   obtain⟨d1,d2⟩:=hd;have d3:Pg N ((k:Int),id,q) (L:Int) m=some (hS N [[77],id,q,b4P (L:Int),m]):=by unfold Pg;rw[AfJ,Js];exact(congrArg (Jq · _) d1).trans rfl
   have d4:MZ N [[77],id,q,b4P (L:Int),m]=some (hS N [[77],id,q,b4P (L:Int),m]):=by rw[gQ h (by simp;omega) (by simp [hi,hq,b4P];omega),d1]
   generalize hS N [[77],id,q,b4P (L:Int),m]=dg at d2 d3 d4;have hg:(J4 s 4 564).length=560:=by rw[TL _ _ _]
   have r1:=Avn h hi (p1:=(L:Int)) (by omega) (by omega) d2 hg;have r2:=Avu h hi (p1:=(L:Int)) (by omega) (by omega) d2 hg;have hv:=(bU h (p0:=id) (by omega) (L:Int) (l:=(List.range 35).map (reS N id (L:Int) dg (J4 s 4 564))) (by simp) (Ux (AhB h hi d2 hg))).2;generalize Ah5 N id (L:Int) ((List.range 35).map (reS N id (L:Int) dg (J4 s 4 564)))=v at r1 r2 hv;rw[d3,Js,rB4 h,Js,d4,Js,JV _ (Dk),JV _ (Dk),r1,Js,r2,Js];dsimp only;rw[show((0:Int) != 0)=false from rfl,cond_false,JV _ (Dk)];exact⟨_,AyO h hi hk hs L hv h256,AyR h hi hk hs L hv h256⟩
 .obtain⟨l,hl⟩:=AsW N s;rw[VB (show(s.length:Int)≠564+(k:Int)*16 by omega),hl];exact⟨17,rfl,rfl⟩
end Go.Proofs.YtacidcemomccpaaGreatDoor.Pl
