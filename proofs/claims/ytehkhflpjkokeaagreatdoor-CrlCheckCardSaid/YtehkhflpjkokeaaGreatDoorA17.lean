import Derived.Test.YtehkhflpjkokeaaGreatDoorA16
set_option linter.all false
namespace Go.Proofs.YtehkhflpjkokeaaGreatDoor.Pl
open IntKind (i64 u8 u32 u64)
open Go Vm
def Akc {c:UInt8} {s:Bs} (h:c∉s):Lib.cut s [c]=(s,[],false):=by unfold Lib.cut;rw[index_none c s h];rfl
def Akb {c:UInt8} {a r:Bs} (h:c∉a):Lib.cut (a++c::r) [c]=(a,r,true):=by
 unfold Lib.cut;rw[AcF c a r h,AyA];have e1:((a.length:Int)).toNat=a.length:=by omega
 rw[e1,GN,<- FN,Gx];rfl
def OB (s:Bs):Bool:=(Lib.cut s [64]).2.2&&decide (s.length<=128)&&zG (Lib.cut s [64]).1&&Qh (Lib.cut s [64]).2.1
def yS (N:Nat) (s:Bs) (hN:1048578<N) (hs:s.length<=1048576):UK N s=some (OB s):=by
 unfold UK OB strings_Cut;try simp only[clR]
 rw[Di (show s.length<4294967281 by omega),cond_true,Jr]
 have hl:(Lib.cut s [64]).1.length<=s.length:=by
  rcases Zc 64 s with h | ⟨a,r,rfl,ha⟩
  .rw[Akc h];exact DN _
  .rw[Akb ha];simp
 rw[Ail N _ hN (by omega),VN N _];rw[show decide (((s.length:Nat):Int)<=128)=decide (s.length<=128) by congr 1;apply propext;omega];rfl
def AqB (r:Bs): ∀ a:Bs,(List.range a.length).any (fun i=> !RS ((a++64::r).getD i 0)||((a++64::r).getD i 0==46&&(a++64::r).getD (i+1) 0==46))=(!(a.all RS)||dots a):=by
 intro a
 induction a with
 | nil=>rfl
 | cons x t ih =>
  rw[List.length_cons,H8,List.any_cons,List.any_map,List.all_cons];have e:(List.range t.length).any ((fun i=> !RS ((x::t++64::r).getD i 0)||((x::t++64::r).getD i 0==46&&(x::t++64::r).getD (i+1) 0==46))∘Nat.succ)=(List.range t.length).any (fun i=> !RS ((t++64::r).getD i 0)||((t++64::r).getD i 0==46&&(t++64::r).getD (i+1) 0==46)):=rfl;rw[e,ih];show((!RS x||(x==46&&(t++64::r).getD 0 0==46))||_)=_;cases t with
  | nil =>show((!RS x||(x==46&&(64:UInt8)==46))||(!true||false))=(!(RS x&&true)||false);cases RS x<;>cases x==46<;>rfl
  | cons y t =>show((!RS x||(x==46&&y==46))||(!((y::t).all RS)||dots (y::t)))=(!(RS x&&(y::t).all RS)||((x==46&&y==46)||dots (y::t)));cases RS x<;>cases (y::t).all RS<;>cases x==46&&y==46<;>cases dots (y::t)<;>rfl
def qM (n i:Nat) (h:i<n):(List.range n).getD i 0=i:=by rw[getD_lt _ _ _ (by rw[DK];exact h),Jd]
def AvC {a r:Bs} (ha:64∉a):OB (a++64::r)=(decide ((a++64::r).length<=128)&&zG a&&Qh r):=by unfold OB;rw[Akb ha,EE]
def AgN (N:Nat) (s:Bs) (hN:1048578<N) (hs:s.length<=1048576):YN N s=some (bif OB s then((Lib.cut s [64]).1,(Lib.cut s [64]).2.1,true)else([],[],false)):=by
 unfold YN;try simp only[clR]
 by_cases h0:128<s.length
 .rw[AdT (by omega),cond_true];unfold OB;rw[AeI h0];simp
 rw[Ajp (by omega),cond_false];refine(AlQ (mk:=fun i=>(i:Int)) (out:=fun i=>(i:Int)) s 0 (fun c=>c==64) ?_ ?_ N (by omega)).trans ?_
 .intro i k hi;simp (disch:=omega) only[JZ,Axm,KU];cases s.getD i 0==64<;>rfl
 .intro k;simp (disch:=omega) only[JZ]
 .rcases Zc 64 s with h | ⟨a,r,rfl,ha⟩
  .rw[Ak3 _ _ (fun x hx=>Ed (b:=(64:UInt8)) (show x≠64 from fun hx2=>h (by rw[<- hx2];exact hx)))];unfold OB;rw[Akc h];simp (disch:=omega) only[JZ]
  .rw[AoX _ a 64 r (fun x hx=>Ed (b:=(64:UInt8)) (show x≠64 from fun hx2=>ha (by rw[<- hx2];exact hx))) rfl,AvC ha,Akb ha];have hlen:(a++64::r).length=a.length+r.length+1:=by simp;omega
   rw[Abe (by omega),EE];unfold zG;by_cases h1:a.length<1
   .simp (disch:=omega) only[JZ]
   by_cases h2:64<a.length
   .simp (disch:=omega) only[JZ]
   have hcut:J6 (a++64::r) (a.length+1) (a++64::r).length=r:=by unfold J6;rw[ES,<- FN,Gx];rfl
   have hcut0:J6 (a++64::r) 0 a.length=a:=by unfold J6;rw[FP,GN]
   have hg: ∀ i,i<a.length->(a++64::r).getD i 0=a.getD i 0:=fun i hi=>by rw[Dj,Eu hi,<- Dj]
   have hg0:=hg 0 (by omega);have hg1:=hg (a.length - 1) (by omega);rw[w64,w64];rw[KU,Int.toNat_natCast,Aft,hcut,hg0,hg1,SL N r hN,beq46,beq46];rw[AaU (show(1:Int)<=a.length by omega),Ajp (show(a.length:Int)<=64 by omega),NP (show(a.length:Int)≠((a++64::r).length:Nat) by omega),Vq (show(0:Int)<=((a.length+1:Nat):Int) by omega),Vq (show((a.length+1:Nat):Int)<=((a++64::r).length:Nat) by omega),Y8 (show(0:Int)<((a++64::r).length:Nat) by omega),Vq (show(0:Int)<=(a.length:Int) - 1 by omega),Y8 (show(a.length:Int) - 1<((a++64::r).length:Nat) by omega),Ajx (show 1<=a.length by omega),Ajx (show a.length<=64 by omega)];simp only[DR,Jv,EN,Option.getD_some,Option.isSome_some];cases Qh r<;>cases a.getD 0 0==46<;>cases a.getD (a.length - 1) 0==46<;>first | (simp;done) | skip
   simp only[Eh,EN,DY,cond_false,EE,FK];refine E5 (Rh (S:=Unit) (R:=Bs×Bs×Bool) (mk:=fun i _=>(i:Int)) (List.range a.length) 0 (fun i _=>bif (!RS ((a++64::r).getD i 0)||((a++64::r).getD i 0==46&&(a++64::r).getD (i+1) 0==46))then .inl ([],[],false)else .inr ()) some (fun _=>some (a,r,true)) ?_ ?_ N () (by rw[DK];omega)) ?_
   .intro i _ hi k;rw[DK]at hi;rw[qM _ _ hi];have hAm:=Aj3 N sJ ((a++64::r).getD i 0) (by show 20<N;omega) (by decide);rw[show sJ=([33,35,36,37,38,39,42,43,45,47,61,63,94,95,96,123,124,125,126,46]:Bs)from rfl]at hAm;simp (disch:=omega) only[JZ,oP,KU,hAm,beq46,Option.isSome_some,Option.getD_some];unfold RS;rw[show sJ=([33,35,36,37,38,39,42,43,45,47,61,63,94,95,96,123,124,125,126,46]:Bs)from rfl];generalize List.any _ _=u;generalize ((a++64::r).getD (i+1) 0==46)=v;cases TQ ((a++64::r).getD i 0)<;>cases u<;>cases (a++64::r).getD i 0==46<;>cases v<;>rfl
   .intro _ k;rw[DK];simp (disch:=omega) only[JZ,hcut,hcut0,KU]
   .rw[Ah5,AqB];cases a.all RS<;>cases dots a<;>rfl
def uT (N:Nat) (s:Bs) (hN:1048578<N) (hs:s.length<=1048576):V6 N s=some (OB s):=by unfold V6;rw[AgN N s hN hs,Jr];cases OB s<;>rfl
def mbP (s:Bs):Bool:=decide (s.length<=128)&&(OB s||Qh (Lib.trimPrefix s [46]))
def Arc (n:Nat):decide ((n:Int)<=128)=decide (n<=128):=by congr 1;apply propext;omega
def AcE (N:Nat) (s:Bs) (hN:1048578<N) (hs:s.length<=1048576):TV N s=some (mbP s):=by
 unfold TV mbP strings_TrimPrefix;try simp only[clR]
 rw[yS N s hN hs];simp only[Option.isSome_some,Option.getD_some,DR,Jv];rw[VN N _,Arc];simp only[Option.isSome_some,Option.getD_some,DR,Jv];cases OB s<;>cases decide (s.length<=128)<;>rfl
def AeC {s:Bs} (h:128<s.length):OB s=false:=by unfold OB;rw[AeI h];simp
def Ahq {s:Bs} (h:128<s.length):Qh s=false:=by unfold Qh;rw[Ajy h];rfl
def AbB (N:Nat) (s:Bs) (hN:1048578<N) (hs:s.length<=1048576):SN N s=some (mbP s):=by
 unfold SN mbP;try simp only[clR]
 rw[uT N s hN hs,Jr,SL N s hN,SL N _ hN,Arc];simp only[Option.isSome_some,Option.getD_some,DR,Jv];by_cases h0:s.length<=128
 .rw[Abe h0];cases s with
  | nil=>rw[Aga];cases OB []<;>rfl
  | cons x r =>
   have hcut:J6 (x::r) 1 (x::r).length=r:=by unfold J6;rw[ES];rfl
   rw[hcut,show(x::r:Bs).getD 0 0=x from rfl,beq46];rw[Y8 (show(0:Int)<((x::r:Bs).length:Nat) by rw[List.length_cons];omega),Vq (show(1:Int)<=((x::r:Bs).length:Nat) by rw[List.length_cons];omega)];by_cases hx:x=46
   .subst hx;rw[Avu,show Lib.trimPrefix (46::r) [46]=r by simp [Lib.trimPrefix,Lib.hasPrefix,List.isPrefixOf]];cases r with
    | nil=>rw[Aga];cases OB [46]<;>rfl
    | cons y r =>rw[AdT (show((46::y::r:Bs).length:Int)>1 by simp;omega)];cases OB (46::y::r)<;>cases Qh (y::r)<;>rfl
   .rw[Ed hx,show Lib.trimPrefix (x::r) [46]=x::r by
     have: ¬(46:UInt8)=x:=fun h=>hx h.symm;simp [Lib.trimPrefix,Lib.hasPrefix,List.isPrefixOf,this]]
    cases OB (x::r)<;>cases Qh (x::r)<;>cases decide (((x::r:Bs).length:Int)>1)<;>rfl
 .rw[AeI (by omega),AeC (by omega),Ahq (by omega)];simp (disch:=omega) only[JZ]
def oV (s:Bs):Bool:=decide (s.length=4)||decide (s.length=16)
def yU (a b:Nat):(((a:Nat):Int)==((b:Nat):Int))=decide (a=b):=by
 by_cases h:a=b
 .rw[h,Di rfl];exact ER _
 .rw[Dn h];exact Ed (by omega)
def Aes (N:Nat) (s:Bs):UJ N s=some (oV s):=by
 unfold UJ oV;try simp only[clR]
 rw[show(((s.length:Nat):Int)==4)=decide (s.length=4)from yU _ 4,show(((s.length:Nat):Int)==16)=decide (s.length=16)from yU _ 16]
def Adi (N:Nat) (s:Bs):TZ N s=some (oV s):=by
 unfold TZ oV;try simp only[clR]
 rw[show(((s.length:Nat):Int)==4)=decide (s.length=4)from yU _ 4,show(((s.length:Nat):Int)==16)=decide (s.length=16)from yU _ 16]
def pG (c:UInt8) (k:Nat):Bool:=c.toNat / 2 ^ k % 2==1
def Atf (c:UInt8) (k:Nat) (hk:k<8):(J9 .and .u8 (((c.toNat:Nat):Int).fdiv (2 ^ min k 8)) 1==1)=pG c k:=by
 have: ∀ k:Fin 8,∀ n:Fin 256,(J9 .and .u8 ((((UInt8.ofNat n.val).toNat:Nat):Int).fdiv (2 ^ min k.val 8)) 1==1)=pG (UInt8.ofNat n.val) k.val:=by decide +kernel
 exact oM (P:=fun c=>(J9 .and .u8 (((c.toNat:Nat):Int).fdiv (2 ^ min k 8)) 1==1)=pG c k) (this ⟨k,hk⟩) c
def Avo (c:UInt8) (k:Nat) (hk:k<8):((((c.toNat:Nat):Int).fdiv (2 ^ min k 8)).tmod 2==1)=pG c k:=by
 have: ∀ k:Fin 8,∀ n:Fin 256,(((((UInt8.ofNat n.val).toNat:Nat):Int).fdiv (2 ^ min k.val 8)).tmod 2==1)=pG (UInt8.ofNat n.val) k.val:=by decide +kernel
 exact oM (P:=fun c=>((((c.toNat:Nat):Int).fdiv (2 ^ min k 8)).tmod 2==1)=pG c k) (this ⟨k,hk⟩) c
def Avb (i:Nat):((i:Int)).tdiv 8=((i / 8:Nat):Int):=rfl
def Avc (i:Nat):((i:Int)).tmod 8=((i % 8:Nat):Int):=rfl
def Aqo (i:Nat):((i:Int)).tdiv 2=((i / 2:Nat):Int):=rfl
def Afs (i:Nat):((7:Int) - (i:Int)).toNat=7 - i:=by omega
def VC (s:Bs) (i:Nat):Bool:=pG (s.getD (i / 8) 0) (7 - i % 8)
def AbX (N:Nat) (s:Bs) (i:Nat) (h:i<8*s.length:=by omega) (hs:s.length<=1048576:=by omega):Ym N s (i:Int)=some (VC s i):=by
 unfold Ym VC;try simp -zeta only[Ap]
 have:i / 8<s.length:=by omega
 have:i % 8<8:=by omega
 simp (disch:=omega) only[JZ,Avb,Avc,wu64,Afs];rw[Atf _ _ (by omega)]
def rngS (s:Bs) (i:Nat) (z:Bool):Bool ⊕ Bool:=bif (VC (s.drop (s.length / 2)) i&&z)||(!VC (s.drop (s.length / 2)) i&&VC s i)then .inl false else .inr (z|| !VC (s.drop (s.length / 2)) i)
def sG (s:Bs):Bool:=bif decide (s.length=8)||decide (s.length=32)then(QW (rngS s) (List.range (8*(s.length / 2))) false).elim id (fun _=>true)else false
def Aig (N:Nat) (s:Bs) (hN:1048578<N):Xw N s=some (sG s):=by
 unfold Xw;try simp only[clR]
 unfold sG;rw[show(((s.length:Nat):Int) != 8)= !decide (s.length=8)from congrArg _ (yU _ 8),show(((s.length:Nat):Int) != 32)= !decide (s.length=32)from congrArg _ (yU _ 32)];by_cases h0:s.length=8\/s.length=32
 .have hb:(decide (s.length=8)||decide (s.length=32))=true:=by simpa using h0
  rw[hb,cond_true,show(!decide (s.length=8)&& !decide (s.length=32))=false by rw[<- I4,hb];rfl,cond_false];have hd:s.length / 2<=s.length:=by omega
  have hh:YC N s=some (s.take (s.length / 2),s.drop (s.length / 2)):=by
   unfold YC;try simp -zeta only[Ap]
   simp (disch:=omega) only[JZ,Aqo,wu64];unfold J6;rw[ES];rfl
  rw[hh,Jr];have hl:(s.drop (s.length / 2)).length=s.length / 2:=by rw[EJ];omega
  have hl1:(s.take (s.length / 2)).length=s.length / 2:=by rw[DZ];omega
  refine E5 (Rh (S:=Bool) (R:=Bool) (mk:=fun i z=>(z,(i:Int))) (List.range (8*(s.length / 2))) 0 (rngS s) some (fun _=>some true) ?_ ?_ N false (by rw[DK];omega)) ?_
  .intro i z hi k;rw[DK]at hi;rw[qM _ _ hi];have hb1:=AbX N (s.drop (s.length / 2)) i;have hb2:=AbX N (s.take (s.length / 2)) i;have hb3:VC (s.take (s.length / 2)) i=VC s i:=by unfold VC;congr 1;rw[Dj,Gg,AyA,<- Dj]
   rw[hb3]at hb2;unfold rngS;simp (disch:=omega) only[JZ,hl,hb1,hb2,Option.isSome_some,Option.getD_some,KU];cases VC (s.drop (s.length / 2)) i<;>cases VC s i<;>cases z<;>rfl
  .intro z k;rw[DK];simp (disch:=omega) only[JZ,hl]
  .exact AdE _ id (fun _=>true)
 .have hb:(decide (s.length=8)||decide (s.length=32))=false:=by simpa using h0
  rw[hb,show(!decide (s.length=8)&& !decide (s.length=32))=true by rw[<- I4,hb];rfl];rfl
def AgK (N:Nat) (s:Bs) (hN:1048578<N):VR N s=some (sG s):=by
 unfold VR;try simp only[clR]
 unfold sG;rw[show(((s.length:Nat):Int) != 8)= !decide (s.length=8)from congrArg _ (yU _ 8),show(((s.length:Nat):Int) != 32)= !decide (s.length=32)from congrArg _ (yU _ 32)];by_cases h0:s.length=8\/s.length=32
 .have hb:(decide (s.length=8)||decide (s.length=32))=true:=by simpa using h0
  rw[hb,cond_true,show(!decide (s.length=8)&& !decide (s.length=32))=false by rw[<- I4,hb];rfl,cond_false];refine E5 (Rh (S:=Bool) (R:=Bool) (mk:=fun i z=>(z,(i:Int))) (List.range (8*(s.length / 2))) 0 (rngS s) some (fun _=>some true) ?_ ?_ N false (by rw[DK];omega)) ?_
  .intro i z hi k;rw[DK]at hi;rw[qM _ _ hi];have hbd:pG (s.getD (s.length / 2+i / 8) 0) (7 - i % 8)=VC (s.drop (s.length / 2)) i:=by unfold VC;congr 1;rw[Dj,Dj,FO]
   unfold rngS;have:i % 8<8:=by omega
   simp (disch:=omega) only[JZ,Aqo,Avb,Avc,Afs,Avo,hbd,KU];rw[show pG (s.getD (i / 8) 0) (7 - i % 8)=VC s i from rfl];cases VC (s.drop (s.length / 2)) i<;>cases VC s i<;>cases z<;>rfl
  .intro z k;rw[DK];simp (disch:=omega) only[JZ,Aqo]
  .exact AdE _ id (fun _=>true)
 .have hb:(decide (s.length=8)||decide (s.length=32))=false:=by simpa using h0
  rw[hb,show(!decide (s.length=8)&& !decide (s.length=32))=true by rw[<- I4,hb];rfl];rfl
def Ap9 (n:List (List Att)): ∃ v,X7 n=some v:=by
 unfold X7;by_cases h:8<n.length
 .rw[Dp h];exact⟨_,rfl⟩
 .rw[Dk h]
  have: ∀(l:List (List Att)) (s:Unit),∃ v,PE XA (fun _=>some 0) l s=some v:=by
   intro l
   induction l with
   | nil=>intro s;exact⟨0,rfl⟩
   | cons e r ih =>
    intro s;unfold PE XA;by_cases h:Ul e=0
    .rw[Dp h];exact ih _
    .rw[Dk h];exact⟨_,rfl⟩
  exact this n ()
def MN (n:List (List Att)):Int:=(X7 n).getD 0
def AnY (n:List (List Att)):X7 n=some (MN n):=by obtain⟨v,h⟩:=Ap9 n;unfold MN;rw[h];rfl
def TS (N:Nat) (n:List (List Att)) (hN:1048578<N) (hn:LX n):N7 N n=some (MN n):=(AfU N n hN hn).trans (AnY n)
def VJ (N:Nat) (n:List (List Att)) (hN:1048578<N) (hn:LX n):LP N n=some (MN n):=(Aj5 N n hN hn).trans (AnY n)
abbrev Gn:Type:=Int×Bs×List (List Att)
def gQ (g:Gn):Prop:=g.2.1.length<=1048576/\LX g.2.2
def Ac9 (k:Int) (s:Bs) (c:Bool):Bool:=bif k==1 then(bif c then mbP s else OB s)else bif k==2 then(bif c then pF s else rQ s)else bif k==7 then(bif c then sG s else oV s)else false
def N8 (g:Gn) (c:Bool):Int:=bif g.1==4 then(bif g.2.1==[]then MN g.2.2 else 14)else bif Ac9 g.1 g.2.1 c&&g.2.2.isEmpty then 0 else 14
def SE {α :Type} (l:List α):decide (((l.length:Nat):Int)>0)= !l.isEmpty:=by
 cases l with
 | nil=>rfl
 | cons a r=>rw[Di (by rw[List.length_cons];omega)];rfl
def Aip (N:Nat) (k:Int) (s:Bs) (c:Bool) (hN:1048578<N) (hs:s.length<=1048576):OJ N k s c=some (bif k==0 then(bif c then mbP s else OB s)else bif k==1 then(bif c then pF s else rQ s)else bif k==3 then(bif c then sG s else oV s)else false):=by
 unfold OJ;try simp only[clR]
 simp only[AcE N s hN hs,yS N s hN hs,AkF N s hN,Aeu N s hN,Aig N s hN,Aes N s,Option.isSome_some,Option.getD_some,DR,Jv];cases k==0<;>cases k==1<;>cases k==3<;>cases c<;>simp [chk]
def Yk (N:Nat) (g:Gn) (c:Bool) (hN:1048578<N) (hg:gQ g):PW N g c=some (N8 g c):=by
 obtain⟨k,s,n⟩:=g;unfold PW;try simp only[clR]
 have hg:s.length<=1048576/\LX n:=hg;have hd:=TS N n hN hg.2;have hk: ∀ k:Int,OJ N k s c=_:=fun k=>Aip N k s c hN hg.1;have h1:=hg.1;unfold N8 Ac9 AcC;by_cases e1:k=1
 .subst e1;simp (disch:=omega) only[JZ,hk,Option.isSome_some,Option.getD_some,SE];cases n.isEmpty<;>cases c<;>cases mbP s<;>cases OB s<;>rfl
 .by_cases e2:k=2
  .subst e2;simp (disch:=omega) only[JZ,hk,Option.isSome_some,Option.getD_some,SE];cases n.isEmpty<;>cases c<;>cases pF s<;>cases rQ s<;>rfl
  .by_cases e4:k=4
   .subst e4;simp (disch:=omega) only[JZ,hd,Option.isSome_some,Option.getD_some,SE];cases s==[]<;>rfl
   .by_cases e7:k=7
    .subst e7;simp (disch:=omega) only[JZ,hk,Option.isSome_some,Option.getD_some,SE];cases n.isEmpty<;>cases c<;>cases sG s<;>cases oV s<;>rfl
    .simp (disch:=omega) only[JZ]
def iP (N:Nat) (g:Gn) (c:Bool) (hN:1048578<N) (hg:gQ g):OY N g c=some (N8 g c):=by
 obtain⟨k,s,n⟩:=g;unfold OY;try simp only[clR]
 have hg:s.length<=1048576/\LX n:=hg;have hd:=VJ N n hN hg.2;unfold N8 Ac9;dsimp only[U4,JX];simp only[AbB N s hN hg.1,uT N s hN hg.1,AiO N s hN,Adk N s hN hg.1,AgK N s hN,Adi N s,Option.isSome_some,Option.getD_some,DR,Jv,hd,Jr,SE];by_cases e1:k=1
 .subst e1;cases n.isEmpty<;>cases c<;>cases mbP s<;>cases OB s<;>rfl
 .by_cases e2:k=2
  .subst e2;cases n.isEmpty<;>cases c<;>cases pF s<;>cases rQ s<;>rfl
  .by_cases e4:k=4
   .subst e4;cases s==[]<;>rfl
   .by_cases e7:k=7
    .subst e7;cases n.isEmpty<;>cases c<;>cases sG s<;>cases oV s<;>rfl
    .simp (disch:=omega) only[JZ]
def len0 {α :Type} (l:List α):(((l.length:Nat):Int)==0)=l.isEmpty:=by
 cases l with
 | nil=>rfl
 | cons a r=>exact Ed (by rw[List.length_cons];omega)
def S9 (n k:Nat):decide ((n:Int)>(k:Int))=decide (k<n):=by congr 1;apply propext;omega
def LZ (l:List Gn):Prop:= ∀ g∈l,gQ g
def QZ (l:List Gn) (c:Bool):Int:=KP (fun g=>N8 g c) l
def lW (N:Nat) (l:List Gn) (hN:1048578<N) (hl:l.length<=1048576) (hs:LZ l):QN N l=some (QZ l false):=by
 unfold QN;try simp -zeta only[Ap]
 refine(WT (mk:=fun i=>(i:Int)) l (0,[],[]) (fun g=>N8 g false) some (some 0) ?_ ?_ N).trans (first_some _)
 .intro i hi k;have h:=Yk N (l.getD i (0,[],[])) false hN (hs _ (getD_mem _ hi));simp (disch:=omega) only[JZ,h,KU]
 .intro k;simp (disch:=omega) only[JZ]
def Yd (N:Nat) (l:List Gn) (hN:1048578<N) (hs:LZ l):Qz N l=some (bif decide (16<l.length)then 2 else QZ l false):=by
 unfold Qz;try simp -zeta only[Ap]
 rw[show decide (((l.length:Nat):Int)>16)=decide (16<l.length)from S9 _ 16];by_cases h16:16<l.length
 .rw[Di h16];rfl
 .rw[Dn h16,cond_false,cond_false];refine(WT (mk:=fun i=>(i:Int)) l (0,[],[]) (fun g=>N8 g false) some (some 0) ?_ ?_ N).trans (first_some _)
  .intro i hi k;have h:=iP N (l.getD i (0,[],[])) false hN (hs _ (getD_mem _ hi));simp (disch:=omega) only[JZ,h,KU]
  .intro k;simp (disch:=omega) only[JZ]
abbrev Pt:Type:=List Gn×Int×Bool×List (List Att)
def Nu (p:Pt):Prop:=LZ p.1/\LX p.2.2.2/\ -9223372036854775808<=p.2.1/\p.2.1<=9223372036854775807
def ptI (p:Pt):Int :=
 bif (p.1.isEmpty&& !p.2.2.1)||(!p.2.2.2.isEmpty&& !p.2.2.1)then 7
 else bif J9 .andNot .i64 p.2.1 510 != 0 then 1
 else bif decide (16<p.1.length)then 2
 else bif QZ p.1 false != 0 then QZ p.1 false
 else bif !p.2.2.1 then 0
 else bif p.2.2.2.isEmpty then 14 else MN p.2.2.2
def lY (N:Nat) (p:Pt) (hN:1048578<N) (hs:Nu p):QO N p=some (ptI p):=by
 obtain⟨g,r,b,n⟩:=p;have hg:LZ g:=hs.1;have hn:LX n:=hs.2.1;unfold QO ptI;try simp only[clR]
 simp only[JX,U5,len0,SE];have e: ∀ x y:Bool,(bif x then(bif x then some (7:Int)else none)else none)=(bif x then some 7 else none):=fun x y=>by cases x<;>rfl
 rw[show decide (((g.length:Nat):Int)>16)=decide (16<g.length)from S9 _ 16];cases g.isEmpty&& !b with
 | true=>rfl
 | false =>
  rw[cond_false,EN];cases (!n.isEmpty&& !b)with
  | true=>rfl
  | false =>
   rw[cond_false,cond_false];cases J9 .andNot .i64 r 510 != 0 with
   | true=>rfl
   | false =>
    rw[cond_false,cond_false];by_cases h16:16<g.length
    .rw[Di h16];rfl
    .rw[Dn h16,cond_false,cond_false,lW N g hN (by omega) hg,Jr,TS N n hN hn,Jr,Oe,Oe,Oe]
def VM (N:Nat) (l:List Pt) (hN:1048578<N) (hs: ∀ p∈l,Nu p):MJ N l=some (bif decide (4<l.length)then 2 else KP ptI l):=by
 unfold MJ;try simp -zeta only[Ap]
 rw[show decide (((l.length:Nat):Int)>4)=decide (4<l.length)from S9 _ 4];by_cases h4:4<l.length
 .rw[Di h4];rfl
 .rw[Dn h4,cond_false,cond_false];refine(WT (mk:=fun i=>(i:Int)) l ([],0,false,[]) ptI some (some 0) ?_ ?_ N).trans (first_some _)
  .intro i hi k;have h:=lY N (l.getD i ([],0,false,[])) hN (hs _ (getD_mem _ hi));simp (disch:=omega) only[JZ,h,KU]
  .intro k;simp (disch:=omega) only[JZ]
def XM (N:Nat) (l:List Pt) (hN:1048578<N) (hs: ∀ p∈l,Nu p):Oz N l=some (bif decide (4<l.length)then 2 else KP ptI l):=by
 unfold Oz;try simp only[clR]
 rw[show decide (((l.length:Nat):Int)>4)=decide (4<l.length)from S9 _ 4];by_cases h4:4<l.length
 .rw[Di h4];rfl
 .rw[Dn h4,cond_false,cond_false];refine(WT (mk:=fun i=>(i:Int)) l ([],0,false,[]) ptI some (some 0) ?_ ?_ N).trans (first_some _)
  .intro i hi k;have hm:=hs _ (getD_mem ([],0,false,[]) hi);have h1:=fun(h:LZ (l.getD i ([],0,false,[])).1)=>Yd N _ hN h;have h1:=h1 hm.1;have h2:=VJ N _ hN hm.2.1;simp (disch:=omega) only[JZ,h1,h2,KU,len0,SE];generalize l.getD i ([],0,false,[])=p;unfold ptI;cases p.1.isEmpty<;>cases p.2.2.1<;>cases p.2.2.2.isEmpty<;>cases J9 .andNot .i64 p.2.1 510 != 0<;>cases decide (16<p.1.length)<;>cases h5:QZ p.1 false != 0<;>simp [h5,chk]
  .intro k;simp (disch:=omega) only[JZ]
end Go.Proofs.YtehkhflpjkokeaaGreatDoor.Pl
namespace Go.Proofs.YtehkhflpjkokeaaGreatDoor.Sp
def beNat (l:List UInt8):Nat:=l.foldl (fun v b=>v*256+b.toNat) 0
def leastOf (k:Nat):Nat:=if k=1 then 128 else 2 ^ (8*(k - 1))
def Ao1 (l:List UInt8) (b:UInt8):beNat (l++[b])=beNat l*256+b.toNat:=by simp [beNat,Ik]
def AsZ (l:List UInt8):beNat l<256 ^ l.length:=by
 have h: ∀(l:List UInt8) (v h:Nat),v<h->l.foldl (fun v b=>v*256+b.toNat) v<h*256 ^ l.length:=by
  intro l
  induction l with
  | nil=>intro v h hv;simpa using hv
  | cons b r ih =>intro v h hv;have hb:=b.toNat_lt;have:=ih (v*256+b.toNat) (h*256) (by omega);rw[List.foldl_cons,List.length_cons,Nat.pow_succ];rw[Ic (256 ^ r.length) 256,<- Nat.mul_assoc];exact this
 have:=h l 0 1 (by omega);simpa [beNat]using this
def head (l:List UInt8):Int×Nat×Nat :=
 match l with
 | []=>(3,0,0)
 | t::r =>
  if t.toNat % 32=31 then(5,0,0)else
  match r with
  | []=>(3,0,0)
  | n::r =>
   if n.toNat<128 then(0,2,n.toNat)else
   if n.toNat=128\/131<n.toNat then(6,0,0)else
   if r.length<n.toNat - 128 then(3,0,0)else
   if beNat (r.take (n.toNat - 128))<leastOf (n.toNat - 128)\/131072<beNat (r.take (n.toNat - 128))then(6,0,0)else
   (0,2+(n.toNat - 128),beNat (r.take (n.toNat - 128)))
def rd (l:List UInt8):Int×Nat×Nat:=if(head l).1=0/\l.length - (head l).2.1<(head l).2.2 then(3,0,0)else head l
def err (l:List UInt8):Int:=(rd l).1
def tag (l:List UInt8):Nat:=(l.headD 0).toNat
def content (l:List UInt8):List UInt8:=(l.drop (rd l).2.1).take (rd l).2.2
def raw (l:List UInt8):List UInt8:=l.take ((rd l).2.1+(rd l).2.2)
def rest (l:List UInt8):List UInt8:=l.drop ((rd l).2.1+(rd l).2.2)
def Av6 (l:List UInt8) (h:(head l).1=0):2<=(head l).2.1/\(head l).2.1<=l.length/\(head l).2.1<=5/\(head l).2.2<=131072:=by
 unfold head at *
 split at h
 .simp at h
 .split at h
  .simp at h
  .split at h
   .simp at h
   .split at h
    .simp only[*,Ji,GU,List.length_cons];omega
    .split at h
     .simp at h
     .split at h
      .simp at h
      .split at h
       .simp at h
       .simp only[*,GU,List.length_cons];omega
def AeY (l:List UInt8) (h:err l=0):2<=(rd l).2.1/\(rd l).2.1+(rd l).2.2<=l.length/\(rd l).2.1<=5/\(rd l).2.2<=131072:=by
 unfold err rd at *
 by_cases hc:(head l).1=0/\l.length - (head l).2.1<(head l).2.2
 .rw[Dp hc]at h;simp at h
 .rw[Dk hc]at h ⊢;have:=Av6 l h;omega
theorem Aof (l:List UInt8) (h:err l=0):(rest l).length<l.length:=by have:=AeY l h;unfold rest;rw[EJ];omega
theorem Tj (l:List UInt8) (h:err l=0):(content l).length<l.length:=by have:=AeY l h;unfold content;rw[DZ,EJ];omega
def AfE (l:List UInt8) (h:err l=0):(content l).length=(rd l).2.2:=by have:=AeY l h;unfold content;rw[DZ,EJ];omega
def ApU (l:List UInt8) (h:err l=0):(raw l).length=(rd l).2.1+(rd l).2.2:=by have:=AeY l h;unfold raw;rw[DZ];omega
def Qq (l:List UInt8):Int:=if err l≠0 then err l else if rest l=[]then 0 else 4
def cons (t:Nat):Bool:=decide (t / 32 % 2=1)
def within:Nat->Nat->List UInt8->Int
 | 0,_,_=>0
 | f+1,d,l =>
  if l=[]then 0 else
  if err l≠0 then err l else
  if 16<=d then 8 else
  if(if cons (tag l)then within f (d+1) (content l)else 0)≠0 then(if cons (tag l)then within f (d+1) (content l)else 0)
  else within f d (rest l)
def inner (f d:Nat) (t:Nat) (c:List UInt8):Int:=if cons t then within f d c else 0
def Aq1 (f d:Nat):within f d []=0:=by cases f<;>simp [within]
theorem Aq0 (f d:Nat) (l:List UInt8) (h:l≠ []) (he:err l≠0):within (f+1) d l=err l:=by rw[within,Dk h,Dp he]
def AnD (f d:Nat) (l:List UInt8) (h:l≠ []) (he:err l=0) (hd:16<=d):within (f+1) d l=8:=by rw[within,Dk h,Dk (by simp [he]),Dp hd]
def Aqy (f d:Nat) (l:List UInt8) (h:l≠ []) (he:err l=0) (hd: ¬ 16<=d) (hi:inner f (d+1) (tag l) (content l)≠0):within (f+1) d l=inner f (d+1) (tag l) (content l):=by rw[within,Dk h,Dk (by simp [he]),Dk hd];unfold inner at hi ⊢;rw[Dp hi]
def Aco (f d:Nat) (l:List UInt8) (h:l≠ []) (he:err l=0) (hd: ¬ 16<=d) (hi:inner f (d+1) (tag l) (content l)=0):within (f+1) d l=within f d (rest l):=by rw[within,Dk h,Dk (by simp [he]),Dk hd];unfold inner at hi;rw[Dk (by simp [hi])]
def chk (l:List UInt8):Int:=if Qq l≠0 then Qq l else inner (l.length+1) 1 (tag l) (content l)
def OM (n:Nat):List UInt8 :=
 if n<128 then [UInt8.ofNat n]else if n<256 then [129,UInt8.ofNat n]else if n<65536 then [130,UInt8.ofNat (n / 256),UInt8.ofNat n]
 else [131,UInt8.ofNat (n / 65536),UInt8.ofNat (n / 256),UInt8.ofNat n]
def elem (t:Nat) (c:List UInt8):List UInt8:=UInt8.ofNat t::OM c.length++c
def wrap (t:Int) (c:List UInt8):List UInt8×Int :=
 if t<0\/255<t\/t % 32=31 then([],5)else if 131072<c.length then([],6)else(elem t.toNat c,0)
def Ae7 (n:Nat):(OM n).length<=4:=by unfold OM;split<;>(try split)<;>(try split)<;>simp
theorem JO (t:Nat) (c:List UInt8):(elem t c).length<=c.length+5:=by have:=Ae7 c.length;unfold elem;simp;omega
end Go.Proofs.YtehkhflpjkokeaaGreatDoor.Sp
