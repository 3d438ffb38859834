import Derived.Test.YtdihmdelaolelaaGreatDoorA22
set_option linter.all false
namespace Go.Proofs.YtdihmdelaolelaaGreatDoor.Pl
open IntKind (i64 u8 u32 u64)
open Go Vm
def AlM {c:UInt8} {s:Bs} (h:c∉s):Lib.cut s [c]=(s,[],false):=by unfold Lib.cut;rw[index_none c s h];rfl
def AlL {c:UInt8} {a r:Bs} (h:c∉a):Lib.cut (a++c::r) [c]=(a,r,true):=by
 unfold Lib.cut;rw[Aes c a r h,A0z];have e1:((a.length:Int)).toNat=a.length:=by omega
 rw[e1,H9,<- FD,Gz];rfl
def OY (s:Bs):Bool:=(Lib.cut s [64]).2.2&&decide (s.length<=128)&&AaR (Lib.cut s [64]).1&&QU (Lib.cut s [64]).2.1
def AaH (N:Nat) (s:Bs) (hN:1048578<N) (hs:s.length<=1048576):VK N s=some (OY s):=by
 unfold VK OY strings_Cut;try simp only[clR]
 rw[Dk (show s.length<4294967281 by omega),cond_true,Jt]
 have hl:(Lib.cut s [64]).1.length<=s.length:=by
  rcases bT 64 s with h | ⟨a,r,rfl,ha⟩
  .rw[AlM h];exact DK _
  .rw[AlL ha];simp
 rw[AjT N _ hN (by omega),Xe N _];rw[show decide (((s.length:Nat):Int)<=128)=decide (s.length<=128) by congr 1;apply propext;omega];rfl
def AsP (r:Bs): ∀ a:Bs,(List.range a.length).any (fun i=> !Tj ((a++64::r).getD i 0)||((a++64::r).getD i 0==46&&(a++64::r).getD (i+1) 0==46))=(!(a.all Tj)||dots a):=by
 intro a
 induction a with
 | nil=>rfl
 | cons x t ih =>
  rw[List.length_cons,Hl,List.any_cons,List.any_map,List.all_cons];have e:(List.range t.length).any ((fun i=> !Tj ((x::t++64::r).getD i 0)||((x::t++64::r).getD i 0==46&&(x::t++64::r).getD (i+1) 0==46))∘Nat.succ)=(List.range t.length).any (fun i=> !Tj ((t++64::r).getD i 0)||((t++64::r).getD i 0==46&&(t++64::r).getD (i+1) 0==46)):=rfl;rw[e,ih];show((!Tj x||(x==46&&(t++64::r).getD 0 0==46))||_)=_;cases t with
  | nil =>show((!Tj x||(x==46&&(64:UInt8)==46))||(!true||false))=(!(Tj x&&true)||false);cases Tj x<;>cases x==46<;>rfl
  | cons y t =>show((!Tj x||(x==46&&y==46))||(!((y::t).all Tj)||dots (y::t)))=(!(Tj x&&(y::t).all Tj)||((x==46&&y==46)||dots (y::t)));cases Tj x<;>cases (y::t).all Tj<;>cases x==46&&y==46<;>cases dots (y::t)<;>rfl
def vF (n i:Nat) (h:i<n):(List.range n).getD i 0=i:=by rw[getD_lt _ _ _ (by rw[DI];exact h),IZ]
def Ax9 {a r:Bs} (ha:64∉a):OY (a++64::r)=(decide ((a++64::r).length<=128)&&AaR a&&QU r):=by unfold OY;rw[AlL ha,EH]
def Aip (N:Nat) (s:Bs) (hN:1048578<N) (hs:s.length<=1048576):aT N s=some (bif OY s then((Lib.cut s [64]).1,(Lib.cut s [64]).2.1,true)else([],[],false)):=by
 unfold aT;try simp only[clR]
 by_cases h0:128<s.length
 .rw[Af1 (by omega),cond_true];unfold OY;rw[Ags h0];simp
 rw[Alc (by omega),cond_false];refine(AnJ (mk:=fun i=>(i:Int)) (out:=fun i=>(i:Int)) s 0 (fun c=>c==64) ?_ ?_ N (by omega)).trans ?_
 .intro i k hi;simp (disch:=omega) only[JF,Azn,JX];cases s.getD i 0==64<;>rfl
 .intro k;simp (disch:=omega) only[JF]
 .rcases bT 64 s with h | ⟨a,r,rfl,ha⟩
  .rw[Amo _ _ (fun x hx=>Eg (b:=(64:UInt8)) (show x≠64 from fun hx2=>h (by rw[<- hx2];exact hx)))];unfold OY;rw[AlM h];simp (disch:=omega) only[JF]
  .rw[Ari _ a 64 r (fun x hx=>Eg (b:=(64:UInt8)) (show x≠64 from fun hx2=>ha (by rw[<- hx2];exact hx))) rfl,Ax9 ha,AlL ha];have hlen:(a++64::r).length=a.length+r.length+1:=by simp;omega
   rw[Ov,EH];unfold AaR;by_cases h1:a.length<1
   .simp (disch:=omega) only[JF]
   by_cases h2:64<a.length
   .simp (disch:=omega) only[JF]
   have hcut:J6 (a++64::r) (a.length+1) (a++64::r).length=r:=by unfold J6;rw[EP,<- FD,Gz];rfl
   have hcut0:J6 (a++64::r) 0 a.length=a:=by unfold J6;rw[Gy,H9]
   have hg: ∀ i,i<a.length->(a++64::r).getD i 0=a.getD i 0:=fun i hi=>by rw[Dn,E5 hi,<- Dn]
   have hg0:=hg 0 (by omega);have hg1:=hg (a.length - 1) (by omega);rw[w64,w64];rw[JX,Int.toNat_natCast,AgR,hcut,hg0,hg1,TV N r hN,beq46,beq46];rw[Vs (show(1:Int)<=a.length by omega),Alc (show(a.length:Int)<=64 by omega),QO (show(a.length:Int)≠((a++64::r).length:Nat) by omega),Sr (show(0:Int)<=((a.length+1:Nat):Int) by omega),Sr (show((a.length+1:Nat):Int)<=((a++64::r).length:Nat) by omega),Vt (show(0:Int)<((a++64::r).length:Nat) by omega),Sr (show(0:Int)<=(a.length:Int) - 1 by omega),Vt (show(a.length:Int) - 1<((a++64::r).length:Nat) by omega),Ali (show 1<=a.length by omega),Ali (show a.length<=64 by omega)];simp only[Ea,Jz,EK,Option.getD_some,Option.isSome_some];cases QU r<;>cases a.getD 0 0==46<;>cases a.getD (a.length - 1) 0==46<;>first | (simp;done) | skip
   simp only[EI,EK,Eu,cond_false,EH,Gu];refine Ew (QF (S:=Unit) (R:=Bs×Bs×Bool) (mk:=fun i _=>(i:Int)) (List.range a.length) 0 (fun i _=>bif (!Tj ((a++64::r).getD i 0)||((a++64::r).getD i 0==46&&(a++64::r).getD (i+1) 0==46))then .inl ([],[],false)else .inr ()) some (fun _=>some (a,r,true)) ?_ ?_ N () (by rw[DI];omega)) ?_
   .intro i _ hi k;rw[DI]at hi;rw[vF _ _ hi];have hAm:=Alp N xC ((a++64::r).getD i 0) (by show 20<N;omega) (by decide);rw[show xC=([33,35,36,37,38,39,42,43,45,47,61,63,94,95,96,123,124,125,126,46]:Bs)from rfl]at hAm;simp (disch:=omega) only[JF,tX,JX,hAm,beq46,Option.isSome_some,Option.getD_some];unfold Tj;rw[show xC=([33,35,36,37,38,39,42,43,45,47,61,63,94,95,96,123,124,125,126,46]:Bs)from rfl];generalize List.any _ _=u;generalize ((a++64::r).getD (i+1) 0==46)=v;cases UH ((a++64::r).getD i 0)<;>cases u<;>cases (a++64::r).getD i 0==46<;>cases v<;>rfl
   .intro _ k;rw[DI];simp (disch:=omega) only[JF,hcut,hcut0,JX]
   .rw[AiX,AsP];cases a.all Tj<;>cases dots a<;>rfl
def yI (N:Nat) (s:Bs) (hN:1048578<N) (hs:s.length<=1048576):WG N s=some (OY s):=by unfold WG;rw[Aip N s hN hs,Jt];cases OY s<;>rfl
def mbP (s:Bs):Bool:=decide (s.length<=128)&&(OY s||QU (Lib.trimPrefix s [46]))
def Atp (n:Nat):decide ((n:Int)<=128)=decide (n<=128):=by congr 1;apply propext;omega
def Aeq (N:Nat) (s:Bs) (hN:1048578<N) (hs:s.length<=1048576):UN N s=some (mbP s):=by
 unfold UN mbP strings_TrimPrefix;try simp only[clR]
 rw[AaH N s hN hs];simp only[Option.isSome_some,Option.getD_some,Ea,Jz];rw[Xe N _,Atp];simp only[Option.isSome_some,Option.getD_some,Ea,Jz];cases OY s<;>cases decide (s.length<=128)<;>rfl
def Agn {s:Bs} (h:128<s.length):OY s=false:=by unfold OY;rw[Ags h];simp
def AiJ {s:Bs} (h:128<s.length):QU s=false:=by unfold QU;rw[Alj h];rfl
def Adf (N:Nat) (s:Bs) (hN:1048578<N) (hs:s.length<=1048576):TW N s=some (mbP s):=by
 unfold TW mbP;try simp only[clR]
 rw[yI N s hN hs,Jt,TV N s hN,TV N _ hN,Atp];simp only[Option.isSome_some,Option.getD_some,Ea,Jz];by_cases h0:s.length<=128
 .rw[Ov h0];cases s with
  | nil=>rw[Ah3];cases OY []<;>rfl
  | cons x r =>
   have hcut:J6 (x::r) 1 (x::r).length=r:=by unfold J6;rw[EP];rfl
   rw[hcut,show(x::r:Bs).getD 0 0=x from rfl,beq46];rw[Vt (show(0:Int)<((x::r:Bs).length:Nat) by rw[List.length_cons];omega),Sr (show(1:Int)<=((x::r:Bs).length:Nat) by rw[List.length_cons];omega)];by_cases hx:x=46
   .subst hx;rw[Axt,show Lib.trimPrefix (46::r) [46]=r by simp [Lib.trimPrefix,Lib.hasPrefix,List.isPrefixOf]];cases r with
    | nil=>rw[Ah3];cases OY [46]<;>rfl
    | cons y r =>rw[Af1 (show((46::y::r:Bs).length:Int)>1 by simp;omega)];cases OY (46::y::r)<;>cases QU (y::r)<;>rfl
   .rw[Eg hx,show Lib.trimPrefix (x::r) [46]=x::r by
     have: ¬(46:UInt8)=x:=fun h=>hx h.symm;simp [Lib.trimPrefix,Lib.hasPrefix,List.isPrefixOf,this]]
    cases OY (x::r)<;>cases QU (x::r)<;>cases decide (((x::r:Bs).length:Int)>1)<;>rfl
 .rw[Ags (by omega),Agn (by omega),AiJ (by omega)];simp (disch:=omega) only[JF]
def tY (s:Bs):Bool:=decide (s.length=4)||decide (s.length=16)
def AaJ (a b:Nat):(((a:Nat):Int)==((b:Nat):Int))=decide (a=b):=by
 by_cases h:a=b
 .rw[h,Dk rfl];exact EO _
 .rw[Dq h];exact Eg (by omega)
def AfO (N:Nat) (s:Bs):VJ N s=some (tY s):=by
 unfold VJ tY;try simp only[clR]
 rw[show(((s.length:Nat):Int)==4)=decide (s.length=4)from AaJ _ 4,show(((s.length:Nat):Int)==16)=decide (s.length=16)from AaJ _ 16]
def AeL (N:Nat) (s:Bs):UT N s=some (tY s):=by
 unfold UT tY;try simp only[clR]
 rw[show(((s.length:Nat):Int)==4)=decide (s.length=4)from AaJ _ 4,show(((s.length:Nat):Int)==16)=decide (s.length=16)from AaJ _ 16]
def uD (c:UInt8) (k:Nat):Bool:=c.toNat / 2 ^ k % 2==1
def Avk (c:UInt8) (k:Nat) (hk:k<8):(JE .and .u8 (((c.toNat:Nat):Int).fdiv (2 ^ min k 8)) 1==1)=uD c k:=by
 have: ∀ k:Fin 8,∀ n:Fin 256,(JE .and .u8 ((((UInt8.ofNat n.val).toNat:Nat):Int).fdiv (2 ^ min k.val 8)) 1==1)=uD (UInt8.ofNat n.val) k.val:=by decide +kernel
 exact tN (P:=fun c=>(JE .and .u8 (((c.toNat:Nat):Int).fdiv (2 ^ min k 8)) 1==1)=uD c k) (this ⟨k,hk⟩) c
def Axn (c:UInt8) (k:Nat) (hk:k<8):((((c.toNat:Nat):Int).fdiv (2 ^ min k 8)).tmod 2==1)=uD c k:=by
 have: ∀ k:Fin 8,∀ n:Fin 256,(((((UInt8.ofNat n.val).toNat:Nat):Int).fdiv (2 ^ min k.val 8)).tmod 2==1)=uD (UInt8.ofNat n.val) k.val:=by decide +kernel
 exact tN (P:=fun c=>((((c.toNat:Nat):Int).fdiv (2 ^ min k 8)).tmod 2==1)=uD c k) (this ⟨k,hk⟩) c
def Axc (i:Nat):((i:Int)).tdiv 8=((i / 8:Nat):Int):=rfl
def Axd (i:Nat):((i:Int)).tmod 8=((i % 8:Nat):Int):=rfl
def As0 (i:Nat):((i:Int)).tdiv 2=((i / 2:Nat):Int):=rfl
def AgQ (i:Nat):((7:Int) - (i:Int)).toNat=7 - i:=by omega
def WT (s:Bs) (i:Nat):Bool:=uD (s.getD (i / 8) 0) (7 - i % 8)
def Ad3 (N:Nat) (s:Bs) (i:Nat) (h:i<8*s.length:=by omega) (hs:s.length<=1048576:=by omega):Z9 N s (i:Int)=some (WT s i):=by
 unfold Z9 WT;try simp -zeta only[Ap]
 have:i / 8<s.length:=by omega
 have:i % 8<8:=by omega
 simp (disch:=omega) only[JF,Axc,Axd,wu64,AgQ];rw[Avk _ _ (by omega)]
def rngS (s:Bs) (i:Nat) (z:Bool):Bool ⊕ Bool:=bif (WT (s.drop (s.length / 2)) i&&z)||(!WT (s.drop (s.length / 2)) i&&WT s i)then .inl false else .inr (z|| !WT (s.drop (s.length / 2)) i)
def xA (s:Bs):Bool:=bif decide (s.length=8)||decide (s.length=32)then(OX (rngS s) (List.range (8*(s.length / 2))) false).elim id (fun _=>true)else false
def AjO (N:Nat) (s:Bs) (hN:1048578<N):YA N s=some (xA s):=by
 unfold YA;try simp only[clR]
 unfold xA;rw[show(((s.length:Nat):Int) != 8)= !decide (s.length=8)from congrArg _ (AaJ _ 8),show(((s.length:Nat):Int) != 32)= !decide (s.length=32)from congrArg _ (AaJ _ 32)];by_cases h0:s.length=8\/s.length=32
 .have hb:(decide (s.length=8)||decide (s.length=32))=true:=by simpa using h0
  rw[hb,cond_true,show(!decide (s.length=8)&& !decide (s.length=32))=false by rw[<- Iz,hb];rfl,cond_false];have hd:s.length / 2<=s.length:=by omega
  have hh:aH N s=some (s.take (s.length / 2),s.drop (s.length / 2)):=by
   unfold aH;try simp -zeta only[Ap]
   simp (disch:=omega) only[JF,As0,wu64];unfold J6;rw[EP];rfl
  rw[hh,Jt];have hl:(s.drop (s.length / 2)).length=s.length / 2:=by rw[Es];omega
  have hl1:(s.take (s.length / 2)).length=s.length / 2:=by rw[DD];omega
  refine Ew (QF (S:=Bool) (R:=Bool) (mk:=fun i z=>(z,(i:Int))) (List.range (8*(s.length / 2))) 0 (rngS s) some (fun _=>some true) ?_ ?_ N false (by rw[DI];omega)) ?_
  .intro i z hi k;rw[DI]at hi;rw[vF _ _ hi];have hb1:=Ad3 N (s.drop (s.length / 2)) i;have hb2:=Ad3 N (s.take (s.length / 2)) i;have hb3:WT (s.take (s.length / 2)) i=WT s i:=by unfold WT;congr 1;rw[Dn,FW,A0z,<- Dn]
   rw[hb3]at hb2;unfold rngS;simp (disch:=omega) only[JF,hl,hb1,hb2,Option.isSome_some,Option.getD_some,JX];cases WT (s.drop (s.length / 2)) i<;>cases WT s i<;>cases z<;>rfl
  .intro z k;rw[DI];simp (disch:=omega) only[JF,hl]
  .exact Afx _ id (fun _=>true)
 .have hb:(decide (s.length=8)||decide (s.length=32))=false:=by simpa using h0
  rw[hb,show(!decide (s.length=8)&& !decide (s.length=32))=true by rw[<- Iz,hb];rfl];rfl
def Ail (N:Nat) (s:Bs) (hN:1048578<N):Xk N s=some (xA s):=by
 unfold Xk;try simp only[clR]
 unfold xA;rw[show(((s.length:Nat):Int) != 8)= !decide (s.length=8)from congrArg _ (AaJ _ 8),show(((s.length:Nat):Int) != 32)= !decide (s.length=32)from congrArg _ (AaJ _ 32)];by_cases h0:s.length=8\/s.length=32
 .have hb:(decide (s.length=8)||decide (s.length=32))=true:=by simpa using h0
  rw[hb,cond_true,show(!decide (s.length=8)&& !decide (s.length=32))=false by rw[<- Iz,hb];rfl,cond_false];refine Ew (QF (S:=Bool) (R:=Bool) (mk:=fun i z=>(z,(i:Int))) (List.range (8*(s.length / 2))) 0 (rngS s) some (fun _=>some true) ?_ ?_ N false (by rw[DI];omega)) ?_
  .intro i z hi k;rw[DI]at hi;rw[vF _ _ hi];have hbd:uD (s.getD (s.length / 2+i / 8) 0) (7 - i % 8)=WT (s.drop (s.length / 2)) i:=by unfold WT;congr 1;rw[Dn,Dn,FK]
   unfold rngS;have:i % 8<8:=by omega
   simp (disch:=omega) only[JF,As0,Axc,Axd,AgQ,Axn,hbd,JX];rw[show uD (s.getD (i / 8) 0) (7 - i % 8)=WT s i from rfl];cases WT (s.drop (s.length / 2)) i<;>cases WT s i<;>cases z<;>rfl
  .intro z k;rw[DI];simp (disch:=omega) only[JF,As0]
  .exact Afx _ id (fun _=>true)
 .have hb:(decide (s.length=8)||decide (s.length=32))=false:=by simpa using h0
  rw[hb,show(!decide (s.length=8)&& !decide (s.length=32))=true by rw[<- Iz,hb];rfl];rfl
def ArH (n:List (List Att)): ∃ v,YJ n=some v:=by
 unfold YJ;by_cases h:8<n.length
 .rw[Du h];exact⟨_,rfl⟩
 .rw[Dp h]
  have: ∀(l:List (List Att)) (s:Unit),∃ v,Qz YM (fun _=>some 0) l s=some v:=by
   intro l
   induction l with
   | nil=>intro s;exact⟨0,rfl⟩
   | cons e r ih =>
    intro s;unfold Qz YM;by_cases h:VT e=0
    .rw[Du h];exact ih _
    .rw[Dp h];exact⟨_,rfl⟩
  exact this n ()
def Nk (n:List (List Att)):Int:=(YJ n).getD 0
def ApU (n:List (List Att)):YJ n=some (Nk n):=by obtain⟨v,h⟩:=ArH n;unfold Nk;rw[h];rfl
def UJ (N:Nat) (n:List (List Att)) (hN:1048578<N) (hn:LM n):NW N n=some (Nk n):=(Ahw N n hN hn).trans (ApU n)
def WX (N:Nat) (n:List (List Att)) (hN:1048578<N) (hn:LM n):MH N n=some (Nk n):=(Alr N n hN hn).trans (ApU n)
abbrev Gn:Type:=Int×Bs×List (List Att)
def kZ (g:Gn):Prop:=g.2.1.length<=1048576/\LM g.2.2
def Ael (k:Int) (s:Bs) (c:Bool):Bool:=bif k==1 then(bif c then mbP s else OY s)else bif k==2 then(bif c then uB s else wL s)else bif k==7 then(bif c then xA s else tY s)else false
def LU (g:Gn) (c:Bool):Int:=bif g.1==4 then(bif g.2.1==[]then Nk g.2.2 else 14)else bif Ael g.1 g.2.1 c&&g.2.2.isEmpty then 0 else 14
def YE {α :Type} (l:List α):decide (((l.length:Nat):Int)>0)= !l.isEmpty:=by
 cases l with
 | nil=>rfl
 | cons a r=>rw[Dk (by rw[List.length_cons];omega)];rfl
def AjW (N:Nat) (k:Int) (s:Bs) (c:Bool) (hN:1048578<N) (hs:s.length<=1048576):Pz N k s c=some (bif k==0 then(bif c then mbP s else OY s)else bif k==1 then(bif c then uB s else wL s)else bif k==3 then(bif c then xA s else tY s)else false):=by
 unfold Pz;try simp only[clR]
 simp only[Aeq N s hN hs,AaH N s hN hs,Am2 N s hN,AfQ N s hN,AjO N s hN,AfO N s,Option.isSome_some,Option.getD_some,Ea,Jz];cases k==0<;>cases k==1<;>cases k==3<;>cases c<;>simp [chk]
def Z7 (N:Nat) (g:Gn) (c:Bool) (hN:1048578<N) (hg:kZ g):UY N g c=some (LU g c):=by
 obtain⟨k,s,n⟩:=g;unfold UY;try simp only[clR]
 have hg:s.length<=1048576/\LM n:=hg;have hd:=UJ N n hN hg.2;have hk: ∀ k:Int,Pz N k s c=_:=fun k=>AjW N k s c hN hg.1;have h1:=hg.1;unfold LU Ael Aen;by_cases e1:k=1
 .subst e1;simp (disch:=omega) only[JF,hk,Option.isSome_some,Option.getD_some,YE];cases n.isEmpty<;>cases c<;>cases mbP s<;>cases OY s<;>rfl
 .by_cases e2:k=2
  .subst e2;simp (disch:=omega) only[JF,hk,Option.isSome_some,Option.getD_some,YE];cases n.isEmpty<;>cases c<;>cases uB s<;>cases wL s<;>rfl
  .by_cases e4:k=4
   .subst e4;simp (disch:=omega) only[JF,hd,Option.isSome_some,Option.getD_some,YE];cases s==[]<;>rfl
   .by_cases e7:k=7
    .subst e7;simp (disch:=omega) only[JF,hk,Option.isSome_some,Option.getD_some,YE];cases n.isEmpty<;>cases c<;>cases xA s<;>cases tY s<;>rfl
    .simp (disch:=omega) only[JF]
def Yk (N:Nat) (g:Gn) (c:Bool) (hN:1048578<N) (hg:kZ g):Oq N g c=some (LU g c):=by
 obtain⟨k,s,n⟩:=g;unfold Oq;try simp only[clR]
 have hg:s.length<=1048576/\LM n:=hg;have hd:=WX N n hN hg.2;unfold LU Ael;dsimp only[U4,KX];simp only[Adf N s hN hg.1,yI N s hN hg.1,Ak7 N s hN,AeN N s hN hg.1,Ail N s hN,AeL N s,Option.isSome_some,Option.getD_some,Ea,Jz,hd,Jt,YE];by_cases e1:k=1
 .subst e1;cases n.isEmpty<;>cases c<;>cases mbP s<;>cases OY s<;>rfl
 .by_cases e2:k=2
  .subst e2;cases n.isEmpty<;>cases c<;>cases uB s<;>cases wL s<;>rfl
  .by_cases e4:k=4
   .subst e4;cases s==[]<;>rfl
   .by_cases e7:k=7
    .subst e7;cases n.isEmpty<;>cases c<;>cases xA s<;>cases tY s<;>rfl
    .simp (disch:=omega) only[JF]
def len0 {α :Type} (l:List α):(((l.length:Nat):Int)==0)=l.isEmpty:=by
 cases l with
 | nil=>rfl
 | cons a r=>exact Eg (by rw[List.length_cons];omega)
def MX (n k:Nat):decide ((n:Int)>(k:Int))=decide (k<n):=by congr 1;apply propext;omega
def Lh (l:List Gn):Prop:= ∀ g∈l,kZ g
def Ph (l:List Gn) (c:Bool):Int:=Ky (fun g=>LU g c) l
def XN (N:Nat) (l:List Gn) (hN:1048578<N) (hl:l.length<=1048576) (hs:Lh l):PQ N l=some (Ph l false):=by
 unfold PQ;try simp -zeta only[Ap]
 refine(Ud (mk:=fun i=>(i:Int)) l (0,[],[]) (fun g=>LU g false) some (some 0) ?_ ?_ N).trans (first_some _)
 .intro i hi k;have h:=Z7 N (l.getD i (0,[],[])) false hN (hs _ (getD_mem _ hi));simp (disch:=omega) only[JF,h,JX]
 .intro k;simp (disch:=omega) only[JF]
def Zj (N:Nat) (l:List Gn) (hN:1048578<N) (hs:Lh l):Rq N l=some (bif decide (16<l.length)then 2 else Ph l false):=by
 unfold Rq;try simp -zeta only[Ap]
 rw[show decide (((l.length:Nat):Int)>16)=decide (16<l.length)from MX _ 16];by_cases h16:16<l.length
 .rw[Dk h16];rfl
 .rw[Dq h16,cond_false,cond_false];refine(Ud (mk:=fun i=>(i:Int)) l (0,[],[]) (fun g=>LU g false) some (some 0) ?_ ?_ N).trans (first_some _)
  .intro i hi k;have h:=Yk N (l.getD i (0,[],[])) false hN (hs _ (getD_mem _ hi));simp (disch:=omega) only[JF,h,JX]
  .intro k;simp (disch:=omega) only[JF]
abbrev Pt:Type:=List Gn×Int×Bool×List (List Att)
def Qp (p:Pt):Prop:=Lh p.1/\LM p.2.2.2/\ -9223372036854775808<=p.2.1/\p.2.1<=9223372036854775807
def ptI (p:Pt):Int :=
 bif (p.1.isEmpty&& !p.2.2.1)||(!p.2.2.2.isEmpty&& !p.2.2.1)then 7
 else bif JE .andNot .i64 p.2.1 510 != 0 then 1
 else bif decide (16<p.1.length)then 2
 else bif Ph p.1 false != 0 then Ph p.1 false
 else bif !p.2.2.1 then 0
 else bif p.2.2.2.isEmpty then 14 else Nk p.2.2.2
def qG (N:Nat) (p:Pt) (hN:1048578<N) (hs:Qp p):RZ N p=some (ptI p):=by
 obtain⟨g,r,b,n⟩:=p;have hg:Lh g:=hs.1;have hn:LM n:=hs.2.1;unfold RZ ptI;try simp only[clR]
 simp only[KX,U5,len0,YE];have e: ∀ x y:Bool,(bif x then(bif x then some (7:Int)else none)else none)=(bif x then some 7 else none):=fun x y=>by cases x<;>rfl
 rw[show decide (((g.length:Nat):Int)>16)=decide (16<g.length)from MX _ 16];cases g.isEmpty&& !b with
 | true=>rfl
 | false =>
  rw[cond_false,EK];cases (!n.isEmpty&& !b)with
  | true=>rfl
  | false =>
   rw[cond_false,cond_false];cases JE .andNot .i64 r 510 != 0 with
   | true=>rfl
   | false =>
    rw[cond_false,cond_false];by_cases h16:16<g.length
    .rw[Dk h16];rfl
    .rw[Dq h16,cond_false,cond_false,XN N g hN (by omega) hg,Jt,UJ N n hN hn,Jt,JY,JY,JY]
def SV (N:Nat) (l:List Pt) (hN:1048578<N) (hs: ∀ p∈l,Qp p):LZ N l=some (bif decide (4<l.length)then 2 else Ky ptI l):=by
 unfold LZ;try simp -zeta only[Ap]
 rw[show decide (((l.length:Nat):Int)>4)=decide (4<l.length)from MX _ 4];by_cases h4:4<l.length
 .rw[Dk h4];rfl
 .rw[Dq h4,cond_false,cond_false];refine(Ud (mk:=fun i=>(i:Int)) l ([],0,false,[]) ptI some (some 0) ?_ ?_ N).trans (first_some _)
  .intro i hi k;have h:=qG N (l.getD i ([],0,false,[])) hN (hs _ (getD_mem _ hi));simp (disch:=omega) only[JF,h,JX]
  .intro k;simp (disch:=omega) only[JF]
def UA (N:Nat) (l:List Pt) (hN:1048578<N) (hs: ∀ p∈l,Qp p):MV N l=some (bif decide (4<l.length)then 2 else Ky ptI l):=by
 unfold MV;try simp only[clR]
 rw[show decide (((l.length:Nat):Int)>4)=decide (4<l.length)from MX _ 4];by_cases h4:4<l.length
 .rw[Dk h4];rfl
 .rw[Dq h4,cond_false,cond_false];refine(Ud (mk:=fun i=>(i:Int)) l ([],0,false,[]) ptI some (some 0) ?_ ?_ N).trans (first_some _)
  .intro i hi k;have hm:=hs _ (getD_mem ([],0,false,[]) hi);have h1:=fun(h:Lh (l.getD i ([],0,false,[])).1)=>Zj N _ hN h;have h1:=h1 hm.1;have h2:=WX N _ hN hm.2.1;simp (disch:=omega) only[JF,h1,h2,JX,len0,YE];generalize l.getD i ([],0,false,[])=p;unfold ptI;cases p.1.isEmpty<;>cases p.2.2.1<;>cases p.2.2.2.isEmpty<;>cases JE .andNot .i64 p.2.1 510 != 0<;>cases decide (16<p.1.length)<;>cases h5:Ph p.1 false != 0<;>simp [h5,chk]
  .intro k;simp (disch:=omega) only[JF]
abbrev St2:Type:=List Gn×List Gn
def ZP (s:St2):Int:=bif s.1.isEmpty&&s.2.isEmpty then 7 else bif decide (16<s.1.length)||decide (16<s.2.length)then 2 else Ky (fun g=>LU g true) (s.1++s.2)
def l9 (N:Nat) (s:St2) (hN:1048578<N) (h1:Lh s.1) (h2:Lh s.2):UW N s=some (ZP s):=by
 obtain⟨a,b⟩:=s;unfold UW ZP;try simp only[clR]
 rw[len0,len0,show decide (((a.length:Nat):Int)>16)=decide (16<a.length)from MX _ 16,show decide (((b.length:Nat):Int)>16)=decide (16<b.length)from MX _ 16];cases a.isEmpty&&b.isEmpty with
 | true=>rfl
 | false =>
  rw[cond_false,cond_false];by_cases h:16<a.length\/16<b.length
  .have hb:(decide (16<a.length)||decide (16<b.length))=true:=by simpa using h
   rw[hb];rfl
  .have hb:(decide (16<a.length)||decide (16<b.length))=false:=by simpa using h
   rw[hb,cond_false,cond_false];refine(Ud (mk:=fun i=>((i:Int),[a,b])) [a,b] [] (fun l=>Ky (fun g=>LU g true) l) some (some 0) ?_ ?_ N (by show 2<N;omega)).trans ?_
   .intro i hi k;have hi:i<2:=hi
    have hm:Lh ([a,b].getD i []):=by
     have:i=0\/i=1:=by omega
     rcases this with rfl | rfl
     .exact h1
     .exact h2
    have hml:([a,b].getD i []).length<=16:=by
     have:i=0\/i=1:=by omega
     rcases this with rfl | rfl
     .show a.length<=16;omega
     .show b.length<=16;omega
    have h22: [a,b].length=2:=rfl;simp (disch:=omega) only[JF,h22];refine(Ud (mk:=fun j=>((j:Int),[a,b])) ([a,b].getD i []) (0,[],[]) (fun g=>LU g true) some (k ((i+1:Nat),[a,b])) ?_ ?_ N).trans rfl
    .intro j hj k;have h:=Z7 N (([a,b].getD i []).getD j (0,[],[])) true hN (hm _ (getD_mem _ hj));simp (disch:=omega) only[JF,h,JX]
    .intro k;simp (disch:=omega) only[JF];rfl
   .intro k;rfl
   .rw[first_some,AjL];rw[PK,PK]
    have e: ∀ x:Int,(bif x != 0 then x else Ky (fun l=>Ky (fun g=>LU g true) l) ([]:List (List Gn)))=x:=fun x=>by
     by_cases hx:x=0
     .subst hx;rfl
     .rw[show(x != 0)=true from EE.2 hx];rfl
    rw[e]
def jE (N:Nat) (s:St2) (hN:1048578<N) (h1:Lh s.1) (h2:Lh s.2):Nb N s=some (ZP s):=by
 obtain⟨a,b⟩:=s;unfold Nb ZP;try simp only[clR]
 rw[len0,len0,show decide (((a.length:Nat):Int)>16)=decide (16<a.length)from MX _ 16,show decide (((b.length:Nat):Int)>16)=decide (16<b.length)from MX _ 16];cases a.isEmpty&&b.isEmpty with
 | true=>rfl
 | false =>
  rw[cond_false,cond_false];by_cases h:16<a.length\/16<b.length
  .have hb:(decide (16<a.length)||decide (16<b.length))=true:=by simpa using h
   rw[hb];rfl
  .have hb:(decide (16<a.length)||decide (16<b.length))=false:=by simpa using h
   rw[hb,cond_false,cond_false];rw[Ov,Ov,Jz,Jz]
   have hm:Lh (a++b):=fun g hg=>by
    rcases DR.1 hg with hg | hg
    .exact h1 g hg
    .exact h2 g hg
   have hml:(a++b).length<=32:=by rw[Dv];omega
   generalize a++b=l at hm hml ⊢;refine(Ud (mk:=fun j=>((j:Int),l)) l (0,[],[]) (fun g=>LU g true) some (some 0) ?_ ?_ N).trans (first_some _)
   .intro j hj k;have h:=Yk N (l.getD j (0,[],[])) true hN (hm _ (getD_mem _ hj));simp (disch:=omega) only[JF,h,JX]
   .intro k;simp (disch:=omega) only[JF]
end Go.Proofs.YtdihmdelaolelaaGreatDoor.Pl
namespace Go.Proofs.YtdihmdelaolelaaGreatDoor.Sp
def beNat (l:List UInt8):Nat:=l.foldl (fun v b=>v*256+b.toNat) 0
def leastOf (k:Nat):Nat:=if k=1 then 128 else 2 ^ (8*(k - 1))
def Aq4 (l:List UInt8) (b:UInt8):beNat (l++[b])=beNat l*256+b.toNat:=by simp [beNat,Ib]
def Ave (l:List UInt8):beNat l<256 ^ l.length:=by
 have h: ∀(l:List UInt8) (v h:Nat),v<h->l.foldl (fun v b=>v*256+b.toNat) v<h*256 ^ l.length:=by
  intro l
  induction l with
  | nil=>intro v h hv;simpa using hv
  | cons b r ih =>intro v h hv;have hb:=b.toNat_lt;have:=ih (v*256+b.toNat) (h*256) (by omega);rw[List.foldl_cons,List.length_cons,Nat.pow_succ];rw[Hy (256 ^ r.length) 256,<- Nat.mul_assoc];exact this
 have:=h l 0 1 (by omega);simpa [beNat]using this
def head (l:List UInt8):Int×Nat×Nat :=
 match l with
 | []=>(3,0,0)
 | t::r =>
  if t.toNat % 32=31 then(5,0,0)else
  match r with
  | []=>(3,0,0)
  | n::r =>
   if n.toNat<128 then(0,2,n.toNat)else
   if n.toNat=128\/131<n.toNat then(6,0,0)else
   if r.length<n.toNat - 128 then(3,0,0)else
   if beNat (r.take (n.toNat - 128))<leastOf (n.toNat - 128)\/131072<beNat (r.take (n.toNat - 128))then(6,0,0)else
   (0,2+(n.toNat - 128),beNat (r.take (n.toNat - 128)))
def rd (l:List UInt8):Int×Nat×Nat:=if(head l).1=0/\l.length - (head l).2.1<(head l).2.2 then(3,0,0)else head l
def err (l:List UInt8):Int:=(rd l).1
def tag (l:List UInt8):Nat:=(l.headD 0).toNat
def content (l:List UInt8):List UInt8:=(l.drop (rd l).2.1).take (rd l).2.2
def raw (l:List UInt8):List UInt8:=l.take ((rd l).2.1+(rd l).2.2)
def rest (l:List UInt8):List UInt8:=l.drop ((rd l).2.1+(rd l).2.2)
def Ax1 (l:List UInt8) (h:(head l).1=0):2<=(head l).2.1/\(head l).2.1<=l.length/\(head l).2.1<=5/\(head l).2.2<=131072:=by
 unfold head at *
 split at h
 .simp at h
 .split at h
  .simp at h
  .split at h
   .simp at h
   .split at h
    .simp only[*,Jc,G7,List.length_cons];omega
    .split at h
     .simp at h
     .split at h
      .simp at h
      .split at h
       .simp at h
       .simp only[*,G7,List.length_cons];omega
def AgB (l:List UInt8) (h:err l=0):2<=(rd l).2.1/\(rd l).2.1+(rd l).2.2<=l.length/\(rd l).2.1<=5/\(rd l).2.2<=131072:=by
 unfold err rd at *
 by_cases hc:(head l).1=0/\l.length - (head l).2.1<(head l).2.2
 .rw[Du hc]at h;simp at h
 .rw[Dp hc]at h ⊢;have:=Ax1 l h;omega
theorem Aqc (l:List UInt8) (h:err l=0):(rest l).length<l.length:=by have:=AgB l h;unfold rest;rw[Es];omega
theorem Ui (l:List UInt8) (h:err l=0):(content l).length<l.length:=by have:=AgB l h;unfold content;rw[DD,Es];omega
def Ahn (l:List UInt8) (h:err l=0):(content l).length=(rd l).2.2:=by have:=AgB l h;unfold content;rw[DD,Es];omega
def Asd (l:List UInt8) (h:err l=0):(raw l).length=(rd l).2.1+(rd l).2.2:=by have:=AgB l h;unfold raw;rw[DD];omega
def TS (l:List UInt8):Int:=if err l≠0 then err l else if rest l=[]then 0 else 4
def cons (t:Nat):Bool:=decide (t / 32 % 2=1)
def within:Nat->Nat->List UInt8->Int
 | 0,_,_=>0
 | f+1,d,l =>
  if l=[]then 0 else
  if err l≠0 then err l else
  if 16<=d then 8 else
  if(if cons (tag l)then within f (d+1) (content l)else 0)≠0 then(if cons (tag l)then within f (d+1) (content l)else 0)
  else within f d (rest l)
def inner (f d:Nat) (t:Nat) (c:List UInt8):Int:=if cons t then within f d c else 0
theorem AsC (f d:Nat) (l:List UInt8) (h:l≠ []) (he:err l≠0):within (f+1) d l=err l:=by rw[within,Dp h,Du he]
def Ap4 (f d:Nat) (l:List UInt8) (h:l≠ []) (he:err l=0) (hd:16<=d):within (f+1) d l=8:=by rw[within,Dp h,Dp (by simp [he]),Du hd]
def AsA (f d:Nat) (l:List UInt8) (h:l≠ []) (he:err l=0) (hd: ¬ 16<=d) (hi:inner f (d+1) (tag l) (content l)≠0):within (f+1) d l=inner f (d+1) (tag l) (content l):=by rw[within,Dp h,Dp (by simp [he]),Dp hd];unfold inner at hi ⊢;rw[Du hi]
def Ap5 (f d:Nat) (l:List UInt8) (h:l≠ []) (he:err l=0) (hd: ¬ 16<=d) (hi:inner f (d+1) (tag l) (content l)=0):within (f+1) d l=within f d (rest l):=by rw[within,Dp h,Dp (by simp [he]),Dp hd];unfold inner at hi;rw[Dp (by simp [hi])]
def chk (l:List UInt8):Int:=if TS l≠0 then TS l else inner (l.length+1) 1 (tag l) (content l)
def jZ (n:Nat):List UInt8 :=
 if n<128 then [UInt8.ofNat n]else if n<256 then [129,UInt8.ofNat n]else if n<65536 then [130,UInt8.ofNat (n / 256),UInt8.ofNat n]
 else [131,UInt8.ofNat (n / 65536),UInt8.ofNat (n / 256),UInt8.ofNat n]
def elem (t:Nat) (c:List UInt8):List UInt8:=UInt8.ofNat t::jZ c.length++c
def wrap (t:Int) (c:List UInt8):List UInt8×Int :=
 if t<0\/255<t\/t % 32=31 then([],5)else if 131072<c.length then([],6)else(elem t.toNat c,0)
def Agf (n:Nat):(jZ n).length<=4:=by unfold jZ;split<;>(try split)<;>(try split)<;>simp
theorem JQ (t:Nat) (c:List UInt8):(elem t c).length<=c.length+5:=by have:=Agf c.length;unfold elem;simp;omega
end Go.Proofs.YtdihmdelaolelaaGreatDoor.Sp
