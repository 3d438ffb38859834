import Derived.Test.YtacidcemomccpaaGreatDoorA18
set_option linter.all false
namespace Go.Proofs.YtacidcemomccpaaGreatDoor.Pl
open IntKind (i64 u8 u32 u64)
open Go Vm
def xX (N:Nat) (s:Bs) (hN:1048578<N) (hs:s.length<=1048576):WA N s=some (Pq s):=by unfold WA;rw[AhM N s hN hs,Js];cases Pq s<;>rfl
def mbP (s:Bs):Bool:=decide (s.length<=128)&&(Pq s||QZ (Lib.trimPrefix s [46]))
def Asx (n:Nat):decide ((n:Int)<=128)=decide (n<=128):=by congr 1;apply propext;omega
def AdR (N:Nat) (s:Bs) (hN:1048578<N) (hs:s.length<=1048576):UQ N s=some (mbP s):=by
 unfold UQ mbP strings_TrimPrefix;try simp only[clR]
 rw[Aaz N s hN hs];simp only[Option.isSome_some,Option.getD_some,DZ,Ju];rw[Xc N _,Asx];simp only[Option.isSome_some,Option.getD_some,DZ,Ju];cases Pq s<;>cases decide (s.length<=128)<;>rfl
def AfI {s:Bs} (h:128<s.length):Pq s=false:=by unfold Pq;rw[AfO h];simp
def Aiv {s:Bs} (h:128<s.length):QZ s=false:=by unfold QZ;rw[Ak8 h];rfl
def AcG (N:Nat) (s:Bs) (hN:1048578<N) (hs:s.length<=1048576):Ua N s=some (mbP s):=by
 unfold Ua mbP;try simp only[clR]
 rw[xX N s hN hs,Js,TZ N s hN,TZ N _ hN,Asx];simp only[Option.isSome_some,Option.getD_some,DZ,Ju];by_cases h0:s.length<=128
 .rw[Oz h0];cases s with
  | nil=>rw[AgX];cases Pq []<;>rfl
  | cons x r =>
   have hcut:J4 (x::r) 1 (x::r).length=r:=by unfold J4;rw[E5];rfl
   rw[hcut,show(x::r:Bs).getD 0 0=x from rfl,beq46];rw[Vx (show(0:Int)<((x::r:Bs).length:Nat) by rw[List.length_cons];omega),Sv (show(1:Int)<=((x::r:Bs).length:Nat) by rw[List.length_cons];omega)];by_cases hx:x=46
   .subst hx;rw[AwH,show Lib.trimPrefix (46::r) [46]=r by simp [Lib.trimPrefix,Lib.hasPrefix,List.isPrefixOf]];cases r with
    | nil=>rw[AgX];cases Pq [46]<;>rfl
    | cons y r =>rw[Afc (show((46::y::r:Bs).length:Int)>1 by simp;omega)];cases Pq (46::y::r)<;>cases QZ (y::r)<;>rfl
   .rw[Ei hx,show Lib.trimPrefix (x::r) [46]=x::r by
     have: ¬(46:UInt8)=x:=λh=>hx h.symm;simp [Lib.trimPrefix,Lib.hasPrefix,List.isPrefixOf,this]]
    cases Pq (x::r)<;>cases QZ (x::r)<;>cases decide (((x::r:Bs).length:Int)>1)<;>rfl
 .rw[AfO (by omega),AfI (by omega),Aiv (by omega)];simp (disch:=omega) only[JD]
def sO (s:Bs):Bool:=decide (s.length=4)||decide (s.length=16)
def Aa2 (a b:Nat):(((a:Nat):Int)==((b:Nat):Int))=decide (a=b):=by
 by_cases h:a=b
 .rw[h,Dk rfl];exact Es _
 .rw[Dq h];exact Ei (by omega)
def Afv (N:Nat) (s:Bs):VJ N s=some (sO s):=by
 unfold VJ sO;try simp only[clR]
 rw[show(((s.length:Nat):Int)==4)=decide (s.length=4)from Aa2 _ 4,show(((s.length:Nat):Int)==16)=decide (s.length=16)from Aa2 _ 16]
def Aex (N:Nat) (s:Bs):UU N s=some (sO s):=by
 unfold UU sO;try simp only[clR]
 rw[show(((s.length:Nat):Int)==4)=decide (s.length=4)from Aa2 _ 4,show(((s.length:Nat):Int)==16)=decide (s.length=16)from Aa2 _ 16]
def tC (c:UInt8) (k:Nat):Bool:=c.toNat / 2 ^ k % 2==1
def Auz (c:UInt8) (k:Nat) (hk:k<8):(J9 .and .u8 (((c.toNat:Nat):Int).fdiv (2 ^ min k 8)) 1==1)=tC c k:=by
 have: ∀ k:Fin 8,∀ n:Fin 256,(J9 .and .u8 ((((UInt8.ofNat n.val).toNat:Nat):Int).fdiv (2 ^ min k.val 8)) 1==1)=tC (UInt8.ofNat n.val) k.val:=by decide +kernel
 exact sK (P:=λc=>(J9 .and .u8 (((c.toNat:Nat):Int).fdiv (2 ^ min k 8)) 1==1)=tC c k) (this ⟨k,hk⟩) c
def Aw8 (c:UInt8) (k:Nat) (hk:k<8):((((c.toNat:Nat):Int).fdiv (2 ^ min k 8)).tmod 2==1)=tC c k:=by
 have: ∀ k:Fin 8,∀ n:Fin 256,(((((UInt8.ofNat n.val).toNat:Nat):Int).fdiv (2 ^ min k.val 8)).tmod 2==1)=tC (UInt8.ofNat n.val) k.val:=by decide +kernel
 exact sK (P:=λc=>((((c.toNat:Nat):Int).fdiv (2 ^ min k 8)).tmod 2==1)=tC c k) (this ⟨k,hk⟩) c
def Awu (i:Nat):((i:Int)).tdiv 8=((i / 8:Nat):Int):=rfl
def Awv (i:Nat):((i:Int)).tmod 8=((i % 8:Nat):Int):=rfl
def Ar1 (i:Nat):((i:Int)).tdiv 2=((i / 2:Nat):Int):=rfl
def Agz (i:Nat):((7:Int) - (i:Int)).toNat=7 - i:=by omega
def WO (s:Bs) (i:Nat):Bool:=tC (s.getD (i / 8) 0) (7 - i % 8)
def Adc (N:Nat) (s:Bs) (i:Nat) (h:i<8*s.length:=by omega) (hs:s.length<=1048576:=by omega):Z5 N s (i:Int)=some (WO s i):=by
 unfold Z5 WO;try simp -zeta only[Ap]
 have:i / 8<s.length:=by omega
 have:i % 8<8:=by omega
 simp (disch:=omega) only[JD,Awu,Awv,wu64,Agz];rw[Auz _ _ (by omega)]
def rngS (s:Bs) (i:Nat) (z:Bool):Bool ⊕ Bool:=bif (WO (s.drop (s.length / 2)) i&&z)||(!WO (s.drop (s.length / 2)) i&&WO s i)then .inl false else .inr (z|| !WO (s.drop (s.length / 2)) i)
def wO (s:Bs):Bool:=bif decide (s.length=8)||decide (s.length=32)then(Pn (rngS s) (List.range (8*(s.length / 2))) false).elim id (λ_=>true)else false
def Ajo (N:Nat) (s:Bs) (hN:1048578<N):Yz N s=some (wO s):=by
 unfold Yz;try simp only[clR]
 unfold wO;rw[show(((s.length:Nat):Int) != 8)= !decide (s.length=8)from congrArg _ (Aa2 _ 8),show(((s.length:Nat):Int) != 32)= !decide (s.length=32)from congrArg _ (Aa2 _ 32)];by_cases h0:s.length=8\/s.length=32
 .have hb:(decide (s.length=8)||decide (s.length=32))=true:=by simpa using h0
  rw[hb,cond_true,show(!decide (s.length=8)&& !decide (s.length=32))=false by rw[<- I8,hb];rfl,cond_false];have hd:s.length / 2<=s.length:=by omega
  have hh:ZW N s=some (s.take (s.length / 2),s.drop (s.length / 2)):=by
   unfold ZW;try simp -zeta only[Ap]
   simp (disch:=omega) only[JD,Ar1,wu64];unfold J4;rw[E5];rfl
  rw[hh,Js];have hl:(s.drop (s.length / 2)).length=s.length / 2:=by rw[DU];omega
  have hl1:(s.take (s.length / 2)).length=s.length / 2:=by rw[D9];omega
  refine Ey (QM (S:=Bool) (R:=Bool) (mk:=λi z=>(z,(i:Int))) (List.range (8*(s.length / 2))) 0 (rngS s) some (λ_=>some true) ?_ ?_ N false (by rw[DW];omega)) ?_
  .intro i z hi k;rw[DW]at hi;rw[uP _ _ hi];have hb1:=Adc N (s.drop (s.length / 2)) i;have hb2:=Adc N (s.take (s.length / 2)) i;have hb3:WO (s.take (s.length / 2)) i=WO s i:=by unfold WO;congr 1;rw[Dn,Gg,A0h,<- Dn]
   rw[hb3]at hb2;unfold rngS;simp (disch:=omega) only[JD,hl,hb1,hb2,Option.isSome_some,Option.getD_some,JW];cases WO (s.drop (s.length / 2)) i<;>cases WO s i<;>cases z<;>rfl
  .intro z k;rw[DW];simp (disch:=omega) only[JD,hl]
  .exact Afb _ id (λ_=>true)
 .have hb:(decide (s.length=8)||decide (s.length=32))=false:=by simpa using h0
  rw[hb,show(!decide (s.length=8)&& !decide (s.length=32))=true by rw[<- I8,hb];rfl];rfl
def AhJ (N:Nat) (s:Bs) (hN:1048578<N):Xg N s=some (wO s):=by
 unfold Xg;try simp only[clR]
 unfold wO;rw[show(((s.length:Nat):Int) != 8)= !decide (s.length=8)from congrArg _ (Aa2 _ 8),show(((s.length:Nat):Int) != 32)= !decide (s.length=32)from congrArg _ (Aa2 _ 32)];by_cases h0:s.length=8\/s.length=32
 .have hb:(decide (s.length=8)||decide (s.length=32))=true:=by simpa using h0
  rw[hb,cond_true,show(!decide (s.length=8)&& !decide (s.length=32))=false by rw[<- I8,hb];rfl,cond_false];refine Ey (QM (S:=Bool) (R:=Bool) (mk:=λi z=>(z,(i:Int))) (List.range (8*(s.length / 2))) 0 (rngS s) some (λ_=>some true) ?_ ?_ N false (by rw[DW];omega)) ?_
  .intro i z hi k;rw[DW]at hi;rw[uP _ _ hi];have hbd:tC (s.getD (s.length / 2+i / 8) 0) (7 - i % 8)=WO (s.drop (s.length / 2)) i:=by unfold WO;congr 1;rw[Dn,Dn,FK]
   unfold rngS;have:i % 8<8:=by omega
   simp (disch:=omega) only[JD,Ar1,Awu,Awv,Agz,Aw8,hbd,JW];rw[show tC (s.getD (i / 8) 0) (7 - i % 8)=WO s i from rfl];cases WO (s.drop (s.length / 2)) i<;>cases WO s i<;>cases z<;>rfl
  .intro z k;rw[DW];simp (disch:=omega) only[JD,Ar1]
  .exact Afb _ id (λ_=>true)
 .have hb:(decide (s.length=8)||decide (s.length=32))=false:=by simpa using h0
  rw[hb,show(!decide (s.length=8)&& !decide (s.length=32))=true by rw[<- I8,hb];rfl];rfl
def AqI (n:List (List Att)): ∃ v,Y8 n=some v:=by
 unfold Y8;by_cases h:8<n.length
 .rw[Du h];exact⟨_,rfl⟩
 .rw[Dt h]
  have: ∀(l:List (List Att)) (s:Unit),∃ v,Ub YB (λ_=>some 0) l s=some v:=by
   intro l
   induction l with
   | nil=>intro s;exact⟨0,rfl⟩
   | cons e r ih =>
    intro s;unfold Ub YB;by_cases h:VT e=0
    .rw[Du h];exact ih _
    .rw[Dt h];exact⟨_,rfl⟩
  exact this n ()
def Og (n:List (List Att)):Int:=(Y8 n).getD 0
def AoV (n:List (List Att)):Y8 n=some (Og n):=by obtain⟨v,h⟩:=AqI n;unfold Og;rw[h];rfl
def Xn (N:Nat) (n:List (List Att)) (hN:1048578<N) (hn:MG n):O8 N n=some (Og n):=(AgS N n hN hn).trans (AoV n)
def ZM (N:Nat) (n:List (List Att)) (hN:1048578<N) (hn:MG n):Nr N n=some (Og n):=(AkG N n hN hn).trans (AoV n)
abbrev Gn:Type:=Int×Bs×List (List Att)
def kN (g:Gn):Prop:=g.2.1.length<=1048576/\MG g.2.2
def AdN (k:Int) (s:Bs) (c:Bool):Bool:=bif k==1 then(bif c then mbP s else Pq s)else bif k==2 then(bif c then sV s else vX s)else bif k==7 then(bif c then wO s else sO s)else false
def LP (g:Gn) (c:Bool):Int:=bif g.1==4 then(bif g.2.1==[]then Og g.2.2 else 14)else bif AdN g.1 g.2.1 c&&g.2.2.isEmpty then 0 else 14
def Y3 {α :Type} (l:List α):decide (((l.length:Nat):Int)>0)= !l.isEmpty:=by
 cases l with
 | nil=>rfl
 | cons a r=>rw[Dk (by rw[List.length_cons];omega)];rfl
def Ajw (N:Nat) (k:Int) (s:Bs) (c:Bool) (hN:1048578<N) (hs:s.length<=1048576):PI N k s c=some (bif k==0 then(bif c then mbP s else Pq s)else bif k==1 then(bif c then sV s else vX s)else bif k==3 then(bif c then wO s else sO s)else false):=by
 unfold PI;try simp only[clR]
 simp only[AdR N s hN hs,Aaz N s hN hs,AlG N s hN,Afx N s hN,Ajo N s hN,Afv N s,Option.isSome_some,Option.getD_some,DZ,Ju];cases k==0<;>cases k==1<;>cases k==3<;>cases c<;>simp [chk]
def Zz (N:Nat) (g:Gn) (c:Bool) (hN:1048578<N) (hg:kN g):Vb N g c=some (LP g c):=by
 obtain⟨k,s,n⟩:=g;unfold Vb;try simp only[clR]
 have hg:s.length<=1048576/\MG n:=hg;have hd:=Xn N n hN hg.2;have hk: ∀ k:Int,PI N k s c=_:=λk=>Ajw N k s c hN hg.1;have h1:=hg.1;unfold LP AdN AdO;by_cases e1:k=1
 .subst e1;simp (disch:=omega) only[JD,hk,Option.isSome_some,Option.getD_some,Y3];cases n.isEmpty<;>cases c<;>cases mbP s<;>cases Pq s<;>rfl
 .by_cases e2:k=2
  .subst e2;simp (disch:=omega) only[JD,hk,Option.isSome_some,Option.getD_some,Y3];cases n.isEmpty<;>cases c<;>cases sV s<;>cases vX s<;>rfl
  .by_cases e4:k=4
   .subst e4;simp (disch:=omega) only[JD,hd,Option.isSome_some,Option.getD_some,Y3];cases s==[]<;>rfl
   .by_cases e7:k=7
    .subst e7;simp (disch:=omega) only[JD,hk,Option.isSome_some,Option.getD_some,Y3];cases n.isEmpty<;>cases c<;>cases wO s<;>cases sO s<;>rfl
    .simp (disch:=omega) only[JD]
def Yc (N:Nat) (g:Gn) (c:Bool) (hN:1048578<N) (hg:kN g):Ox N g c=some (LP g c):=by
 obtain⟨k,s,n⟩:=g;unfold Ox;try simp only[clR]
 have hg:s.length<=1048576/\MG n:=hg;have hd:=ZM N n hN hg.2;unfold LP AdN;dsimp only[U4,Ld];simp only[AcG N s hN hg.1,xX N s hN hg.1,AjS N s hN,Aez N s hN hg.1,AhJ N s hN,Aex N s,Option.isSome_some,Option.getD_some,DZ,Ju,hd,Js,Y3];by_cases e1:k=1
 .subst e1;cases n.isEmpty<;>cases c<;>cases mbP s<;>cases Pq s<;>rfl
 .by_cases e2:k=2
  .subst e2;cases n.isEmpty<;>cases c<;>cases sV s<;>cases vX s<;>rfl
  .by_cases e4:k=4
   .subst e4;cases s==[]<;>rfl
   .by_cases e7:k=7
    .subst e7;cases n.isEmpty<;>cases c<;>cases wO s<;>cases sO s<;>rfl
    .simp (disch:=omega) only[JD]
def len0 {α :Type} (l:List α):(((l.length:Nat):Int)==0)=l.isEmpty:=by
 cases l with
 | nil=>rfl
 | cons a r=>exact Ei (by rw[List.length_cons];omega)
def Nb (n k:Nat):decide ((n:Int)>(k:Int))=decide (k<n):=by congr 1;apply propext;omega
def Lh (l:List Gn):Prop:= ∀ g∈l,kN g
def Py (l:List Gn) (c:Bool):Int:=Kw (λg=>LP g c) l
def XI (N:Nat) (l:List Gn) (hN:1048578<N) (hl:l.length<=1048576) (hs:Lh l):PY N l=some (Py l false):=by
 unfold PY;try simp -zeta only[Ap]
 refine(Uh (mk:=λi=>(i:Int)) l (0,[],[]) (λg=>LP g false) some (some 0) ?_ ?_ N).trans (first_some _)
 .intro i hi k;have h:=Zz N (l.getD i (0,[],[])) false hN (hs _ (getD_mem _ hi));simp (disch:=omega) only[JD,h,JW]
 .intro k;simp (disch:=omega) only[JD]
def Za (N:Nat) (l:List Gn) (hN:1048578<N) (hs:Lh l):Rx N l=some (bif decide (16<l.length)then 2 else Py l false):=by
 unfold Rx;try simp -zeta only[Ap]
 rw[show decide (((l.length:Nat):Int)>16)=decide (16<l.length)from Nb _ 16];by_cases h16:16<l.length
 .rw[Dk h16];rfl
 .rw[Dq h16,cond_false,cond_false];refine(Uh (mk:=λi=>(i:Int)) l (0,[],[]) (λg=>LP g false) some (some 0) ?_ ?_ N).trans (first_some _)
  .intro i hi k;have h:=Yc N (l.getD i (0,[],[])) false hN (hs _ (getD_mem _ hi));simp (disch:=omega) only[JD,h,JW]
  .intro k;simp (disch:=omega) only[JD]
abbrev Pt:Type:=List Gn×Int×Bool×List (List Att)
def Qw (p:Pt):Prop:=Lh p.1/\MG p.2.2.2/\ -9223372036854775808<=p.2.1/\p.2.1<=9223372036854775807
def ptI (p:Pt):Int :=
 bif (p.1.isEmpty&& !p.2.2.1)||(!p.2.2.2.isEmpty&& !p.2.2.1)then 7
 else bif J9 .andNot .i64 p.2.1 510 != 0 then 1
 else bif decide (16<p.1.length)then 2
 else bif Py p.1 false != 0 then Py p.1 false
 else bif !p.2.2.1 then 0
 else bif p.2.2.2.isEmpty then 14 else Og p.2.2.2
def pU (N:Nat) (p:Pt) (hN:1048578<N) (hs:Qw p):Sm N p=some (ptI p):=by
 obtain⟨g,r,b,n⟩:=p;have hg:Lh g:=hs.1;have hn:MG n:=hs.2.1;unfold Sm ptI;try simp only[clR]
 simp only[Ld,U5,len0,Y3];have e: ∀ x y:Bool,(bif x then(bif x then some (7:Int)else none)else none)=(bif x then some 7 else none):=λx y=>by cases x<;>rfl
 rw[show decide (((g.length:Nat):Int)>16)=decide (16<g.length)from Nb _ 16];cases g.isEmpty&& !b with
 | true=>rfl
 | false =>
  rw[cond_false,EL];cases (!n.isEmpty&& !b)with
  | true=>rfl
  | false =>
   rw[cond_false,cond_false];cases J9 .andNot .i64 r 510 != 0 with
   | true=>rfl
   | false =>
    rw[cond_false,cond_false];by_cases h16:16<g.length
    .rw[Dk h16];rfl
    .rw[Dq h16,cond_false,cond_false,XI N g hN (by omega) hg,Js,Xn N n hN hn,Js,JX,JX,JX]
def SX (N:Nat) (l:List Pt) (hN:1048578<N) (hs: ∀ p∈l,Qw p):Md N l=some (bif decide (4<l.length)then 2 else Kw ptI l):=by
 unfold Md;try simp -zeta only[Ap]
 rw[show decide (((l.length:Nat):Int)>4)=decide (4<l.length)from Nb _ 4];by_cases h4:4<l.length
 .rw[Dk h4];rfl
 .rw[Dq h4,cond_false,cond_false];refine(Uh (mk:=λi=>(i:Int)) l ([],0,false,[]) ptI some (some 0) ?_ ?_ N).trans (first_some _)
  .intro i hi k;have h:=pU N (l.getD i ([],0,false,[])) hN (hs _ (getD_mem _ hi));simp (disch:=omega) only[JD,h,JW]
  .intro k;simp (disch:=omega) only[JD]
def UE (N:Nat) (l:List Pt) (hN:1048578<N) (hs: ∀ p∈l,Qw p):Na N l=some (bif decide (4<l.length)then 2 else Kw ptI l):=by
 unfold Na;try simp only[clR]
 rw[show decide (((l.length:Nat):Int)>4)=decide (4<l.length)from Nb _ 4];by_cases h4:4<l.length
 .rw[Dk h4];rfl
 .rw[Dq h4,cond_false,cond_false];refine(Uh (mk:=λi=>(i:Int)) l ([],0,false,[]) ptI some (some 0) ?_ ?_ N).trans (first_some _)
  .intro i hi k;have hm:=hs _ (getD_mem ([],0,false,[]) hi);have h1:=fun(h:Lh (l.getD i ([],0,false,[])).1)=>Za N _ hN h;have h1:=h1 hm.1;have h2:=ZM N _ hN hm.2.1;simp (disch:=omega) only[JD,h1,h2,JW,len0,Y3];generalize l.getD i ([],0,false,[])=p;unfold ptI;cases p.1.isEmpty<;>cases p.2.2.1<;>cases p.2.2.2.isEmpty<;>cases J9 .andNot .i64 p.2.1 510 != 0<;>cases decide (16<p.1.length)<;>cases h5:Py p.1 false != 0<;>simp [h5,chk]
  .intro k;simp (disch:=omega) only[JD]
abbrev St2:Type:=List Gn×List Gn
def ZH (s:St2):Int:=bif s.1.isEmpty&&s.2.isEmpty then 7 else bif decide (16<s.1.length)||decide (16<s.2.length)then 2 else Kw (λg=>LP g true) (s.1++s.2)
def kP (N:Nat) (s:St2) (hN:1048578<N) (h1:Lh s.1) (h2:Lh s.2):UX N s=some (ZH s):=by
 obtain⟨a,b⟩:=s;unfold UX ZH;try simp only[clR]
 rw[len0,len0,show decide (((a.length:Nat):Int)>16)=decide (16<a.length)from Nb _ 16,show decide (((b.length:Nat):Int)>16)=decide (16<b.length)from Nb _ 16];cases a.isEmpty&&b.isEmpty with
 | true=>rfl
 | false =>
  rw[cond_false,cond_false];by_cases h:16<a.length\/16<b.length
  .have hb:(decide (16<a.length)||decide (16<b.length))=true:=by simpa using h
   rw[hb];rfl
  .have hb:(decide (16<a.length)||decide (16<b.length))=false:=by simpa using h
   rw[hb,cond_false,cond_false];refine(Uh (mk:=λi=>((i:Int),[a,b])) [a,b] [] (λl=>Kw (λg=>LP g true) l) some (some 0) ?_ ?_ N (by show 2<N;omega)).trans ?_
   .intro i hi k;have hi:i<2:=hi
    have hm:Lh ([a,b].getD i []):=by
     have:i=0\/i=1:=by omega
     rcases this with rfl | rfl
     .exact h1
     .exact h2
    have hml:([a,b].getD i []).length<=16:=by
     have:i=0\/i=1:=by omega
     rcases this with rfl | rfl
     .show a.length<=16;omega
     .show b.length<=16;omega
    have h22: [a,b].length=2:=rfl;simp (disch:=omega) only[JD,h22];refine(Uh (mk:=λj=>((j:Int),[a,b])) ([a,b].getD i []) (0,[],[]) (λg=>LP g true) some (k ((i+1:Nat),[a,b])) ?_ ?_ N).trans rfl
    .intro j hj k;have h:=Zz N (([a,b].getD i []).getD j (0,[],[])) true hN (hm _ (getD_mem _ hj));simp (disch:=omega) only[JD,h,JW]
    .intro k;simp (disch:=omega) only[JD];rfl
   .intro k;rfl
   .rw[first_some,Ajl];rw[PS,PS]
    have e: ∀ x:Int,(bif x != 0 then x else Kw (λl=>Kw (λg=>LP g true) l) ([]:List (List Gn)))=x:=λx=>by
     by_cases hx:x=0
     .subst hx;rfl
     .rw[show(x != 0)=true from EM.2 hx];rfl
    rw[e]
def iK (N:Nat) (s:St2) (hN:1048578<N) (h1:Lh s.1) (h2:Lh s.2):Nk N s=some (ZH s):=by
 obtain⟨a,b⟩:=s;unfold Nk ZH;try simp only[clR]
 rw[len0,len0,show decide (((a.length:Nat):Int)>16)=decide (16<a.length)from Nb _ 16,show decide (((b.length:Nat):Int)>16)=decide (16<b.length)from Nb _ 16];cases a.isEmpty&&b.isEmpty with
 | true=>rfl
 | false =>
  rw[cond_false,cond_false];by_cases h:16<a.length\/16<b.length
  .have hb:(decide (16<a.length)||decide (16<b.length))=true:=by simpa using h
   rw[hb];rfl
  .have hb:(decide (16<a.length)||decide (16<b.length))=false:=by simpa using h
   rw[hb,cond_false,cond_false];rw[Oz,Oz,Ju,Ju]
   have hm:Lh (a++b):=λg hg=>by
    rcases DN.1 hg with hg | hg
    .exact h1 g hg
    .exact h2 g hg
   have hml:(a++b).length<=32:=by rw[Dp];omega
   generalize a++b=l at hm hml ⊢;refine(Uh (mk:=λj=>((j:Int),l)) l (0,[],[]) (λg=>LP g true) some (some 0) ?_ ?_ N).trans (first_some _)
   .intro j hj k;have h:=Yc N (l.getD j (0,[],[])) true hN (hm _ (getD_mem _ hj));simp (disch:=omega) only[JD,h,JW]
   .intro k;simp (disch:=omega) only[JD]
end Go.Proofs.YtacidcemomccpaaGreatDoor.Pl
namespace Go.Proofs.YtacidcemomccpaaGreatDoor.Sp
def beNat (l:List UInt8):Nat:=l.foldl (λv b=>v*256+b.toNat) 0
def leastOf (k:Nat):Nat:=if k=1 then 128 else 2 ^ (8*(k - 1))
def Ap7 (l:List UInt8) (b:UInt8):beNat (l++[b])=beNat l*256+b.toNat:=by simp [beNat,Ig]
def Aut (l:List UInt8):beNat l<256 ^ l.length:=by
 have h: ∀(l:List UInt8) (v h:Nat),v<h->l.foldl (λv b=>v*256+b.toNat) v<h*256 ^ l.length:=by
  intro l
  induction l with
  | nil=>intro v h hv;simpa using hv
  | cons b r ih =>intro v h hv;have hb:=b.toNat_lt;have:=ih (v*256+b.toNat) (h*256) (by omega);rw[List.foldl_cons,List.length_cons,Nat.pow_succ];rw[Hy (256 ^ r.length) 256,<- Nat.mul_assoc];exact this
 have:=h l 0 1 (by omega);simpa [beNat]using this
def head (l:List UInt8):Int×Nat×Nat :=
 match l with
 | []=>(3,0,0)
 | t::r =>
  if t.toNat % 32=31 then(5,0,0)else
  match r with
  | []=>(3,0,0)
  | n::r =>
   if n.toNat<128 then(0,2,n.toNat)else
   if n.toNat=128\/131<n.toNat then(6,0,0)else
   if r.length<n.toNat - 128 then(3,0,0)else
   if beNat (r.take (n.toNat - 128))<leastOf (n.toNat - 128)\/131072<beNat (r.take (n.toNat - 128))then(6,0,0)else
   (0,2+(n.toNat - 128),beNat (r.take (n.toNat - 128)))
def rd (l:List UInt8):Int×Nat×Nat:=if(head l).1=0/\l.length - (head l).2.1<(head l).2.2 then(3,0,0)else head l
def err (l:List UInt8):Int:=(rd l).1
def tag (l:List UInt8):Nat:=(l.headD 0).toNat
def content (l:List UInt8):List UInt8:=(l.drop (rd l).2.1).take (rd l).2.2
def raw (l:List UInt8):List UInt8:=l.take ((rd l).2.1+(rd l).2.2)
def rest (l:List UInt8):List UInt8:=l.drop ((rd l).2.1+(rd l).2.2)
def AwP (l:List UInt8) (h:(head l).1=0):2<=(head l).2.1/\(head l).2.1<=l.length/\(head l).2.1<=5/\(head l).2.2<=131072:=by
 unfold head at *
 split at h
 .simp at h
 .split at h
  .simp at h
  .split at h
   .simp at h
   .split at h
    .simp only[*,Jo,G8,List.length_cons];omega
    .split at h
     .simp at h
     .split at h
      .simp at h
      .split at h
       .simp at h
       .simp only[*,G8,List.length_cons];omega
def Agi (l:List UInt8) (h:err l=0):2<=(rd l).2.1/\(rd l).2.1+(rd l).2.2<=l.length/\(rd l).2.1<=5/\(rd l).2.2<=131072:=by
 unfold err rd at *
 by_cases hc:(head l).1=0/\l.length - (head l).2.1<(head l).2.2
 .rw[Du hc]at h;simp at h
 .rw[Dt hc]at h ⊢;have:=AwP l h;omega
theorem Apg (l:List UInt8) (h:err l=0):(rest l).length<l.length:=by have:=Agi l h;unfold rest;rw[DU];omega
theorem Un (l:List UInt8) (h:err l=0):(content l).length<l.length:=by have:=Agi l h;unfold content;rw[D9,DU];omega
def AgP (l:List UInt8) (h:err l=0):(content l).length=(rd l).2.2:=by have:=Agi l h;unfold content;rw[D9,DU];omega
def Arh (l:List UInt8) (h:err l=0):(raw l).length=(rd l).2.1+(rd l).2.2:=by have:=Agi l h;unfold raw;rw[D9];omega
def TW (l:List UInt8):Int:=if err l≠0 then err l else if rest l=[]then 0 else 4
def cons (t:Nat):Bool:=decide (t / 32 % 2=1)
def within:Nat->Nat->List UInt8->Int
 | 0,_,_=>0
 | f+1,d,l =>
  if l=[]then 0 else
  if err l≠0 then err l else
  if 16<=d then 8 else
  if(if cons (tag l)then within f (d+1) (content l)else 0)≠0 then(if cons (tag l)then within f (d+1) (content l)else 0)
  else within f d (rest l)
def inner (f d:Nat) (t:Nat) (c:List UInt8):Int:=if cons t then within f d c else 0
theorem ArE (f d:Nat) (l:List UInt8) (h:l≠ []) (he:err l≠0):within (f+1) d l=err l:=by rw[within,Dt h,Du he]
def Ao1 (f d:Nat) (l:List UInt8) (h:l≠ []) (he:err l=0) (hd:16<=d):within (f+1) d l=8:=by rw[within,Dt h,Dt (by simp [he]),Du hd]
def ArD (f d:Nat) (l:List UInt8) (h:l≠ []) (he:err l=0) (hd: ¬ 16<=d) (hi:inner f (d+1) (tag l) (content l)≠0):within (f+1) d l=inner f (d+1) (tag l) (content l):=by rw[within,Dt h,Dt (by simp [he]),Dt hd];unfold inner at hi ⊢;rw[Du hi]
def Ao2 (f d:Nat) (l:List UInt8) (h:l≠ []) (he:err l=0) (hd: ¬ 16<=d) (hi:inner f (d+1) (tag l) (content l)=0):within (f+1) d l=within f d (rest l):=by rw[within,Dt h,Dt (by simp [he]),Dt hd];unfold inner at hi;rw[Dt (by simp [hi])]
def chk (l:List UInt8):Int:=if TW l≠0 then TW l else inner (l.length+1) 1 (tag l) (content l)
def jU (n:Nat):List UInt8 :=
 if n<128 then [UInt8.ofNat n]else if n<256 then [129,UInt8.ofNat n]else if n<65536 then [130,UInt8.ofNat (n / 256),UInt8.ofNat n]
 else [131,UInt8.ofNat (n / 65536),UInt8.ofNat (n / 256),UInt8.ofNat n]
def elem (t:Nat) (c:List UInt8):List UInt8:=UInt8.ofNat t::jU c.length++c
def wrap (t:Int) (c:List UInt8):List UInt8×Int :=
 if t<0\/255<t\/t % 32=31 then([],5)else if 131072<c.length then([],6)else(elem t.toNat c,0)
def AfA (n:Nat):(jU n).length<=4:=by unfold jU;split<;>(try split)<;>(try split)<;>simp
theorem JS (t:Nat) (c:List UInt8):(elem t c).length<=c.length+5:=by have:=AfA c.length;unfold elem;simp;omega
end Go.Proofs.YtacidcemomccpaaGreatDoor.Sp
