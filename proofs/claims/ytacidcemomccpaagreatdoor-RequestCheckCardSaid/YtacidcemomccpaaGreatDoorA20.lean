import Derived.Test.YtacidcemomccpaaGreatDoorA19
set_option linter.all false
namespace Go.Proofs.YtacidcemomccpaaGreatDoor.Pl
open IntKind (i64 u8 u32 u64)
open Go Vm
def Tu (l:Bs):Int×Bs×Bs:=((Sp.tag l:Int),Sp.content l,Sp.raw l)
def OO (l:Bs):(Int×Bs×Bs)×Bs×Int:=if Sp.err l=0 then(Tu l,Sp.rest l,0)else((0,[],[]),[],Sp.err l)
def AmA {s:Bs} {p n:Nat} (hh:Sp.head s=(0,p,n)) (hp:p<=s.length):(if((s.length:Int) - p<n)then(some ((0,([]:Bs),([]:Bs)),([]:Bs),3):Option ((Int×Bs×Bs)×Bs×Int))else some ((((s.getD 0 0).toNat:Int),J4 s p (p+n),J4 s 0 (p+n)),J4 s (p+n) s.length,0))=some (OO s):=by
 have e1: ∀ a b,(J4 s a b)=(s.take b).drop a:=λa b=>rfl;by_cases h:(s.length:Int) - p<n
 .rw[Du h];have:Sp.rd s=(3,0,0):=by unfold Sp.rd;rw[hh,Du ⟨rfl,by show s.length - p<n;omega⟩]
  unfold OO Sp.err;rw[this];rfl
 .rw[Dt h];have hr:Sp.rd s=(0,p,n):=by unfold Sp.rd;rw[hh,Dt (by intro hc;have:=hc.2;simp at this;omega)]
  have he:Sp.err s=0:=by unfold Sp.err;rw[hr]
  unfold OO;rw[Du he];unfold Tu Sp.content Sp.raw Sp.rest;rw[hr,e1,e1,e1];congr 1;refine AzV (AzV ?_ (AzV ?_ ?_)) (AzV ?_ rfl)
  .show((s.getD 0 0).toNat:Int)=((Sp.tag s:Nat):Int);unfold Sp.tag;cases s<;>rfl
  .show(s.take (p+n)).drop p=(s.drop p).take n;rw[I9];congr 1;omega
  .show(s.take (p+n)).drop 0=_;rw[G5]
  .show(s.take s.length).drop (p+n)=_;rw[E5]
theorem take_snoc {α :Type} {l:List α} {i:Nat} (h:i<l.length):l.take (i+1)=l.take i++[l[i]]:=by simp_all
def AeK {l:Bs} {i:Nat} (h:i<l.length):Sp.beNat (l.take (i+1))=Sp.beNat (l.take i)*256+(l[i]).toNat:=by rw[take_snoc h,Sp.Ap7]
def AcV {l:Bs} (i:Nat) (hl:l.length<=3):Sp.beNat (l.take i)<16777216:=by
 have h1:=Sp.Aut (l.take i);have h2:256 ^ (l.take i).length<=256 ^ 3:=GH (by omega) (by rw[D9];omega);have:(256:Nat) ^ 3=16777216:=by decide
 omega
def Asu {ρ :Type} (N:Nat) (l:Bs) (hl:l.length<=3) (hN:4<N) (kx:Int->Option ρ) :
 Jy (X:=Int×Int×List Int) (Y:=Int) (U3 λt7b t52b l45568b k2 x3 =>
  if t52b<((List.map (fun(b:UInt8)=>((b.toNat:Int))) l).length:Int)then if(0:Int)<=t52b then if t52b<(l45568b.length:Int)then if t52b.toNat<l45568b.length then
   k2 (J9 .or .i64 (i64.wrap (t7b*(256))) (i64.wrap (l45568b.getD t52b.toNat 0)),i64.wrap (t52b+(1:Int)),l45568b)else none else none else none
  else x3 t7b) N (0,0,List.map (fun(b:UInt8)=>((b.toNat:Int))) l) kx=kx (Sp.beNat l):=by
 refine Nc (λx=> ∃ i,i<=l.length/\x=((Sp.beNat (l.take i):Int),(i:Int),List.map (fun(b:UInt8)=>((b.toNat:Int))) l)) (λx=>l.length - x.2.1.toNat) (λ_=>kx (Sp.beNat l)) ?_ N _ ⟨0,by omega,rfl⟩ (by show l.length - 0<N;omega);rintro x ⟨i,hi,rfl⟩ k hk;show(if(i:Int)<_ then _ else _)=_;rw[D5];by_cases h:i<l.length
 .dsimp only;rw[A0h,A0h,A0h,Int.toNat_natCast,Du h];have hb:=(l[i]).toNat_lt;have hs:=AcV (l:=l) i hl;rw[show(List.map (fun(b:UInt8)=>((b.toNat:Int))) l).getD i 0=((l[i].toNat:Nat):Int) by simp [Dn,h]];rw[w64 (x:=((Sp.beNat (l.take i):Nat):Int)*256),w64 (x:=((l[i].toNat:Nat):Int)),w64 (x:=(i:Int)+1)];rw[show((Sp.beNat (l.take i):Nat):Int)*256=((Sp.beNat (l.take i)*256:Nat):Int) by omega,or8 _ _ (by omega) hb,<- AeK h];exact hk _ ⟨i+1,h,rfl⟩ (by show l.length - ((i:Int)+1).toNat<l.length - (i:Int).toNat;omega)
 .rw[A0g];rw[Fp (by omega)]
def AuW (N:Nat) (k:Nat) (h1:1<=k) (h3:k<=3):AbI N (k:Int)=some (Sp.leastOf k:Int):=by
 have:k=1\/k=2\/k=3:=by omega
 rcases this with rfl | rfl | rfl<;>rfl
set_option maxRecDepth 4000
def oW (N:Nat) (s:Bs) (hN:4<N) (hs:s.length<=1099511627776):ZK N s=some (OO s):=by
 unfold ZK;try simp -zeta only[Ap]
 cases s with
 | nil=>rfl
 | cons a r =>
  have ha:=a.toNat_lt;have h0:((a::r:Bs)==([]:Bs))=false:=rfl;simp only[h0,cond_false,FW,List.length_cons,AeY,AbN,AbO,AeM];simp only[AoC,QS,F8,D6,Ef,Dw];rw[w64,Ap3 _ ha];by_cases h31:a.toNat % 32=31
  .have:Sp.err (a::r)=5:=by simp [Sp.err,Sp.rd,Sp.head,h31]
   unfold OO;rw[this,A0h,A0h];rfl
  .rw[A0h,A0g];cases r with
   | nil =>
    have:Sp.err [a]=3:=by simp [Sp.err,Sp.rd,Sp.head,h31]
    unfold OO;rw[this,Du (by simp)];rfl
   | cons b c =>
    have hb:=b.toNat_lt;simp only[List.length_cons]at hs;simp only[HY,FW,List.length_cons];rw[w64 (x:=((b.toNat:Nat):Int)),A0g,A0h];by_cases h6:b.toNat=128\/131<b.toNat
    .have:Sp.err (a::b::c)=6:=by simp [Sp.err,Sp.rd,Sp.head,h31,h6,show ¬ b.toNat<128 by omega]
     unfold OO;rw[this,A0h];rfl
    .rw[A0g,OW]
     have hend: ∀ p n:Nat,Sp.head (a::b::c)=(0,p,n)->p<=c.length+2->n<=131072->(if i64.wrap (((c.length+1+1:Nat):Int) - (p:Int))<(n:Int)then some ((0,([]:Bs),([]:Bs)),([]:Bs),3)
      else if(0:Int)<=(p:Int)then if(p:Int)<=i64.wrap ((p:Int)+(n:Int))then if i64.wrap ((p:Int)+(n:Int))<=((c.length+1+1:Nat):Int)then if(0:Int)<=i64.wrap ((p:Int)+(n:Int))then
       if i64.wrap ((p:Int)+(n:Int))<=((c.length+1+1:Nat):Int)then if(0:Int)<=i64.wrap ((p:Int)+(n:Int))then if i64.wrap ((p:Int)+(n:Int))<=((c.length+1+1:Nat):Int)then
       some ((((a.toNat:Nat):Int),J4 (a::b::c) (p:Int).toNat (i64.wrap ((p:Int)+(n:Int))).toNat,J4 (a::b::c) 0 (i64.wrap ((p:Int)+(n:Int))).toNat),J4 (a::b::c) (i64.wrap ((p:Int)+(n:Int))).toNat (c.length+1+1),0)
       else none else none else none else none else none else none else none:Option ((Int×Bs×Bs)×Bs×Int))=some (OO (a::b::c)):=by
      intro p n hh hp hn;have:=AmA (s:=a::b::c) hh (by simp;omega);all_goals grind[w64]
     by_cases h128:b.toNat<128
     .rw[A0g];exact hend 2 b.toNat (by simp [Sp.head,h31,h128]) (by omega) (by omega)
     .rw[A0h];obtain⟨k,hk⟩: ∃ k:Nat,b.toNat=128+k:=⟨b.toNat - 128,by omega⟩
      rw[w64 (x:=((b.toNat:Nat):Int) - 128),show((b.toNat:Nat):Int) - 128=(k:Int) by omega,w64 (x:=2+(k:Int))];by_cases hlen:c.length<k
      .rw[A0h];have:Sp.err (a::b::c)=3:=by simp [Sp.err,Sp.rd,Sp.head,h31,h128,h6,show b.toNat - 128=k by omega,hlen]
       unfold OO;rw[this];rfl
      .have hcut:J4 (a::b::c) 2 ((2+(k:Int)).toNat)=c.take k:=by
        rw[show(2+(k:Int)).toNat=k+2 by omega];rfl
       have hlk:(c.take k).length=k:=by rw[D9];omega
       rw[A0g,A0h,A0h,hcut,A0h];rw[Asu N (c.take k) (by omega) hN,AuW N k (by omega) (by omega),Js];by_cases hbad:Sp.beNat (c.take k)<Sp.leastOf k\/131072<Sp.beNat (c.take k)
       .have:Sp.err (a::b::c)=6:=by simp [Sp.err,Sp.rd,Sp.head,h31,h128,h6,show b.toNat - 128=k by omega,hlen,hbad]
        unfold OO;rw[A0h,this];rfl
       .rw[A0g];have:=hend (2+k) (Sp.beNat (c.take k)) (by simp [Sp.head,h31,h128,h6,show b.toNat - 128=k by omega,hlen,hbad]) (by omega) (by omega);rw[show(((2+k:Nat)):Int)=2+(k:Int) by omega]at this;exact this
def Ali {ρ :Type} (N:Nat) (s:Bs) (k:Nat) (hk:k<=3) (hl:k+2<=s.length) (hs:s.length<=1099511627776) (hN:4<N) (kx:Int->Option ρ) :
 Jy (X:=Int×Int) (Y:=Int) (U2 λt6b t9b k2 x3 =>
  if t9b<(k:Int)then if(0:Int)<=i64.wrap ((2:Int)+t9b)then if i64.wrap ((2:Int)+t9b)<(s.length:Int)then
   k2 (i64.wrap ((i64.wrap ((256:Int)*t6b))+i64.wrap ((s.getD ((i64.wrap ((2:Int)+t9b)).toNat) 0).toNat:Int)),i64.wrap (t9b+(1:Int)))else none else none
  else x3 t6b) N (0,0) kx=kx (Sp.beNat ((s.drop 2).take k)):=by
 have hlen:((s.drop 2).take k).length=k:=by rw[D9,DU];omega
 generalize hL:(s.drop 2).take k=l at hlen;refine Nc (λx=> ∃ i,i<=k/\x=((Sp.beNat (l.take i):Int),(i:Int))) (λx=>k - x.2.toNat) (λ_=>kx (Sp.beNat l)) ?_ N _ ⟨0,by omega,rfl⟩ (by show k - 0<N;omega);rintro x ⟨i,hi,rfl⟩ kk hkk;show(if(i:Int)<_ then _ else _)=_;by_cases h:i<k
 .have hb:=(l[i]'(by omega)).toNat_lt;have hs':=AcV (l:=l) i (by omega);dsimp only;rw[A0h,w64 (x:=2+(i:Int)),A0h,A0h,show(2+(i:Int)).toNat=i+2 by omega]
  have e:s.getD (i+2) 0=l[i]'(by omega):=by
   have:l[i]? =s[i+2]? :=by rw[<- hL,Gg,Du h,FK,Nat.add_comm]
   rw[Dn,<- this,D8 (by omega)];rfl
  rw[e,w64 (x:=256*((Sp.beNat (l.take i):Nat):Int)),w64 (x:=(((l[i]'(by omega)).toNat:Nat):Int)),w64 (x:=(i:Int)+1),w64];have:=AeK (l:=l) (i:=i) (by omega);rw[show 256*((Sp.beNat (l.take i):Nat):Int)+(((l[i]'(by omega)).toNat:Nat):Int)=((Sp.beNat (l.take (i+1)):Nat):Int) by omega];exact hkk _ ⟨i+1,h,rfl⟩ (by show k - ((i:Int)+1).toNat<k - (i:Int).toNat;omega)
 .rw[A0g,Fp (by omega)]
def AsX (k:Nat) (h1:1<=k) (h3:k<=3):(([0,128,256,65536]:List Int).getD k 0)=(Sp.leastOf k:Int):=by
 have:k=1\/k=2\/k=3:=by omega
 rcases this with rfl | rfl | rfl<;>rfl
def dQ (N:Nat) (s:Bs) (hN:4<N) (hs:s.length<=1099511627776):YH N s=some (OO s):=by
 unfold YH;try simp -zeta only[Ap]
 cases s with
 | nil=>rfl
 | cons a r =>
  have ha:=a.toNat_lt;simp only[FW,List.length_cons,AeY,AbN,AbO,AeM];simp only[AoC,QS,F8,D6,Ef,Dw];rw[A0g,A0h];have ht:((a.toNat:Nat):Int).tmod 32=((a.toNat % 32:Nat):Int):=by rw[Fh (by omega)];omega
  rw[ht];by_cases h31:a.toNat % 32=31
  .have:Sp.err (a::r)=5:=by simp [Sp.err,Sp.rd,Sp.head,h31]
   unfold OO;rw[this,A0h];rfl
  .rw[A0g];cases r with
   | nil =>
    have:Sp.err [a]=3:=by simp [Sp.err,Sp.rd,Sp.head,h31]
    unfold OO;rw[this];rfl
   | cons b c =>
    have hb:=b.toNat_lt;simp only[List.length_cons]at hs;simp only[HY,FW,List.length_cons];rw[w64 (x:=((b.toNat:Nat):Int)),A0g,A0h];by_cases h6:b.toNat=128\/131<b.toNat
    .have:Sp.err (a::b::c)=6:=by simp [Sp.err,Sp.rd,Sp.head,h31,h6,show ¬ b.toNat<128 by omega]
     unfold OO;rw[this,A0h];rfl
    .rw[A0g,OW]
     have hend: ∀ p n:Nat,Sp.head (a::b::c)=(0,p,n)->p<=c.length+2->n<=131072->(if i64.wrap (((c.length+1+1:Nat):Int) - (p:Int))<(n:Int)then some ((0,([]:Bs),([]:Bs)),([]:Bs),3)
      else if(0:Int)<((c.length+1+1:Nat):Int)then if(0:Int)<=(p:Int)then if(p:Int)<=i64.wrap ((p:Int)+(n:Int))then if i64.wrap ((p:Int)+(n:Int))<=((c.length+1+1:Nat):Int)then if(0:Int)<=i64.wrap ((p:Int)+(n:Int))then
       if i64.wrap ((p:Int)+(n:Int))<=((c.length+1+1:Nat):Int)then if(0:Int)<=i64.wrap ((p:Int)+(n:Int))then if i64.wrap ((p:Int)+(n:Int))<=((c.length+1+1:Nat):Int)then
       some ((i64.wrap ((a.toNat:Nat):Int),J4 (a::b::c) (p:Int).toNat (i64.wrap ((p:Int)+(n:Int))).toNat,J4 (a::b::c) 0 (i64.wrap ((p:Int)+(n:Int))).toNat),J4 (a::b::c) (i64.wrap ((p:Int)+(n:Int))).toNat (c.length+1+1),0)
       else none else none else none else none else none else none else none else none:Option ((Int×Bs×Bs)×Bs×Int))=some (OO (a::b::c)):=by
      intro p n hh hp hn;have:=AmA (s:=a::b::c) hh (by simp;omega);all_goals grind[w64]
     by_cases h128:b.toNat<128
     .rw[A0g];exact hend 2 b.toNat (by simp [Sp.head,h31,h128]) (by omega) (by omega)
     .rw[A0h];obtain⟨k,hk⟩: ∃ k:Nat,b.toNat=128+k:=⟨b.toNat - 128,by omega⟩
      rw[w64 (x:=((b.toNat:Nat):Int) - 128),show((b.toNat:Nat):Int) - 128=(k:Int) by omega,w64 (x:=2+(k:Int))];by_cases hlen:c.length<k
      .rw[A0h];have:Sp.err (a::b::c)=3:=by simp [Sp.err,Sp.rd,Sp.head,h31,h128,h6,show b.toNat - 128=k by omega,hlen]
       unfold OO;rw[this];rfl
      .rw[A0g];have hd:=λkx=>Ali (ρ :=(Int×Bs×Bs)×Bs×Int) N (a::b::c) k (by omega) (by simp;omega) (by simp;omega) hN kx;refine Ey (hd _) ?_;show(if(0:Int)<=(k:Int)then _ else _)=_;have hdr:((a::b::c).drop 2).take k=c.take k:=rfl;rw[hdr,A0h,A0h,Int.toNat_natCast,A0h,AsX k (by omega) (by omega)];by_cases hbad:Sp.beNat (c.take k)<Sp.leastOf k\/131072<Sp.beNat (c.take k)
       .have:Sp.err (a::b::c)=6:=by simp [Sp.err,Sp.rd,Sp.head,h31,h128,h6,show b.toNat - 128=k by omega,hlen,hbad]
        unfold OO;rw[A0h,this];rfl
       .rw[A0g];have:=hend (2+k) (Sp.beNat (c.take k)) (by simp [Sp.head,h31,h128,h6,show b.toNat - 128=k by omega,hlen,hbad]) (by omega) (by omega);rw[show(((2+k:Nat)):Int)=2+(k:Int) by omega]at this;exact this
def Ahz (s:Bs):(Int×Bs×Bs)×Int:=if Sp.TW s=0 then(Tu s,0)else((0,[],[]),Sp.TW s)
theorem AaR {s:Bs} (h:Sp.TW s=0):Sp.err s=0/\Sp.rest s=[]:=by unfold Sp.TW at h;by_cases he:Sp.err s=0;all_goals simp_all[Bs]
def Ar5 (N:Nat) (s:Bs) (hN:4<N) (hs:s.length<=1099511627776):ZJ N s=some (Ahz s):=by
 unfold ZJ;rw[oW N s hN hs,Js];unfold OO Ahz Sp.TW;by_cases he:Sp.err s=0
 .rw[Du he];by_cases hr:Sp.rest s=[]
  .simp [he,hr,QS]
  .simp [he,hr,QS]
 .rw[Dt he];simp [he,QS]
def AmB (N:Nat) (s:Bs) (hN:4<N) (hs:s.length<=1099511627776):mP N s=some (Ahz s):=by
 unfold mP;rw[dQ N s hN hs,Js];unfold OO Ahz Sp.TW;by_cases he:Sp.err s=0
 .rw[Du he];by_cases hr:Sp.rest s=[]
  .simp [he,hr]
  .have:0<(Sp.rest s).length:=by cases h:Sp.rest s with | nil=>exact absurd h hr | cons _ _=>simp
   simp [he,hr,this,QS]
 .rw[Dt he];simp [he,QS]
def AbG (s:Bs):Sp.tag s<256:=Gz _
def TQ (e:Int×Bs×Bs) (d:Nat):Int:=if e.1 / 32 % 2=1 then Sp.within (e.2.1.length+1) d e.2.1 else 0
theorem uV: ∀(f g d:Nat) (l:Bs),l.length<f->l.length<g->Sp.within f d l=Sp.within g d l:=by
 intro f
 induction f with
 | zero=>intro g d l h;omega
 | succ f ih =>
  intro g d l hf hg;cases g with
  | zero=>omega
  | succ g =>show(if l=[]then _ else _)=if l=[]then _ else _;all_goals grind[Sp.Un,Sp.Apg]
def aN {B:Bs->(Bs->Option Int)->(Unit->Option Int)->Option Int} {kx:Unit->Option Int} (d L:Nat)
 (hB: ∀ x k,x≠ []->x.length<=L->B x k kx=if Sp.err x≠0 then some (Sp.err x)else if 16<=d then some 8 else if TQ (Tu x) (d+1)≠0 then some (TQ (Tu x) (d+1))else k (Sp.rest x))
 (hend: ∀ k,B [] k kx=some 0) (N:Nat) (x:Bs) (hx:x.length<=L) (hN:x.length<N):Jy B N x kx=some (Sp.within (x.length+1) d x):=by
 refine Nc (λx=>x.length<=L) (λx=>x.length) (λx=>some (Sp.within (x.length+1) d x)) ?_ N x hx hN;intro x hx k hk;by_cases h0:x=[]
 .subst h0;rw[hend];rfl
 .rw[hB x k h0 hx];by_cases he:Sp.err x=0
  .rw[Dt (by simp [he])];by_cases hd:16<=d
   .rw[Du hd,Sp.Ao1 _ _ _ h0 he hd]
   .rw[Dt hd];have h1:=Sp.Un x he;have h2:=Sp.Apg x he;have hin:TQ (Tu x) (d+1)=Sp.inner x.length (d+1) (Sp.tag x) (Sp.content x):=by unfold TQ Sp.inner Sp.cons Tu;all_goals grind[uV]
    rw[hin];by_cases hi:Sp.inner x.length (d+1) (Sp.tag x) (Sp.content x)=0
    .rw[Dt (by simp [hi]),hk _ (by show(Sp.rest x).length<=L;omega) h2,Sp.Ao2 _ _ _ h0 he hd hi];rw[uV _ x.length d (Sp.rest x) (Nat.lt_succ_self _) h2]
    .rw[Du hi,Sp.ArD _ _ _ h0 he hd hi]
  .grind[Sp.ArE]
def AtU (N:Nat) (hN:4<N): ∀(m n:Nat),m<n-> ∀(e:Int×Bs×Bs) (d:Nat),d+m=16->0<=e.1->e.1<256->e.2.1.length<N->e.2.1.length<=1099511627776 ->
 SN N n e (d:Int)=some (TQ e d):=by
 intro m
 induction m with
 | zero =>
  intro n hn e d hd h0 h1 h2 h3;obtain⟨n,rfl⟩: ∃ k,n=k+1:=⟨n - 1,by omega⟩
  show SQ N (SN N n) e d=_;unfold SQ TQ;obtain⟨t,ht⟩: ∃ t:Nat,e.1=(t:Int):=⟨e.1.toNat,by omega⟩
  rw[ht,AvT t (by omega)];by_cases hc:t / 32 % 2=1
  .rw[Du hc,A0h];refine aN d e.2.1.length (λx k hx hl=> ?_) (λk=>rfl) N _ (DD _) h2;have:(x==([]:Bs))=false:=by cases x with | nil=>exact absurd rfl hx | cons _ _=>rfl
   dsimp only;rw[this,oW N x hN (by omega),Js];unfold OO;simp only[QS,EM,D6,EC];by_cases he:Sp.err x=0;all_goals simp_all[Bs,SN,TQ]
  .rw[Dt hc,A0g];rfl
 | succ m ih =>
  intro n hn e d hd h0 h1 h2 h3;obtain⟨n,rfl⟩: ∃ k,n=k+1:=⟨n - 1,by omega⟩
  show SQ N (SN N n) e d=_;unfold SQ TQ;obtain⟨t,ht⟩: ∃ t:Nat,e.1=(t:Int):=⟨e.1.toNat,by omega⟩
  rw[ht,AvT t (by omega)];by_cases hc:t / 32 % 2=1
  .rw[Du hc,A0h];refine aN d e.2.1.length (λx k hx hl=> ?_) (λk=>rfl) N _ (DD _) h2;have:(x==([]:Bs))=false:=by cases x with | nil=>exact absurd rfl hx | cons _ _=>rfl
   dsimp only;rw[this,oW N x hN (by omega),Js];unfold OO;simp only[QS,EM,D6,EC];by_cases he:Sp.err x=0
   .rw[Du he];simp only[he,ne_eq,not_true_eq_false,G8,Jo];have hcl:=Sp.Un x he;have htl:=AbG x;rw[A0g,A0g,w64,show(d:Int)+1=((d+1:Nat):Int) by omega,ih n (by omega) (Tu x) (d+1) (by omega) (by show(0:Int)<=((Sp.tag x:Nat):Int);omega) (by show((Sp.tag x:Nat):Int)<256;omega) (by show(Sp.content x).length<N;omega) (by show(Sp.content x).length<=_;omega),Js]
   .rw[Dt he];simp [he]
  .rw[Dt hc,A0g];rfl
def Au4 (N:Nat) (hN:4<N): ∀(m n:Nat),m<n-> ∀(e:Int×Bs×Bs) (d:Nat),d+1+m=16->0<=e.1->e.1<256->e.2.1.length<N->e.2.1.length<=1099511627776 ->
 Tn N n e (d:Int)=some (TQ e (d+1)):=by
 intro m
 induction m with
 | zero =>
  intro n hn e d hd h0 h1 h2 h3;obtain⟨n,rfl⟩: ∃ k,n=k+1:=⟨n - 1,by omega⟩
  show Rt N (Tn N n) e d=_;unfold Rt TQ;rw[Ie h0,w64,Fh (by omega)];by_cases hc:e.1 / 32 % 2=1
  .rw[Du hc,hc];refine aN (d+1) e.2.1.length (λx k hx hl=> ?_) (λk=>rfl) N _ (DD _) h2;have:0<x.length:=by cases x with | nil=>exact absurd rfl hx | cons _ _=>simp
   dsimp only;rw[dQ N x hN (by omega),Js];unfold OO;simp only[QS,EM,D6];all_goals grind[w64]
  .rw[Dt hc,show e.1 / 32 % 2=0 by omega];rfl
 | succ m ih =>
  intro n hn e d hd h0 h1 h2 h3;obtain⟨n,rfl⟩: ∃ k,n=k+1:=⟨n - 1,by omega⟩
  show Rt N (Tn N n) e d=_;unfold Rt TQ;rw[Ie h0,w64,Fh (by omega)];by_cases hc:e.1 / 32 % 2=1
  .rw[Du hc,hc];refine aN (d+1) e.2.1.length (λx k hx hl=> ?_) (λk=>rfl) N _ (DD _) h2;have:0<x.length:=by cases x with | nil=>exact absurd rfl hx | cons _ _=>simp
   dsimp only;rw[dQ N x hN (by omega),Js];unfold OO;simp only[QS,EM,D6];rw[A0h,w64];by_cases he:Sp.err x=0
   .rw[Du he];simp only[he,ne_eq,not_true_eq_false,G8];have hcl:=Sp.Un x he;have htl:=AbG x;rw[A0g,A0g,show(d:Int)+1=((d+1:Nat):Int) by omega,ih n (by omega) (Tu x) (d+1) (by omega) (by show(0:Int)<=((Sp.tag x:Nat):Int);omega) (by show((Sp.tag x:Nat):Int)<256;omega) (by show(Sp.content x).length<N;omega) (by show(Sp.content x).length<=_;omega),Js]
   .rw[Dt he];simp [he]
  .rw[Dt hc,show e.1 / 32 % 2=0 by omega];rfl
def Afz {s:Bs} (h:Sp.TW s=0):TQ (Tu s) 1=Sp.chk s:=by unfold Sp.chk;rw[Dt (by simp [h])];unfold TQ Sp.inner Sp.cons Tu;all_goals grind[Sp.Un,AaR,uV]
def AbH (N:Nat) (s:Bs) (hN:16<N) (hs:s.length<=1099511627776) (hl:s.length<N):SL N s=some (Sp.chk s):=by
 unfold SL;rw[Ar5 N s (by omega) hs,Js];unfold Ahz;by_cases h:Sp.TW s=0
 .have h1:=Sp.Un s (AaR h).1;have h2:=AbG s;rw[Du h,<- Afz h];have:=AtU N (by omega) 15 N (by omega) (Tu s) 1 rfl (by show(0:Int)<=((Sp.tag s:Nat):Int);omega) (by show((Sp.tag s:Nat):Int)<256;omega) (by show(Sp.content s).length<N;omega) (by show(Sp.content s).length<=_;omega);all_goals grind[Jq,SN,Tu,Js]
 .rw[Dt h];have:Sp.chk s=Sp.TW s:=by unfold Sp.chk;rw[Du h]
  simp [QS,h,this]
theorem rM (N:Nat) (s:Bs) (hN:16<N) (hs:s.length<=1099511627776) (hl:s.length<N):Vg N s=some (Sp.chk s):=by
 unfold Vg;rw[AmB N s (by omega) hs,Js];unfold Ahz;by_cases h:Sp.TW s=0
 .have h1:=Sp.Un s (AaR h).1;have h2:=AbG s;rw[Du h,<- Afz h];have:=Au4 N (by omega) 15 N (by omega) (Tu s) 0 rfl (by show(0:Int)<=((Sp.tag s:Nat):Int);omega) (by show((Sp.tag s:Nat):Int)<256;omega) (by show(Sp.content s).length<N;omega) (by show(Sp.content s).length<=_;omega);all_goals grind[Jq,Tn,Tu,Js]
 .rw[Dt h];have:Sp.chk s=Sp.TW s:=by unfold Sp.chk;rw[Du h]
  simp [QS,h,this]
def KR (t:Nat) (c:Bs):Option Bs:=if c.length<=131072 then some (Sp.elem t c)else none
theorem dB {t:Nat} {c:Bs}:((KR t c).getD []).length<=131077:=by grind[KR,Sp.JS]
def Ai4: ∀(l:List Bs),([]:Bs).intercalate l=l.flatten
 | []=>rfl
 | [a]=>by simp [List.intercalate]
 | a::b::r=>by have:=Ai4 (b::r);simp only[List.intercalate,List.intersperse,List.flatten_cons]at this ⊢;simp [this]
theorem lK (n:Nat):Vm.byteOf (u8.wrap (n:Int))=UInt8.ofNat n:=by rw[w8];unfold Vm.byteOf;rw[show((n:Int) % 256).toNat=n % 256 by omega];apply UInt8.toNat.inj;simp
def Al0 (n k:Nat):(n:Int).fdiv (k:Int)=((n / k:Nat):Int):=by grind
def head_eq {ρ :Type} (t n:Nat) (ht:t<256) (K:List Int->Option ρ) (K':Bs->Option ρ) (hK: ∀ l,List.all l isByte=true->l.length<=5->K l=K' (List.map Vm.byteOf l)) :
 (bif decide ((n:Int)<(128:Int))then K ([u8.wrap (t:Int),u8.wrap (n:Int)]:List Int)
   else bif decide ((n:Int)<(256:Int))then K ([u8.wrap (t:Int),129,u8.wrap (n:Int)]:List Int)
   else bif decide ((n:Int)<(65536:Int))then K ([u8.wrap (t:Int),130,u8.wrap ((n:Int).fdiv (256)),u8.wrap (n:Int)]:List Int)
   else K ([u8.wrap (t:Int),131,u8.wrap ((n:Int).fdiv (65536)),u8.wrap ((n:Int).fdiv (256)),u8.wrap (n:Int)]:List Int))=K' (UInt8.ofNat t::Sp.jU n):=by
 have f1:=Al0 n 256;have f2:=Al0 n 65536;have g1: ∀ k:Nat,isByte (k:Int)=decide (k<256):=λk=>by unfold isByte;simp;omega
 rw[show((256:Nat):Int)=256 from rfl]at f1;rw[show((65536:Nat):Int)=65536 from rfl]at f2;rw[f1,f2];unfold Sp.jU;simp only[Xa];by_cases h1:n<128
 .grind[OZ,lK]
 .rw[A0g,Dt h1];by_cases h2:n<256
  .rw[A0h,Du h2,hK _ (by simp [OZ];decide) (by simp)];simp only[Em,Fg,lK];rfl
  .rw[A0g,Dt h2];by_cases h3:n<65536
   .rw[A0h,Du h3,hK _ (by simp [OZ];decide) (by simp)];simp only[Em,Fg,lK];rfl
   .rw[A0g,Dt h3,hK _ (by simp [OZ];decide) (by simp)];simp only[Em,Fg,lK];rfl
def AvJ {ρ :Type} (bad:Option ρ) (fin:Nat->Option ρ): ∀(l:List Bs) (s: {n:Nat // n<=131072}),
 AbV (fun(e:Bs) (s: {n:Nat // n<=131072}) (k: {n:Nat // n<=131072}->Option ρ)=>if h:s.1+e.length<=131072 then k ⟨s.1+e.length,h⟩else bad) (λs=>fin s.1) l s=if s.1+l.flatten.length<=131072 then fin (s.1+l.flatten.length)else bad:=by
 intro l
 induction l with
 | nil=>grind[AbV]
 | cons e r ih =>
  intro s;show(if h:s.1+e.length<=131072 then _ else bad)=_;rw[List.flatten_cons,Dp];by_cases h:s.1+e.length<=131072
  .rw[IG h,ih];dsimp only;rw[EE]
  .rw[dif_neg h,A0g]
def AvE {ρ :Type} (N:Nat) (l:List Bs) (hN:l.length<N) (hl:l.length<=1099511627776) (bad:Option ρ) (kx:Int->Option ρ) :
 Jy (X:=Int×Int) (Y:=Int) (U2 λt6a t23a k1 x2 =>
  bif decide (t23a<(l.length:Int))then(Vm.chk (decide ((0:Int)<=t23a)) <|
  Vm.chk (decide (t23a<(l.length:Int))) <|
  let x31:Bool:=decide (((l.getD t23a.toNat ([]:Bs)).length:Int)>(i64.wrap ((131072:Int) - t6a)))
  bif x31 then bad
  else(k1 (i64.wrap (t6a+((l.getD t23a.toNat ([]:Bs)).length:Int)),i64.wrap (t23a+(1:Int)))))
  else(x2 t6a)) N (0,0) kx=if l.flatten.length<=131072 then kx (l.flatten.length:Int)else bad:=by
 refine Ey (Aq1 (S:= {n:Nat // n<=131072}) (λi s=>((s.1:Int),i)) l ([]:Bs) (λe s k=>if h:s.1+e.length<=131072 then k ⟨s.1+e.length,h⟩else bad) (λs=>(λn:Nat=>kx (n:Int)) s.1) ?_ ?_ N ⟨0,by omega⟩ hN) ?_
 .intro i s k hi;have hs:=s.2;show(bif decide ((i:Int)<(l.length:Int))then _ else _)=_;simp only[Xa,qI,Int.toNat_natCast];all_goals grind[w64]
 .simp_all[Xa,Bs,Jy,U2]
 .refine(AvJ bad (λn:Nat=>kx (n:Int)) l ⟨0,by omega⟩).trans ?_;dsimp only;rw[DV]
def Vl (N t:Nat) (l:List Bs) (ht:t<256) (h31:t % 32≠31) (hN:l.length<N:=by omega) (hl:l.length<=1099511627776:=by omega):Kz N (t:Int) l=some ((KR t l.flatten).getD [],if(KR t l.flatten).isNone then 6 else 0):=by
 unfold Kz;try simp -zeta only[Ap]
 simp only[AeY,AbN,AbO,AoB,Ala,AeM,Ap3 t ht];rw[show(decide ((t:Int)<0)||decide ((t:Int)>255)||((t % 32:Nat):Int)==31)=false by simp;omega,cond_false];refine Ey (AvE N l hN hl _ _) ?_;unfold KR;by_cases h:l.flatten.length<=131072
 .rw[Du h,Du h,OW];refine Ey (head_eq t l.flatten.length ht (λl1:List Int=>Vm.chk (List.all l1 isByte)<|Jq (strings_Join N l ([]:Bs)) λr81=>Vm.chk (decide ((List.map Vm.byteOf l1).length+r81.length<=140737488355328))<|some ((List.map Vm.byteOf l1)++r81,(0:Int))) (λh=>some (h++l.flatten,0)) (λl' hl' hl5=> ?_)) rfl;rw[hl',Ju];unfold strings_Join;rw[Ai4,Dk (show l.length<=140737488355328 by omega),Dk (show l.flatten.length<=140737488355328 by omega)];show Vm.chk (decide ((List.map Vm.byteOf l').length+l.flatten.length<=140737488355328)) _=_;all_goals grind[qI]
 .rw[Dt h,Dt h];rfl
def xU (N t:Nat) (l:List Bs) (ht:t<256) (h31:t % 32≠31) (hN:l.length<N) (hl:l.length<=1099511627776) (hs:l.flatten.length<=140737488355328):YI N (t:Int) l=some ((KR t l.flatten).getD [],if(KR t l.flatten).isNone then 6 else 0):=by
 unfold YI;try simp -zeta only[Ap]
 simp only[AeY,AbN,AbO,AoB,Ala,AeM];rw[show(decide ((t:Int)<0)||decide ((t:Int)>255)||(t:Int).tmod 32==31)=false by rw[Fh (by omega)];simp;omega,cond_false];refine Ey (Nc (λx=> ∃ i,i<=l.length/\x=((l.take i).flatten,(i:Int))) (λx=>l.length - x.2.toNat) (λ_=>some ((KR t l.flatten).getD [],if(KR t l.flatten).isNone then 6 else 0)) ?_ N _ ⟨0,by omega,rfl⟩ (by show l.length - 0<N;omega)) rfl;rintro x ⟨i,hi,rfl⟩ k hk;show(bif decide ((i:Int)<(l.length:Int))then _ else _)=_;by_cases h:i<l.length
 .simp only[Xa,qI,Int.toNat_natCast];have e:(l.take i).flatten++l.getD i []=(l.take (i+1)).flatten:=by all_goals grind[take_snoc]
  have hle:(l.take (i+1)).flatten.length<=l.flatten.length:=by
   conv=>rhs;rw[<- G6 (i+1) l,FX,Dp]
   omega
  have e2:(l.take i).flatten.length+(l.getD i []).length<=140737488355328:=by rw[<- Dp,e];omega
  rw[A0h,A0h,A0h,Du e2,e,w64];exact hk _ ⟨i+1,h,rfl⟩ (by show l.length - ((i:Int)+1).toNat<l.length - (i:Int).toNat;omega)
 .have hil:i=l.length:=by omega
  subst hil;rw[Xa,A0g];dsimp only;rw[E5];unfold KR;by_cases h:l.flatten.length<=131072
  .rw[Du h,Xa,A0g,OW];have:=head_eq t l.flatten.length ht (λl':List Int=>Vm.chk (List.all l' isByte)<|Vm.chk (decide ((List.map Vm.byteOf l').length+l.flatten.length<=140737488355328))<|some ((List.map Vm.byteOf l')++l.flatten,(0:Int))) (λh=>some (h++l.flatten,0)) (λl' hl' hl5=>by rw[hl',Ju,qI,Du (by rw[D5];omega)]);refine Ey ?_ this;simp only[Xa];by_cases h1:l.flatten.length<128
   .rw[A0g,A0g,A0g,A0h]
   .by_cases h2:l.flatten.length<256
    .rw[A0g,A0g,A0h,A0g,A0h]
    .by_cases h3:l.flatten.length<65536
     .rw[A0g,A0h,A0g,A0g,A0h]
     .rw[A0h,A0g,A0g,A0g]
  .rw[Dt h,Xa,A0h];rfl
def aO (N t:Nat) (l:List Bs) (ht:t<256) (h31:t % 32≠31) (hN:l.length<N) (hl:l.length<=1099511627776) (hs:l.flatten.length<=140737488355328):LU N (t:Int) l=some ((KR t l.flatten).getD [],if(KR t l.flatten).isNone then 2 else 0):=by unfold LU;rw[xU N t l ht h31 hN hl hs,Js];cases KR t l.flatten<;>rfl
def TD (N:Nat) (b:Bool) (s:Bs) (e:Int):Kq N b s e=some (s,b||decide (e≠0)):=by
 unfold Kq;try simp -zeta only[Ap]
 cases b<;>simp [Vm.chk,bne,BEq.beq,decide_not]
def Ag6 (N t:Nat) (b:Bool) (l:List Bs) (ht:t<256) (h31:t % 32≠31) (hN:l.length<N) (hl:l.length<=1099511627776):JA N b (t:Int) l=some ((KR t l.flatten).getD [],b||(KR t l.flatten).isNone):=by unfold JA;rw[Vl N t l ht h31 hN hl,Js,TD,Js];cases KR t l.flatten<;>simp
def ArK (N:Nat) (b:Bool) (l:List Bs) (hN:l.length<N) (hl:l.length<=1099511627776):JR N b l=some ((KR 48 l.flatten).getD [],b||(KR 48 l.flatten).isNone):=by unfold JR;rw[show(48:Int)=((48:Nat):Int)from rfl,Ag6 N 48 b l (by omega) (by omega) hN hl,Js]
abbrev El:=Int×Bs×Bs
def AbX (M:Nat) (e:El):Prop:= ∃ t:Bs,Sp.err t=0/\e=Tu t/\t.length<=M
structure Good (M:Nat) (l:List El):Prop where
 len:l.length<=M
 all: ∀ e∈l,AbX M e
 Ayn:(l.map (·.2.2)).flatten.length<=M
def AbX.mono {M K:Nat} {e:El} (h:AbX M e) (hk:M<=K):AbX K e:=by obtain⟨t,h1,h2,h3⟩:=h;exact⟨t,h1,h2,by omega⟩
def AbX.content {M:Nat} {e:El} (h:AbX M e):e.2.1.length+2<=e.2.2.length/\e.2.2.length<=M/\0<=e.1/\e.1<256:=by obtain⟨t,h1,rfl,h3⟩:=h;have:=Sp.Agi t h1;have hr:=Sp.Arh t h1;have hc:=Sp.AgP t h1;have ht:=AbG t;show(Sp.content t).length+2<=(Sp.raw t).length/\(Sp.raw t).length<=M/\0<=((Sp.tag t:Nat):Int)/\((Sp.tag t:Nat):Int)<256;omega
def Good.mono {M K:Nat} {l:List El} (h:Good M l) (hk:M<=K):Good K l:=⟨by have:=h.len;omega,λe he=>(h.all e he).mono hk,by have:=h.Ayn;omega⟩
def Good.tail {M:Nat} {e:El} {l:List El} (h:Good M (e::l)):Good M l:=⟨by have:=h.len;simp at this;omega,λe he=>h.all e (Dz _ he),by have:=h.Ayn;rw[Em,List.flatten_cons,Dp]at this;omega⟩
def LZ (s:Bs):Bool:=(Nv s).isSome
def LG (s:Bs):Prop:=s.length<=1048576
def VP (N:Nat) (s:Bs) (hN:1048578<N) (hs:LG s):Pj N s=some (LZ s):=(gX N s (by omega) hs (by unfold LG at hs;omega)).1
def WY (N:Nat) (s:Bs) (hN:1048578<N) (hs:LG s):LM N s=some (LZ s):=(gX N s (by omega) hs (by unfold LG at hs;omega)).2
def AgD (a b:Bs):(a==b)=(b==a):=Jb
def idI (l:List Bs) (i:Nat):Int:=bif !LZ (l.getD i [])then 11 else bif (l.take i).any (λx=>x==l.getD i [])then 10 else 0
def o5 (l:List Bs) (m:Int):Int:=bif decide ((l.length:Int)>m)then 2 else Kw (idI l) (List.range l.length)
def AcY (N:Nat) (l:List Bs) (m:Int) (hN:1048578<N) (hl:l.length<=1048576) (hs: ∀ s∈l,LG s):QY N l m=some (o5 l m):=by
 unfold QY o5;try simp -zeta only[Ap]
 cases decide ((l.length:Int)>m)with
 | true=>rfl
 | false =>
  rw[cond_false,cond_false];refine(Ut (mk:=λi=>(i:Int)) l.length (idI l) some (some 0) ?_ ?_ N).trans (first_some _)
  .intro i hi k;have hv:=VP N _ hN (hs _ (getD_mem [] hi));unfold idI;simp (disch:=omega) only[JD,hv,VD];cases LZ (l.getD i [])with
   | false=>rfl
   | true =>
    rw[ED,cond_false,cond_false];refine(QR (mk:=λj=>(j:Int)) (l.take i) [] (λx=>x==l.getD i []) (some 10) (k ((i+1:Nat):Int)) ?_ ?_ N (by rw[D9];omega)).trans ?_
    .intro j hj k;have hlt:(l.take i).length=i:=by rw[D9];omega
     have hj2:j<i:=by omega
     simp (disch:=omega) only[JD,hlt,JW];rw[AgD]
    .intro k;have hlt:(l.take i).length=i:=by rw[D9];omega
     simp (disch:=omega) only[JD,hlt,JW]
    .cases (l.take i).any (λx=>x==l.getD i [])<;>rfl
  .intro k;simp (disch:=omega) only[JD]
def Aaa (N:Nat) (l:List Bs) (m:Int) (hN:1048578<N) (hl:l.length<=1048576) (hs: ∀ s∈l,LG s):SG N l m=some (o5 l m):=by
 unfold SG o5;try simp -zeta only[Ap]
 cases decide ((l.length:Int)>m)with
 | true=>rfl
 | false =>
  rw[cond_false,cond_false];refine(Ut (mk:=λi=>(i:Int)) l.length (idI l) some (some 0) ?_ ?_ N).trans (first_some _)
  .intro i hi k;have hv:=WY N _ hN (hs _ (getD_mem [] hi));unfold idI;simp (disch:=omega) only[JD,hv,VD];cases LZ (l.getD i [])with
   | false=>rfl
   | true =>
    rw[ED,cond_false,cond_false];refine(QR (mk:=λj=>(j:Int)) (l.take i) [] (λx=>x==l.getD i []) (some 10) (k ((i+1:Nat):Int)) ?_ ?_ N (by rw[D9];omega)).trans ?_
    .intro j hj k;have hlt:(l.take i).length=i:=by rw[D9];omega
     have hj2:j<i:=by omega
     simp (disch:=omega) only[JD,hlt,JW,AiT]
    .intro k;have hlt:(l.take i).length=i:=by rw[D9];omega
     simp (disch:=omega) only[JD,hlt,JW]
    .cases (l.take i).any (λx=>x==l.getD i [])<;>rfl
  .intro k;simp (disch:=omega) only[JD]
def mpI (l:List (Bs×Bs)) (i:Nat):Int:=bif !LZ (l.getD i ([],[])).1|| !LZ (l.getD i ([],[])).2 then 11 else bif (l.take i).any (λx=>x.1==(l.getD i ([],[])).1&&x.2==(l.getD i ([],[])).2)then 10 else 0
def AaN (l:List (Bs×Bs)):Int:=bif decide (8<l.length)then 2 else Kw (mpI l) (List.range l.length)
def sD (m:Bs×Bs):Prop:=LG m.1/\LG m.2
def AdF (N:Nat) (l:List (Bs×Bs)) (hN:1048578<N) (hs: ∀ s∈l,sD s):Ql N l=some (AaN l):=by
 unfold Ql AaN;try simp only[clR]
 rw[show decide (((l.length:Nat):Int)>8)=decide (8<l.length)from Nb _ 8];by_cases h8:8<l.length
 .rw[Dk h8];rfl
 .rw[Dq h8,cond_false,cond_false];refine(Ut (mk:=λi=>(i:Int)) l.length (mpI l) some (some 0) ?_ ?_ N).trans (first_some _)
  .intro i hi k;have hm:=hs _ (getD_mem ([],[]) hi);have hv1:=VP N _ hN hm.1;have hv2:=VP N _ hN hm.2;unfold mpI;simp (disch:=omega) only[JD,hv1,hv2,VD,Option.isSome_some,Option.getD_some];cases (!LZ (l.getD i ([],[])).1|| !LZ (l.getD i ([],[])).2)with
   | true=>rfl
   | false =>
    rw[cond_false,cond_false];refine(QR (mk:=λj=>((j:Int),(l.getD i ([],[])).1,(l.getD i ([],[])).2)) (l.take i) ([],[]) (λx=>x.1==(l.getD i ([],[])).1&&x.2==(l.getD i ([],[])).2) (some 10) (k ((i+1:Nat):Int)) ?_ ?_ N (by rw[D9];omega)).trans ?_
    .intro j hj k;have hlt:(l.take i).length=i:=by rw[D9];omega
     have hj2:j<i:=by omega
     simp (disch:=omega) only[JD,hlt,JW];rw[AgD,AgD (l.getD i ([],[])).2]
    .intro k;have hlt:(l.take i).length=i:=by rw[D9];omega
     simp (disch:=omega) only[JD,hlt,JW]
    .cases (l.take i).any (λx=>x.1==(l.getD i ([],[])).1&&x.2==(l.getD i ([],[])).2)<;>rfl
  .intro k;simp (disch:=omega) only[JD]
def wM (N:Nat) (l:List (Bs×Bs)) (hN:1048578<N) (hs: ∀ s∈l,sD s):RD N l=some (AaN l):=by
 unfold RD AaN;try simp only[clR]
 rw[show decide (((l.length:Nat):Int)>8)=decide (8<l.length)from Nb _ 8];by_cases h8:8<l.length
 .rw[Dk h8];rfl
 .rw[Dq h8,cond_false,cond_false];refine(Ut (mk:=λi=>(i:Int)) l.length (mpI l) some (some 0) ?_ ?_ N).trans (first_some _)
  .intro i hi k;have hm:=hs _ (getD_mem ([],[]) hi);have hv1:=WY N _ hN hm.1;have hv2:=WY N _ hN hm.2;unfold mpI;simp (disch:=omega) only[JD,hv1,hv2,VD,Option.isSome_some,Option.getD_some];cases (!LZ (l.getD i ([],[])).1|| !LZ (l.getD i ([],[])).2)with
   | true=>rfl
   | false =>
    rw[cond_false,cond_false];refine(QR (mk:=λj=>((j:Int),(l.getD i ([],[])).1,(l.getD i ([],[])).2)) (l.take i) ([],[]) (λx=>x.1==(l.getD i ([],[])).1&&x.2==(l.getD i ([],[])).2) (some 10) (k ((i+1:Nat):Int)) ?_ ?_ N (by rw[D9];omega)).trans ?_
    .intro j hj k;have hlt:(l.take i).length=i:=by rw[D9];omega
     have hj2:j<i:=by omega
     simp (disch:=omega) only[JD,hlt,JW,AiT]
    .intro k;have hlt:(l.take i).length=i:=by rw[D9];omega
     simp (disch:=omega) only[JD,hlt,JW]
    .cases (l.take i).any (λx=>x.1==(l.getD i ([],[])).1&&x.2==(l.getD i ([],[])).2)<;>rfl
  .intro k;simp (disch:=omega) only[JD]
abbrev Ex:Type:=Bs×Bool×Bs
abbrev Rw:Type:=Bs×Int×Nat×Nat×Nat
def V7:List Rw:=(PZ 0).getD []
def Ahm:List Bs:=(aG 0).getD []
def bI (s:Bs):Bool:=Ahm.any (λx=>x==s)
def Avx:V7.map (·.1)=Ahm:=by decide +kernel
def Ae2:V7.length=13:=by decide +kernel
def AwR:Ahm.length=13:=by decide +kernel
def find_eq (N:Nat) (s:Bs) (hN:1048578<N): ∃ r,Yj N s=some (r,bI s):=by
 unfold Yj;try simp -zeta only[Ap]
 rw[show PZ N=some V7 from rfl,Js];have hl:=Ae2;refine⟨_,(QM (S:=Unit) (R:=Rw) (mk:=λi _=>(i:Int)) V7 ([],0,0,0,0) (λr _=>bif r.1==s then .inl r else .inr ()) (λr=>some (r,true)) (λ_=>some (([],0,0,0,0),false)) ?_ ?_ N ()).trans (?_:_=some ((Pn (fun(r:Rw) (_:Unit)=>bif r.1==s then Sum.inl r else Sum.inr ()) V7 ()).elim id (λ_=>([],0,0,0,0)),bI s))⟩
 .intro i _ hi k;simp (disch:=omega) only[JD,JW]
 .intro _ k;simp (disch:=omega) only[JD]
 .unfold bI;rw[<- Avx];generalize V7=l
  induction l with
  | nil=>rfl
  | cons r t ih =>
   rw[NG,Em,List.any_cons];cases r.1==s with
   | true=>rfl
   | false=>exact ih
def Aua (N:Nat) (s:Bs) (hN:1048578<N):aF N s=some (bI s):=by
 unfold aF;try simp -zeta only[Ap]
 rw[show aG N=some Ahm from rfl,Js];have hl:=AwR;refine(QR (mk:=λi=>(i:Int)) Ahm [] (λx=>x==s) (some true) (some false) ?_ ?_ N).trans ?_
 .intro i hi k;simp (disch:=omega) only[JD,JW]
 .intro k;simp (disch:=omega) only[JD]
 .unfold bI;cases Ahm.any (λx=>x==s)<;>rfl
def Ao4 (N:Nat) (l:List Ex) (s:Bs) (hN:l.length<N) (hl:l.length<=1048576): ∃ r,WC N l s=some (r,l.any (λx=>x.1==s)):=by
 unfold WC;try simp -zeta only[Ap]
 refine⟨_,(QM (S:=Unit) (R:=Ex) (mk:=λi _=>(i:Int)) l ([],false,[]) (λr _=>bif r.1==s then .inl r else .inr ()) (λr=>some (r,true)) (λ_=>some (([],false,[]),false)) ?_ ?_ N ()).trans (?_:_=some ((Pn (fun(r:Ex) (_:Unit)=>bif r.1==s then Sum.inl r else Sum.inr ()) l ()).elim id (λ_=>([],false,[])),l.any (λx=>x.1==s)))⟩
 .intro i _ hi k;simp (disch:=omega) only[JD,JW]
 .intro _ k;simp (disch:=omega) only[JD]
 .clear hN hl
  induction l with
  | nil=>rfl
  | cons r t ih =>
   rw[NG,List.any_cons];cases r.1==s with
   | true=>rfl
   | false=>exact ih
def unI (l:List Ex) (i:Nat):Int:=bif !LZ (l.getD i ([],false,[])).1 then 11 else bif bI (l.getD i ([],false,[])).1 then 20 else bif (l.take i).any (λx=>x.1==(l.getD i ([],false,[])).1)then 10 else Sp.chk (l.getD i ([],false,[])).2.2
def Ani (l:List Ex):Int:=Kw (unI l) (List.range l.length)
def Uc (x:Ex):Prop:=LG x.1/\LG x.2.2
def AeX (N:Nat) (l:List Ex) (hN:1048578<N) (hl:l.length<=1048576) (hs: ∀ x∈l,Uc x):OE N l=some (Ani l):=by
 unfold OE Ani;try simp only[clR]
 refine(Ut (mk:=λi=>(i:Int)) l.length (unI l) some (some 0) ?_ ?_ N).trans (first_some _)
 .intro i hi k;have hm:=hs _ (getD_mem ([],false,[]) hi);have hv:=VP N _ hN hm.1;obtain⟨r,hf⟩:=find_eq N (l.getD i ([],false,[])).1 hN;have hc:=AbH N (l.getD i ([],false,[])).2.2 (by omega) (by have:=hm.2;unfold LG at this;omega) (by have:=hm.2;unfold LG at this;omega);unfold unI;simp (disch:=omega) only[JD,hv,hf,VD];cases LZ (l.getD i ([],false,[])).1 with
  | false=>rfl
  | true =>
   rw[ED,cond_false,cond_false];cases bI (l.getD i ([],false,[])).1 with
   | true=>rfl
   | false =>
    rw[cond_false,cond_false];refine(QR (mk:=λj=>((j:Int),(l.getD i ([],false,[])).1,(l.getD i ([],false,[])).2.1,(l.getD i ([],false,[])).2.2)) (l.take i) ([],false,[]) (λx=>x.1==(l.getD i ([],false,[])).1) (some 10) (bif Sp.chk (l.getD i ([],false,[])).2.2 != 0 then some (Sp.chk (l.getD i ([],false,[])).2.2)else k ((i+1:Nat):Int)) ?_ ?_ N (by rw[D9];omega)).trans ?_
    .intro j hj k;have hlt:(l.take i).length=i:=by rw[D9];omega
     have hj2:j<i:=by omega
     simp (disch:=omega) only[JD,hlt,JW]
    .intro k;have hlt:(l.take i).length=i:=by rw[D9];omega
     simp (disch:=omega) only[JD,hlt,hc,JW]
    .cases (l.take i).any (λx=>x.1==(l.getD i ([],false,[])).1)<;>rfl
 .intro k;simp (disch:=omega) only[JD]
def Aiq {X Y ρ :Type} {B:X->(X->Option ρ)->(Y->Option ρ)->Option ρ} {kx:Y->Option ρ} (mk:Nat->Int->X) (l:List Bool) (fin:Int->Option ρ) (s0:Nat) (hs0:s0+l.length<=1099511627776)
 (h: ∀(i:Nat) (s:Int),i<l.length->0<=s->s<=1099511627776-> ∀ k,B (mk i s) k kx=bif l.getD i false then k (mk (i+1) (s+1))else k (mk (i+1) s))
 (hend: ∀(s:Int) (k:X->Option ρ),B (mk l.length s) k kx=fin s) (N:Nat) (hN:l.length<N):Jy B N (mk 0 (s0:Int)) kx=fin ((s0+l.count true:Nat):Int):=by
 refine(Uj (S:=Nat) (R:=Unit) (mk:=λi s=>mk i (s:Int)) l false (λi s=>s<=s0+i) (λb s=>.inr (bif b then s+1 else s)) (λ_=>none) (λs=>fin (s:Int)) ?_ ?_ (λs k _=>hend s k) N s0 (DD _) hN).trans ?_
 .intro i s hi hI k;rw[h i s hi (by omega) (by omega)];cases l.getD i false<;>rfl
 .intro i s s' hi hI he;injection he with he;subst he;cases l.getD i false
  .show s<=_;omega
  .show s+1<=_;omega
 .have: ∀(l:List Bool) (s:Nat),Pn (R:=Unit) (λb (s:Nat)=>.inr (bif b then s+1 else s)) l s= .inr (s+l.count true):=by
   intro l
   induction l with
   | nil=>intro s;rfl
   | cons b r ih =>
    intro s;rw[NG];show Pn (R:=Unit) _ r _=_;rw[ih];cases b with
    | true=>rw[List.count_cons_self];congr 1;show s+1+_=_;omega
    | false=>rw[List.count_cons_of_ne (by decide)];rfl
  rw[this];rfl
abbrev Info:Type:=Bool×Bool×Int×Int×List Bs×List Bs×List (Bs×Bs)×Int×Int×Int×List Gn×Bool×List Gn×List Gn×Bs×Bs×List Pt×List Pt×List Ex
def spI (n:Int):Bool:=decide (n>= -1)&&decide (n<=64)
def uQ:Info->List Bool
 | (hb,_,_,us,pu,po,ma,re,im,ia,na,hc,_,_,sk,ak,pt,fr,_)=>[hb,us != 0,decide (((pu.length:Nat):Int)>0),decide (((po.length:Nat):Int)>0),decide (((ma.length:Nat):Int)>0),re != -1||im != -1,ia != -1,decide (((na.length:Nat):Int)>0),hc,!(sk==[]),!(ak==[]),decide (((pt.length:Nat):Int)>0),decide (((fr.length:Nat):Int)>0)]
def uD (hc:Bool) (s:St2):Int:=bif hc then ZH s else bif !s.1.isEmpty|| !s.2.isEmpty then 7 else 0
def RJ (l:List Pt):Int:=bif decide (4<l.length)then 2 else Kw ptI l
def Qp:Info->Int
 | (hb,ca,pl,us,pu,po,ma,re,im,ia,na,hc,pe,ex,sk,ak,pt,fr,un) =>
  bif (ca&& !hb)||(pl != -1&& !ca)then 7
  else bif !spI pl|| !spI re|| !spI im|| !spI ia||decide (us<0)||decide (us>511)then 1
  else bif o5 pu 8 != 0 then o5 pu 8
  else bif o5 po 8 != 0 then o5 po 8
  else bif AaN ma != 0 then AaN ma
  else bif decide (16<na.length)then 2
  else bif Py na false != 0 then Py na false
  else bif uD hc (pe,ex) != 0 then uD hc (pe,ex)
  else bif decide (32<sk.length)||decide (32<ak.length)then 2
  else bif RJ pt != 0 then RJ pt
  else bif RJ fr != 0 then RJ fr
  else bif decide (24<un.length+(uQ (hb,ca,pl,us,pu,po,ma,re,im,ia,na,hc,pe,ex,sk,ak,pt,fr,un)).count true)then 2
  else Ani un
structure PX (x:Info):Prop where
 pu:x.2.2.2.2.1.length<=1048576/\ ∀ s∈x.2.2.2.2.1,LG s
 po:x.2.2.2.2.2.1.length<=1048576/\ ∀ s∈x.2.2.2.2.2.1,LG s
 ma: ∀ s∈x.2.2.2.2.2.2.1,sD s
 na:Lh x.2.2.2.2.2.2.2.2.2.2.1
 pe:Lh x.2.2.2.2.2.2.2.2.2.2.2.2.1
 ex:Lh x.2.2.2.2.2.2.2.2.2.2.2.2.2.1
 pt: ∀ p∈x.2.2.2.2.2.2.2.2.2.2.2.2.2.2.2.2.1,Qw p
 fr: ∀ p∈x.2.2.2.2.2.2.2.2.2.2.2.2.2.2.2.2.2.1,Qw p
 un:x.2.2.2.2.2.2.2.2.2.2.2.2.2.2.2.2.2.2.length<=1048576/\ ∀ p∈x.2.2.2.2.2.2.2.2.2.2.2.2.2.2.2.2.2.2,Uc p
def yH (N:Nat) (x:Info) (hN:1048578<N) (hx:PX x):OD N x=some (uD x.2.2.2.2.2.2.2.2.2.2.2.1 (x.2.2.2.2.2.2.2.2.2.2.2.2.1,x.2.2.2.2.2.2.2.2.2.2.2.2.2.1)):=by
 unfold OD;try simp only[clR]
 unfold uD;rw[kP N (x.2.2.2.2.2.2.2.2.2.2.2.2.1,x.2.2.2.2.2.2.2.2.2.2.2.2.2.1) hN hx.pe hx.ex,Js,Y3,Y3,JX,JX]
def Aln (N:Nat) (x:Info) (i:Nat) (hi:i<13):AbR N (V7.getD i ([],0,0,0,0)).2.2.1 x=some ((uQ x).getD i false):=by
 obtain⟨hb,ca,pl,us,pu,po,ma,re,im,ia,na,hc,pe,ex,sk,ak,pt,fr,un⟩:=x;have:i=0\/i=1\/i=2\/i=3\/i=4\/i=5\/i=6\/i=7\/i=8\/i=9\/i=10\/i=11\/i=12:=by omega
 rcases this with rfl | rfl | rfl | rfl | rfl | rfl | rfl | rfl | rfl | rfl | rfl | rfl | rfl;all_goals first | rfl | skip
 show TK N _=_;unfold TK;try simp only[clR]
 rfl
def Axp (N:Nat) (n:Int):Oa N n=some (spI n):=by
 unfold Oa;try simp only[clR]
 rfl
def Axo (N:Nat) (n:Int):PV N n=some (spI n):=by
 unfold PV;try simp only[clR]
 rfl
def iT (N:Nat) (x:Info) (hN:1048578<N) (hx:PX x):RP N x=some (Qp x):=by
 have hcon:=yH N x hN hx;have hdisp:=Aln N x;have hlen13:(uQ x).length=13:=rfl;have hrl:=Ae2;obtain⟨hb,ca,pl,us,pu,po,ma,re,im,ia,na,hc,pe,ex,sk,ak,pt,fr,un⟩:=x;have e1:=AcY N pu 8 hN hx.pu.1 hx.pu.2;have e2:=AcY N po 8 hN hx.po.1 hx.po.2;have e3:=AdF N ma hN hx.ma;have e4:Md N pt=some (RJ pt):=SX N pt hN hx.pt;have e5:Md N fr=some (RJ fr):=SX N fr hN hx.fr;have hun:un.length<=1048576:=hx.un.1;unfold RP Qp;try simp only[clR]
 simp only[Axp,e1,e2,e3,e4,e5,hcon,Option.isSome_some,Option.getD_some,DZ,Ju,Js,Awt];rw[<- JX];refine KN λh1=> ?_;rw[<- JX];refine KN λh2=> ?_;rw[<- JX];refine KN λh3=> ?_;rw[<- JX];refine KN λh4=> ?_;rw[<- JX];refine KN λh5=> ?_;rw[show decide (((na.length:Nat):Int)>16)=decide (16<na.length)from Nb _ 16];rw[<- JX];refine KN λh6=> ?_;rw[XI N na hN (by have:=E8 h6;omega) hx.na,Js];rw[<- JX];refine KN λh7=> ?_;rw[<- JX];refine KN λh8=> ?_;rw[show decide (((sk.length:Nat):Int)>32)=decide (32<sk.length)from Nb _ 32,show decide (((ak.length:Nat):Int)>32)=decide (32<ak.length)from Nb _ 32];rw[<- JX];refine KN λh9=> ?_;rw[<- JX];refine KN λh10=> ?_;rw[<- JX];refine KN λh11=> ?_;rw[show PZ N=some V7 from rfl,Js];refine(Aiq (mk:=λi s=>(s,(i:Int),hb,ca,pl,us,pu,po,ma,re,im,ia,na,hc,pe,ex,sk,ak,pt,fr,un)) (uQ (hb,ca,pl,us,pu,po,ma,re,im,ia,na,hc,pe,ex,sk,ak,pt,fr,un)) (λs=>bif decide (s>24)then some 2 else Jq (OE N un) λr=>some r) un.length (by omega) ?_ ?_ N (by omega)).trans ?_
 .intro i s hi h0 h1 k;have hd:=hdisp i (by omega);dsimp only[U21];simp (disch:=omega) only[JD,hd,JW]
 .intro s k;dsimp only[U21];simp (disch:=omega) only[JD,hlen13,hrl];rfl
 .rw[AeX N un hN hun hx.un.2,Js,show ∀ n:Nat,decide ((n:Int)>24)=decide (24<n)from λn=>Nb n 24,JX]
def Ahj:Info->List Bool
 | (B,_,_,F,G,H,I,J,M,O,P,hc,_,_,T,U,V,W,_)=>[B,F != 0,decide (((G.length:Nat):Int)>0),decide (((H.length:Nat):Int)>0),decide (((I.length:Nat):Int)>0),decide (J>=0)||decide (M>=0),decide (O>=0),decide (((P.length:Nat):Int)>0),hc,!(T==[]),!(U==[]),decide (((V.length:Nat):Int)>0),decide (((W.length:Nat):Int)>0)]
def At9 {n:Int} (h:spI n=true): -1<=n/\n<=64:=by unfold spI at h;rw[Dw,D6,D6]at h;exact⟨h.1,h.2⟩
def fM {n:Int} (h:spI n=true):decide (n>=0)=(n != -1):=by
 have:=At9 h;by_cases hn:n= -1
 .subst hn;rfl
 .rw[Dk,show(n != -1)=true from EM.2 hn]
def AtY (N:Nat) (x:Info) (hN:1048578<N) (hun:x.2.2.2.2.2.2.2.2.2.2.2.2.2.2.2.2.2.2.length<=1048576):Xh N x=some ((x.2.2.2.2.2.2.2.2.2.2.2.2.2.2.2.2.2.2.length+(Ahj x).count true:Nat):Int):=by
 have hlen13:(Ahj x).length=13:=rfl;obtain⟨B,C,D,F,G,H,I,J,M,O,P,hc,Q,S,T,U,V,W,X⟩:=x;unfold Xh;try simp only[clR]
 have hun:X.length<=1048576:=hun;refine(Aiq (mk:=λi s=>(s,(i:Int),Ahj (B,C,D,F,G,H,I,J,M,O,P,hc,Q,S,T,U,V,W,X))) (Ahj (B,C,D,F,G,H,I,J,M,O,P,hc,Q,S,T,U,V,W,X)) some X.length (by omega) ?_ ?_ N (by omega)).trans rfl
 .intro i s hi h0 h1 k;simp (disch:=omega) only[JD,hlen13,JW]
 .intro s k;simp (disch:=omega) only[JD,hlen13]
def zA (N:Nat) (x:Info) (hN:1048578<N) (hx:PX x):Qu N x=some (Qp x):=by
 have hcnt:=AtY N x hN hx.un.1;have hsub:=iK N (x.2.2.2.2.2.2.2.2.2.2.2.2.1,x.2.2.2.2.2.2.2.2.2.2.2.2.2.1) hN hx.pe hx.ex;obtain⟨B,C,D,F,G,H,I,J,M,O,P,hc,Q,S,T,U,V,W,X⟩:=x;have e1:=Aaa N G 8 hN hx.pu.1 hx.pu.2;have e2:=Aaa N H 8 hN hx.po.1 hx.po.2;have e3:=wM N I hN hx.ma;have e4:Na N V=some (RJ V):=UE N V hN hx.pt;have e5:Na N W=some (RJ W):=UE N W hN hx.fr;have e6:=Za N P hN hx.na;have hun:X.length<=1048576:=hx.un.1;unfold Qu Qp;try simp only[clR]
 simp only[Axo,e1,e2,e3,Option.isSome_some,Option.getD_some,DZ,Ju,Js,Awt];rw[<- JX];refine KN λh1=> ?_;rw[<- JX];refine KN λh2=> ?_;rw[<- JX];refine KN λh3=> ?_;rw[<- JX];refine KN λh4=> ?_;rw[<- JX];refine KN λh5=> ?_;have key:(Ahj (B,C,D,F,G,H,I,J,M,O,P,hc,Q,S,T,U,V,W,X))=uQ (B,C,D,F,G,H,I,J,M,O,P,hc,Q,S,T,U,V,W,X):=by simp only[Ff,Ic]at h2;obtain⟨⟨⟨⟨⟨g1,g2⟩,g3⟩,g4⟩,_⟩,_⟩:=h2;unfold Ahj uQ;dsimp only;rw[fM g2,fM g3,fM g4]
 rw[key]at hcnt;have hcnt:Xh N (B,C,D,F,G,H,I,J,M,O,P,hc,Q,S,T,U,V,W,X)=some ((X.length+(uQ (B,C,D,F,G,H,I,J,M,O,P,hc,Q,S,T,U,V,W,X)).count true:Nat):Int):=hcnt
 have merge: ∀(L:Option Int) (R:Int),L=some R->(bif (bif decide (16<P.length)then 2 else Py P false) != 0 then some (bif decide (16<P.length)then 2 else Py P false)else L)=some (bif decide (16<P.length)then 2 else bif Py P false != 0 then Py P false else R):=by
  intro L R h;rw[h];cases decide (16<P.length)with
  | true=>rfl
  | false=>rw[cond_false,cond_false,JX]
 rw[e6,Js];refine merge _ _ ?_;simp only[Ld]
 have con: ∀(K:Option Int) (R:Int),K=some R->(bif hc then Jq (Nk N (Q,S)) λr92=>bif r92 != 0 then some r92 else K else bif decide (((Q.length:Nat):Int)>0)||decide (((S.length:Nat):Int)>0)then some 7 else K)=some (bif uD hc (Q,S) != 0 then uD hc (Q,S)else R):=by
  intro K R h;have hsub:Nk N (Q,S)=some (ZH (Q,S)):=hsub;rw[h,hsub,Js,Y3,Y3];unfold uD;cases hc with
  | true=>rw[cond_true,cond_true,JX]
  | false =>rw[cond_false,cond_false];show(bif !Q.isEmpty|| !S.isEmpty then some (7:Int)else some R)=some (bif (bif !Q.isEmpty|| !S.isEmpty then(7:Int)else 0) != 0 then(bif !Q.isEmpty|| !S.isEmpty then(7:Int)else 0)else R);cases (!Q.isEmpty|| !S.isEmpty)<;>rfl
 refine con _ _ ?_;show(U19 _ (B,C,D,F,G,H,I,J,M,O,P,hc,Q,S,T,U,V,W,X))=_;dsimp only[U19];rw[show decide (((T.length:Nat):Int)>32)=decide (32<T.length)from Nb _ 32,show decide (((U.length:Nat):Int)>32)=decide (32<U.length)from Nb _ 32,e4,Js,e5,Js];rw[<- JX];refine KN λh9=> ?_;rw[<- JX];refine KN λh10=> ?_;rw[<- JX];refine KN λh11=> ?_;rw[hcnt,Js,show ∀ n:Nat,decide ((n:Int)>24)=decide (24<n)from λn=>Nb n 24];rw[<- JX];refine KN λh12=> ?_;unfold Ani;refine(Ut (mk:=λi=>((i:Int),B,C,D,F,G,H,I,J,M,O,P,hc,Q,S,T,U,V,W,X)) X.length (unI X) some (some 0) ?_ ?_ N).trans (first_some _)
 .intro i hi k;have hm:Uc (X.getD i ([],false,[])):=hx.un.2 _ (getD_mem ([],false,[]) hi);have hv:=WY N _ hN hm.1;have hk:=Aua N (X.getD i ([],false,[])).1 hN;obtain⟨r,hf⟩:=Ao4 N (X.take i) (X.getD i ([],false,[])).1 (by rw[D9];omega) (by rw[D9];omega);have hc:=rM N (X.getD i ([],false,[])).2.2 (by omega) (by have:=hm.2;unfold LG at this;omega) (by have:=hm.2;unfold LG at this;omega);unfold unI;dsimp only[U20];simp (disch:=omega) only[JD,hv,hk,VD,hf,hc,JW];cases LZ (X.getD i ([],false,[])).1<;>cases bI (X.getD i ([],false,[])).1<;>cases (X.take i).any (λx=>x.1==(X.getD i ([],false,[])).1)<;>rfl
 .intro k;dsimp only[U20];simp (disch:=omega) only[JD]
def xI {t:Nat} {c:Bs} (h:c.length<=131072):KR t c=some (Sp.elem t c):=by unfold KR;rw[Du h]
def ZI (N t:Nat) (l:List Bs) (ht:t<256) (h31:t % 32≠31) (hN:1048578<N) (hl:l.length<=1000) (hs:l.flatten.length<=131072):Kz N (t:Int) l=some (Sp.elem t l.flatten,0):=by rw[Vl N t l ht h31,xI hs];rfl
theorem RN (N t:Nat) (l:List Bs) (ht:t<256) (h31:t % 32≠31) (hN:1048578<N) (hl:l.length<=1000) (hs:l.flatten.length<=131072):JI N (t:Int) l=some (Sp.elem t l.flatten):=by unfold JI;rw[xU N t l ht h31 (by omega) (by omega) (by omega),Js,xI hs];rfl
def WX (N t:Nat) (b:Bool) (l:List Bs) (ht:t<256) (h31:t % 32≠31) (hN:1048578<N) (hl:l.length<=1000) (hs:l.flatten.length<=131072):JA N b (t:Int) l=some (Sp.elem t l.flatten,b):=by rw[Ag6 N t b l ht h31 (by omega) (by omega),xI hs];simp
theorem JL (a:Bs): [a].flatten=a:=by simp
def QG (a b:Bs): [a,b].flatten=a++b:=by simp
def flat3 (a b c:Bs): [a,b,c].flatten=a++(b++c):=by simp
def Nj (s:Bs):Bs:=(encR (Nv s)).1
def XT {s:Bs} (h:LZ s=true):encR (Nv s)=(Nj s,0)/\(Nj s).length<=60:=by
 unfold LZ at h;unfold Nj;cases ha:Nv s with
 | none=>rw[ha]at h;cases h
 | some l =>refine⟨rfl,?_⟩;obtain⟨h1,h2,h3,h4⟩:=fE ha;show((jK l).map UInt8.ofNat).length<=60;have hf:=(uO h1 h3 h4).1;have hs:(XD (40*l.getD 0 0+l.getD 1 0)).length<=5:=kL _ hf;have hr:=AuN XD 5 (l.drop 2) (λx hx=>kL x (by have:=h3 x (FT hx);omega));unfold jK;rw[D5,Dp];rw[DU]at hr;omega
def AeG (e:Att):Prop:=LZ e.1=true/\(e.2.1=12\/e.2.1=19\/e.2.1=22)/\e.2.2.length<=64
def AvK {k:Int} {v:Bs} (h:VZ k v=true):k=12\/k=19\/k=22:=by
 unfold VZ at h;by_cases h1:k=12
 .exact .inl h1
 .rw[Dt h1]at h;by_cases h2:k=19
  .exact .inr (.inl h2)
  .rw[Dt h2]at h;by_cases h3:k=22
   .exact .inr (.inr h3)
   .rw[Dt h3]at h;cases h
def Aw6 {e:Att} {s:List Att} (h:RF e s=0):AeG e/\VZ e.2.1 e.2.2=true/\e.2.2≠ []/\s.any (λx=>x.1==e.1)=false:=by
 unfold RF at h;by_cases h1:Nv e.1=none
 .rw[Du h1]at h;cases h
 .rw[Dt h1]at h;by_cases h2:e.2.2=[]\/VZ e.2.1 e.2.2=false
  .rw[Du h2]at h;cases h
  .rw[Dt h2]at h;by_cases h3:64<e.2.2.length
   .rw[Du h3]at h;cases h
   .rw[Dt h3]at h
    have ht:VZ e.2.1 e.2.2=true:=by
     cases hq:VZ e.2.1 e.2.2 with
     | true=>rfl
     | false=>exact absurd (Or.inr hq) h2
    refine⟨⟨?_,AvK ht,by omega⟩,ht,λhn=>h2 (Or.inl hn),?_⟩
    .unfold LZ;cases hq:Nv e.1 with
     | none=>exact absurd hq h1
     | some l=>rfl
    .cases hq:s.any (λx=>x.1==e.1)with
     | false=>rfl
     | true=>rw[hq,Du rfl]at h;cases h
def Am9 {r:List Att} (h:VT r=0):r≠ []/\r.length<=4/\ ∀ e∈r,AeG e:=by
 unfold VT at h;by_cases h1:r=[]
 .rw[Du h1]at h;cases h
 .rw[Dt h1]at h;by_cases h2:4<r.length
  .rw[Du h2]at h;cases h
  .rw[Dt h2]at h;refine⟨h1,by omega,?_⟩;unfold Am8 at h
   have: ∀(l s:List Att),(Ub Wh (λ_=>some (0:Int)) l s).getD 0=0-> ∀ e∈l,AeG e:=by
    intro l
    induction l with
    | nil=>intro s _ e he;cases he
    | cons x t ih =>
     intro s hs e he;unfold Ub Wh at hs;by_cases hx:RF x s=0
     .rw[Du hx]at hs;rcases D7.1 he with rfl | he
      .exact(Aw6 hx).1
      .exact ih _ hs e he
     .rw[Dt hx]at hs;exact absurd hs hx
   exact this r [] h
def Ael {n:List (List Att)} (h:Og n=0):n.length<=8/\ ∀ r∈n,VT r=0:=by
 unfold Og Y8 at h;by_cases h8:8<n.length
 .rw[Du h8]at h;cases h
 .rw[Dt h8]at h;refine⟨by omega,?_⟩
  have: ∀(l:List (List Att)) (s:Unit),(Ub YB (λ_=>some (0:Int)) l s).getD 0=0-> ∀ e∈l,VT e=0:=by
   intro l
   induction l with
   | nil=>intro s _ e he;cases he
   | cons x t ih =>
    intro s hs e he;unfold Ub YB at hs;by_cases hx:VT x=0
    .rw[Du hx]at hs;rcases D7.1 he with rfl | he
     .exact hx
     .exact ih _ hs e he
    .rw[Dt hx]at hs;exact absurd hs hx
  exact this n () h
def VA (e:Att):Bs:=Sp.elem 48 (Sp.elem 6 (Nj e.1)++Sp.elem e.2.1.toNat e.2.2)
def AkU {e:Att} (h:AeG e):(VA e).length<=139:=by
 have h1:=(XT h.1).2;have h2:=h.2.2;unfold VA;have:=Sp.JS 48 (Sp.elem 6 (Nj e.1)++Sp.elem e.2.1.toNat e.2.2);have:=Sp.JS 6 (Nj e.1);have:=Sp.JS e.2.1.toNat e.2.2;rw[Dp]at *
 omega
def ZE (r:List Att):Bs:=Sp.elem 49 (Rn (r.map VA))
def AaS (l:List Bs):(Rn l).length=l.flatten.length:=by unfold Rn;rw[Gs,Gs];exact((H9 l _).map _).sum_nat
def Aet {r:List Att} (h:VT r=0):(ZE r).length<=561/\(r.map VA).flatten.length<=556:=by obtain⟨_,h4,ha⟩:=Am9 h;have h1:=Lp (g:=VA) (M:=139) (l:=r) (λe he=>AkU (ha e he));have h2:=Sp.JS 49 (Rn (r.map VA));have h3:=AaS (r.map VA);unfold ZE;omega
def nmB (n:List (List Att)):Bs:=Sp.elem 48 (n.map ZE).flatten
def iG {n:List (List Att)} (h:Og n=0):(nmB n).length<=4493/\(n.map ZE).flatten.length<=4488:=by obtain⟨h8,hr⟩:=Ael h;have h1:=Lp (g:=ZE) (M:=561) (l:=n) (λe he=>(Aet (hr e he)).1);have h2:=Sp.JS 48 (n.map ZE).flatten;unfold nmB;omega
def AlX {k:Int} (h:k=12\/k=19\/k=22):k=(k.toNat:Int)/\k.toNat<256/\k.toNat % 32≠31:=by omega
def Aam (N:Nat) (e:Att) (hN:1048578<N) (hs:cZ e) (h:AeG e):Qn N e=some (VA e,0):=by obtain⟨o1,o2⟩:=XT h.1;obtain⟨k1,k2,k3⟩:=AlX h.2.1;have h64:=h.2.2;have l1:=Sp.JS 6 (Nj e.1);have l2:=Sp.JS e.2.1.toNat e.2.2;have w1:Kz N 6 [Nj e.1]=_:=ZI N 6 [Nj e.1] (by omega) (by omega) hN (by simp) (by rw[JL];omega);have w2:=ZI N e.2.1.toNat [e.2.2] k2 k3 hN (by simp) (by rw[JL];omega);have w3:Kz N 48 [Sp.elem 6 (Nj e.1),Sp.elem e.2.1.toNat e.2.2]=_:=ZI N 48 [Sp.elem 6 (Nj e.1),Sp.elem e.2.1.toNat e.2.2] (by omega) (by omega) hN (by simp) (by rw[QG,Dp];omega);rw[JL]at w1 w2;rw[QG]at w3;rw[<- k1]at w2;unfold Qn;rw[dN N e.1 (by omega) hs.1,o1];simp only[Js];rw[w1,Js,w2,Js,w3,Js];rfl
def AiQ {n:List (List Att)} (h:MG n) {i:Nat} (hi:i<n.length): ∀ e∈n.getD i [],cZ e:=λe he=>h _ (getD_mem [] hi) e he
def lS (N:Nat) (n:List (List Att)) (hN:1048578<N) (hs:MG n):TM N n=some (bif Og n != 0 then([],Og n)else(nmB n,0)):=by
 unfold TM;try simp only[clR]
 rw[Xn N n hN hs,Js,<- JX];refine KN λh0=> ?_;have h0:Og n=0:=by simpa using h0
 obtain⟨h8,hr⟩:=Ael h0;have hnl:=iG h0;refine(Tf (mk:=λi acc=>((i:Int),acc)) n [] ZE (λl=>Jq (Kz N 48 l) λr62=>some (r62.fst,r62.snd)) ?_ ?_ N).trans ?_
 .intro i acc hi hacc k;have hri:=hr _ (getD_mem [] hi);have hsi:=AiQ hs hi;obtain⟨r0,r4,ra⟩:=Am9 hri;have hrl:=Aet hri;have hpos:=FY.2 r0;dsimp only[U2];rw[Int.toNat_natCast];generalize n.getD i []=r at *
  simp (disch:=omega) only[JD];refine(Tf (mk:=λj a=>((j:Int),a,acc)) r ([],0,[]) VA (λl=>Jq (VY N l) λr48=>Jq (Kz N 49 [r48]) λr50=>bif r50.snd != 0 then some ([],r50.snd)else chk (decide ((acc.length+1)*17<=140737488355328)) (k ((i:Int)+1,acc++[r50.fst]))) ?_ ?_ N).trans ?_
  .intro j a hj ha k;have he:=Aam N _ hN (hsi _ (getD_mem ([],0,[]) hj)) (ra _ (getD_mem ([],0,[]) hj));simp (disch:=omega) only[JD,he,JW]
  .intro a k ha;simp (disch:=omega) only[JD]
  .have w:Kz N 49 [Rn (r.map VA)]=_:=ZI N 49 [Rn (r.map VA)] (by omega) (by omega) hN (by simp) (by rw[JL,AaS];omega);rw[JL]at w;unfold VY;rw[Ak8 (by rw[D5];omega),Oz (by rw[D5];omega),Oz];simp only[Gi,cond_true,Js];rw[w,Js];simp (disch:=omega) only[JD,JW];rfl
 .intro acc k ha;simp (disch:=omega) only[JD]
 .have w:Kz N 48 (n.map ZE)=_:=ZI N 48 (n.map ZE) (by omega) (by omega) hN (by rw[D5];omega) (by omega);rw[w,Js];rfl
def WE (N:Nat) (s:Bs) (hN:1048578<N) (hs:LG s) (h:LZ s=true):Qe N s=some (Sp.elem 6 (Nj s)):=by obtain⟨o1,o2⟩:=XT h;have w:JI N 6 [Nj s]=_:=RN N 6 [Nj s] (by omega) (by omega) hN (by simp) (by rw[JL];omega);rw[JL]at w;unfold Qe;unfold LG at hs;rw[Abc N s (by omega) hs (by omega),o1,Js,w,Js]
def xJ (N:Nat) (n:List (List Att)) (hN:1048578<N) (hs:MG n):Ru N n=some (bif Og n != 0 then([],Og n)else(nmB n,0)):=by
 unfold Ru;try simp only[clR]
 rw[ZM N n hN hs,Js,<- JX];refine KN λh0=> ?_;have h0:Og n=0:=by simpa using h0
 obtain⟨h8,hr⟩:=Ael h0;have hnl:=iG h0;refine(Zf (mk:=λi t=>(t,(i:Int))) n [] ZE (λt=>Jq (JI N 48 [t]) λr30=>some (r30,0)) ?_ ?_ N).trans ?_
 .intro i t hi ht k;have hri:=hr _ (getD_mem [] hi);have hsi:=AiQ hs hi;obtain⟨r0,r4,ra⟩:=Am9 hri;have hrl:=Aet hri
  have hat:UC N (n.getD i [])=some ((n.getD i []).map VA):=by
   generalize n.getD i []=r at *
   unfold UC;try simp only[clR]
   refine(Tf (mk:=λj a=>((j:Int),a)) r ([],0,[]) VA some ?_ ?_ N).trans rfl
   .intro j a hj ha k;have hm:=ra _ (getD_mem ([],0,[]) hj);have hsm:=hsi _ (getD_mem ([],0,[]) hj);have ho:=WE N _ hN hsm.1 hm.1;have hal:=AkU hm;obtain⟨k1,k2,k3⟩:=AlX hm.2.1;have h64:=hm.2.2;have o2:=(XT hm.1).2;dsimp only[U2];rw[Int.toNat_natCast];generalize r.getD j ([],0,[])=e at *
    have l1:=Sp.JS 6 (Nj e.1);have l2:=Sp.JS e.2.1.toNat e.2.2;have w2:=RN N e.2.1.toNat [e.2.2] k2 k3 hN (by simp) (by rw[JL];omega);have w3:JI N 48 [Sp.elem 6 (Nj e.1),Sp.elem e.2.1.toNat e.2.2]=_:=RN N 48 [Sp.elem 6 (Nj e.1),Sp.elem e.2.1.toNat e.2.2] (by omega) (by omega) hN (by simp) (by rw[QG,Dp];omega);rw[JL]at w2;rw[QG]at w3;rw[<- k1]at w2;simp (disch:=omega) only[JD,ho,w2,w3,JW];rfl
   .intro a k ha;simp (disch:=omega) only[JD]
  have hor:=AhF N ((n.getD i []).map VA) hN (by rw[D5];omega) (by omega);have w:JI N 49 [Rn ((n.getD i []).map VA)]=_:=RN N 49 [Rn ((n.getD i []).map VA)] (by omega) (by omega) hN (by simp) (by rw[JL,AaS];omega);rw[JL]at w;have hw:Sp.elem 49 (Rn ((n.getD i []).map VA))=ZE (n.getD i []):=rfl;simp (disch:=omega) only[JD,hat,hor,w,hw,JW]
 .intro t k;simp (disch:=omega) only[JD]
 .have w:JI N 48 [(n.map ZE).flatten]=_:=RN N 48 [(n.map ZE).flatten] (by omega) (by omega) hN (by simp) (by rw[JL];omega);rw[w,Js,JL];rfl
section
variable (N:Nat) (hN:1048578<N)
end
end Go.Proofs.YtacidcemomccpaaGreatDoor.Pl
namespace Go.Proofs.YtacidcemomccpaaGreatDoor.Sp
def WZ:List UInt8->Bool
 | []=>true
 | [_]=>false
 | a::b::_=>(decide (a.toNat=0)&&decide (b.toNat<128))||(decide (a.toNat=255)&&decide (128<=b.toNat))
def byteOf (q:Int):UInt8:=UInt8.ofNat (q % 256).toNat
def byteOf_toNat (q:Int):((byteOf q).toNat:Int)=q % 256:=by unfold byteOf;rw[FH];omega
def MM (v:Int):Nat->List UInt8
 | 0=>[]
 | n+1=>byteOf (v / 256 ^ n)::MM v n
def dG (v:Int) (n:Nat):(MM v n).length=n:=by induction n with
 | zero=>rfl
 | succ n ih=>simp [MM,ih]
def strip:List UInt8->List UInt8
 | []=>[]
 | [a]=>[a]
 | a::b::r=>if WZ (a::b::r)then strip (b::r)else a::b::r
def fits (q:Int):Prop:= -128<=q/\q<=127
instance (q:Int):Decidable (fits q):=inferInstanceAs (Decidable (_/\_))
def U1 (v:Int):List UInt8:=strip (MM v 8)
def jH (v:Int) (n:Nat):v / 256 ^ (n+1)=v / 256 ^ n / 256:=by rw[Int.pow_succ,Ji,Ji];exact(Int.ediv_ediv_of_nonneg (IP (by omega))).symm
def Aid (v:Int) (n:Nat) (h:fits (v / 256 ^ (n+1))):WZ (MM v (n+2))=decide (fits (v / 256 ^ n)):=by
 have e:=jH v n;have h1:=byteOf_toNat (v / 256 ^ (n+1))
 have h2:=byteOf_toNat (v / 256 ^ n)
 simp only[MM,WZ];rw[Fz,decide_eq_true_iff];unfold fits at *
 rw[e]at h h1;generalize v / 256 ^ n=q at *
 generalize byteOf q=x at *
 rw[e];generalize byteOf (q / 256)=y at *
 simp only[Ef,Dw,D6];omega
def Ahe (v:Int) (n:Nat) (h:fits (v / 256 ^ n)): ∀ k,fits (v / 256 ^ (n+k)):=by
 intro k
 induction k with
 | zero=>exact h
 | succ k ih=>rw[<- EE,jH];unfold fits at *;omega
def Arz (v:Int) (n:Nat) (h:fits (v / 256 ^ n)) (k:Nat):strip (MM v (n+k+2))=strip (MM v (n+k+1)):=by
 have hb:WZ (MM v (n+k+2))=true:=by rw[Aid v (n+k) (Ahe v n h (k+1))];simp [Ahe v n h k]
 conv=>lhs;unfold MM
 have e:MM v (n+k+1)=byteOf (v / 256 ^ (n+k))::MM v (n+k):=rfl;rw[show n+k+2=(n+k+1)+1 from rfl]at hb;unfold MM at hb;rw[e]at hb ⊢;rw[strip,Du hb]
def Aot (v:Int) (n:Nat) (h:fits (v / 256 ^ n)) (hn:n=0\/ ∃ m,n=m+1/\ ¬ fits (v / 256 ^ m)) :
 ∀ k,strip (MM v (n+k+1))=MM v (n+1):=by
 intro k
 induction k with
 | zero =>
  rcases hn with rfl | ⟨m,rfl,hm⟩
  .rfl
  .have hb:WZ (MM v (m+2))=false:=by rw[Aid v m h];simp [hm]
   have e:MM v (m+2)=byteOf (v / 256 ^ (m+1))::byteOf (v / 256 ^ m)::MM v m:=rfl;rw[show m+1+0+1=m+2 from rfl];rw[e]at hb ⊢;rw[strip,Dt (by rw[hb];simp)]
 | succ k ih=>rw[<- ih];exact Arz v n h k
def xP (v:Int) (n:Nat) (h8:n<=7) (h:fits (v / 256 ^ n)) (hn:n=0\/ ∃ m,n=m+1/\ ¬ fits (v / 256 ^ m)):U1 v=MM v (n+1):=by have:=Aot v n h hn (7 - n);unfold U1;rw[show 8=n+(7 - n)+1 from by omega];exact this
def Awc (v:Int) (h1: -9223372036854775808<=v) (h2:v<=9223372036854775807):fits (v / 256 ^ 7):=by
 have:(256:Int) ^ 7=72057594037927936:=by decide
 rw[this];unfold fits;omega
def Afp (v:Int) (n:Nat) (h:fits (v / 256 ^ n)): ∃ k,k<=n/\fits (v / 256 ^ k)/\(k=0\/ ∃ m,k=m+1/\ ¬ fits (v / 256 ^ m)):=by
 induction n with
 | zero=>exact⟨0,DD _,h,Or.inl rfl⟩
 | succ n ih =>
  by_cases hf:fits (v / 256 ^ n)
  .obtain⟨k,h1,h2⟩:=ih hf;exact⟨k,by omega,h2⟩
  .exact⟨n+1,DD _,h,Or.inr ⟨n,rfl,hf⟩⟩
end Go.Proofs.YtacidcemomccpaaGreatDoor.Sp
