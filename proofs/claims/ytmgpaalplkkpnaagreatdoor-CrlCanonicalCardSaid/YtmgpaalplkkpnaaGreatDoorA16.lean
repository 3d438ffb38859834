import Derived.Test.YtmgpaalplkkpnaaGreatDoorA15
import Derived.Lib.SplitLaws
set_option linter.all false
namespace Go.Proofs.YtmgpaalplkkpnaaGreatDoor.Pl
open IntKind (i64 u8 u32 u64)
open Go Vm
def KZ (l:Bs):Int×Bs×Bs:=((Sp.tag l:Int),Sp.content l,Sp.raw l)
def Nj (l:Bs):(Int×Bs×Bs)×Bs×Int:=if Sp.err l=0 then(KZ l,Sp.rest l,0)else((0,[],[]),[],Sp.err l)
def A2D (a:UInt8):Sp.beNat [a]=a.toNat:=by simp [Sp.beNat]
def A2E (a b:UInt8):Sp.beNat [a,b]=a.toNat*256+b.toNat:=by simp [Sp.beNat]
def A2F (a b c:UInt8):Sp.beNat [a,b,c]=(a.toNat*256+b.toNat)*256+c.toNat:=by simp [Sp.beNat]
def Aqz {s:Bs} {p n:Nat} (hh:Sp.head s=(0,p,n)) (hp:p<=s.length):(if((s.length:Int) - p<n)then(some ((0,([]:Bs),([]:Bs)),([]:Bs),3):Option ((Int×Bs×Bs)×Bs×Int))else some ((((s.getD 0 0).toNat:Int),JD s p (p+n),JD s 0 (p+n)),JD s (p+n) s.length,0))=some (Nj s):=by
 have e1: ∀ a b,(JD s a b)=(s.take b).drop a:=fun a b=>rfl;by_cases h:(s.length:Int) - p<n
 .rw[Dn h];have:Sp.rd s=(3,0,0):=by unfold Sp.rd;rw[hh,Dn ⟨rfl,by show s.length - p<n;omega⟩]
  unfold Nj Sp.err;rw[this];rfl
 .rw[Dk h];have hr:Sp.rd s=(0,p,n):=by unfold Sp.rd;rw[hh,Dk (by intro hc;have:=hc.2;simp at this;omega)]
  have he:Sp.err s=0:=by unfold Sp.err;rw[hr]
  unfold Nj;rw[Dn he];unfold KZ Sp.content Sp.raw Sp.rest;rw[hr,e1,e1,e1];congr 1;refine Jo (Jo ?_ (Jo ?_ ?_)) (Jo ?_ rfl)
  .show((s.getD 0 0).toNat:Int)=((Sp.tag s:Nat):Int);unfold Sp.tag;cases s<;>rfl
  .show(s.take (p+n)).drop p=(s.drop p).take n;rw[I8];congr 1;omega
  .show(s.take (p+n)).drop 0=_;rw[Ic]
  .show(s.take s.length).drop (p+n)=_;rw[ED]
def take_snoc {α :Type} {l:List α} {i:Nat} (h:i<l.length):l.take (i+1)=l.take i++[l[i]]:=by simp_all
def Ai0 {l:Bs} {i:Nat} (h:i<l.length):Sp.beNat (l.take (i+1))=Sp.beNat (l.take i)*256+(l[i]).toNat:=by rw[take_snoc h,Sp.At6]
def Ags {l:Bs} (i:Nat) (hl:l.length<=3):Sp.beNat (l.take i)<16777216:=by
 have h1:=Sp.Ay4 (l.take i);have h2:256 ^ (l.take i).length<=256 ^ 3:=GM (by omega) (by rw[Eb];omega);have:(256:Nat) ^ 3=16777216:=by decide
 omega
def Awv {ρ :Type} (N:Nat) (l:Bs) (hl:l.length<=3) (hN:4<N) (kx:Int->Option ρ) :
 JB (X:=Int×Int×List Int) (Y:=Int) (U3 fun t7b t52b l45568b k2 x3 =>
  if t52b<((List.map (fun(b:UInt8)=>((b.toNat:Int))) l).length:Int)then if(0:Int)<=t52b then if t52b<(l45568b.length:Int)then if t52b.toNat<l45568b.length then
   k2 (JF .or .i64 (i64.wrap (t7b*(256))) (i64.wrap (l45568b.getD t52b.toNat 0)),i64.wrap (t52b+(1:Int)),l45568b)else none else none else none
  else x3 t7b) N (0,0,List.map (fun(b:UInt8)=>((b.toNat:Int))) l) kx=kx (Sp.beNat l):=by
 refine NU (fun x=> ∃ i,i<=l.length/\x=((Sp.beNat (l.take i):Int),(i:Int),List.map (fun(b:UInt8)=>((b.toNat:Int))) l)) (fun x=>l.length - x.2.1.toNat) (fun _=>kx (Sp.beNat l)) ?_ N _ ⟨0,by omega,rfl⟩ (by show l.length - 0<N;omega);rintro x ⟨i,hi,rfl⟩ k hk;show(if(i:Int)<_ then _ else _)=_;rw[Dz];by_cases h:i<l.length
 .dsimp only;rw[A52,A52,A52,Int.toNat_natCast,Dn h];have hb:=(l[i]).toNat_lt;have hs:=Ags (l:=l) i hl;rw[show(List.map (fun(b:UInt8)=>((b.toNat:Int))) l).getD i 0=((l[i].toNat:Nat):Int) by simp [Dj,h]];rw[w64 (x:=((Sp.beNat (l.take i):Nat):Int)*256),w64 (x:=((l[i].toNat:Nat):Int)),w64 (x:=(i:Int)+1)];rw[show((Sp.beNat (l.take i):Nat):Int)*256=((Sp.beNat (l.take i)*256:Nat):Int) by omega,or8 _ _ (by omega) hb,<- Ai0 h];exact hk _ ⟨i+1,h,rfl⟩ (by show l.length - ((i:Int)+1).toNat<l.length - (i:Int).toNat;omega)
 .rw[A51];rw[Fq (by omega)]
def Azx (N:Nat) (k:Nat) (h1:1<=k) (h3:k<=3):Afr N (k:Int)=some (Sp.leastOf k:Int):=by
 have:k=1\/k=2\/k=3:=by omega
 rcases this with rfl | rfl | rfl<;>rfl
set_option maxRecDepth 4000
def fK (N:Nat) (s:Bs) (hN:4<N) (hs:s.length<=1099511627776:=by omega):Yv N s=some (Nj s):=by
 unfold Yv;try simp -zeta only[Ap]
 cases s with
 | nil=>rfl
 | cons a r =>
  have ha:=a.toNat_lt;have h0:((a::r:Bs)==([]:Bs))=false:=rfl;simp only[h0,cond_false,Eh,List.length_cons,Ad0,TM,Afw,Ai2];simp only[AsD,Qg,EN,D5,EE,Dq];rw[w64,A07 _ ha];by_cases h31:a.toNat % 32=31
  .have:Sp.err (a::r)=5:=by simp [Sp.err,Sp.rd,Sp.head,h31]
   unfold Nj;rw[this,A52,A52];rfl
  .rw[A52,A51];cases r with
   | nil =>
    have:Sp.err [a]=3:=by simp [Sp.err,Sp.rd,Sp.head,h31]
    unfold Nj;rw[this,Dn (by simp)];rfl
   | cons b c =>
    have hb:=b.toNat_lt;simp only[List.length_cons]at hs;simp only[FT,Eh,List.length_cons];rw[w64 (x:=((b.toNat:Nat):Int)),A51,A52];by_cases h6:b.toNat=128\/131<b.toNat
    .have:Sp.err (a::b::c)=6:=by simp [Sp.err,Sp.rd,Sp.head,h31,h6,show ¬ b.toNat<128 by omega]
     unfold Nj;rw[this,A52];rfl
    .rw[A51,TT]
     have hend: ∀ p n:Nat,Sp.head (a::b::c)=(0,p,n)->p<=c.length+2->n<=131072->(if i64.wrap (((c.length+1+1:Nat):Int) - (p:Int))<(n:Int)then some ((0,([]:Bs),([]:Bs)),([]:Bs),3)
      else if(0:Int)<=(p:Int)then if(p:Int)<=i64.wrap ((p:Int)+(n:Int))then if i64.wrap ((p:Int)+(n:Int))<=((c.length+1+1:Nat):Int)then if(0:Int)<=i64.wrap ((p:Int)+(n:Int))then
       if i64.wrap ((p:Int)+(n:Int))<=((c.length+1+1:Nat):Int)then if(0:Int)<=i64.wrap ((p:Int)+(n:Int))then if i64.wrap ((p:Int)+(n:Int))<=((c.length+1+1:Nat):Int)then
       some ((((a.toNat:Nat):Int),JD (a::b::c) (p:Int).toNat (i64.wrap ((p:Int)+(n:Int))).toNat,JD (a::b::c) 0 (i64.wrap ((p:Int)+(n:Int))).toNat),JD (a::b::c) (i64.wrap ((p:Int)+(n:Int))).toNat (c.length+1+1),0)
       else none else none else none else none else none else none else none:Option ((Int×Bs×Bs)×Bs×Int))=some (Nj (a::b::c)):=by
      intro p n hh hp hn;have:=Aqz (s:=a::b::c) hh (by simp;omega);all_goals grind[w64]
     by_cases h128:b.toNat<128
     .rw[A51];exact hend 2 b.toNat (by simp [Sp.head,h31,h128]) (by omega) (by omega)
     .rw[A52];obtain⟨k,hk⟩: ∃ k:Nat,b.toNat=128+k:=⟨b.toNat - 128,by omega⟩
      rw[w64 (x:=((b.toNat:Nat):Int) - 128),show((b.toNat:Nat):Int) - 128=(k:Int) by omega,w64 (x:=2+(k:Int))];by_cases hlen:c.length<k
      .rw[A52];have:Sp.err (a::b::c)=3:=by simp [Sp.err,Sp.rd,Sp.head,h31,h128,h6,show b.toNat - 128=k by omega,hlen]
       unfold Nj;rw[this];rfl
      .have hcut:JD (a::b::c) 2 ((2+(k:Int)).toNat)=c.take k:=by
        rw[show(2+(k:Int)).toNat=k+2 by omega];rfl
       have hlk:(c.take k).length=k:=by rw[Eb];omega
       rw[A51,A52,A52,hcut,A52];rw[Awv N (c.take k) (by omega) hN,Azx N k (by omega) (by omega),Jt];by_cases hbad:Sp.beNat (c.take k)<Sp.leastOf k\/131072<Sp.beNat (c.take k)
       .have:Sp.err (a::b::c)=6:=by simp [Sp.err,Sp.rd,Sp.head,h31,h128,h6,show b.toNat - 128=k by omega,hlen,hbad]
        unfold Nj;rw[A52,this];rfl
       .rw[A51];have:=hend (2+k) (Sp.beNat (c.take k)) (by simp [Sp.head,h31,h128,h6,show b.toNat - 128=k by omega,hlen,hbad]) (by omega) (by omega);rw[show(((2+k:Nat)):Int)=2+(k:Int) by omega]at this;exact this
def Aph {ρ :Type} (N:Nat) (s:Bs) (k:Nat) (hk:k<=3) (hl:k+2<=s.length) (hs:s.length<=1099511627776) (hN:4<N) (kx:Int->Option ρ) :
 JB (X:=Int×Int) (Y:=Int) (U2 fun t6b t9b k2 x3 =>
  if t9b<(k:Int)then if(0:Int)<=i64.wrap ((2:Int)+t9b)then if i64.wrap ((2:Int)+t9b)<(s.length:Int)then
   k2 (i64.wrap ((i64.wrap ((256:Int)*t6b))+i64.wrap ((s.getD ((i64.wrap ((2:Int)+t9b)).toNat) 0).toNat:Int)),i64.wrap (t9b+(1:Int)))else none else none
  else x3 t6b) N (0,0) kx=kx (Sp.beNat ((s.drop 2).take k)):=by
 have hlen:((s.drop 2).take k).length=k:=by rw[Eb,Ew];omega
 generalize hL:(s.drop 2).take k=l at hlen;refine NU (fun x=> ∃ i,i<=k/\x=((Sp.beNat (l.take i):Int),(i:Int))) (fun x=>k - x.2.toNat) (fun _=>kx (Sp.beNat l)) ?_ N _ ⟨0,by omega,rfl⟩ (by show k - 0<N;omega);rintro x ⟨i,hi,rfl⟩ kk hkk;show(if(i:Int)<_ then _ else _)=_;by_cases h:i<k
 .have hb:=(l[i]'(by omega)).toNat_lt;have hs':=Ags (l:=l) i (by omega);dsimp only;rw[A52,w64 (x:=2+(i:Int)),A52,A52,show(2+(i:Int)).toNat=i+2 by omega]
  have e:s.getD (i+2) 0=l[i]'(by omega):=by
   have:l[i]? =s[i+2]? :=by rw[<- hL,FY,Dn h,FZ,Nat.add_comm]
   rw[Dj,<- this,DD (by omega)];rfl
  rw[e,w64 (x:=256*((Sp.beNat (l.take i):Nat):Int)),w64 (x:=(((l[i]'(by omega)).toNat:Nat):Int)),w64 (x:=(i:Int)+1),w64];have:=Ai0 (l:=l) (i:=i) (by omega);rw[show 256*((Sp.beNat (l.take i):Nat):Int)+(((l[i]'(by omega)).toNat:Nat):Int)=((Sp.beNat (l.take (i+1)):Nat):Int) by omega];exact hkk _ ⟨i+1,h,rfl⟩ (by show k - ((i:Int)+1).toNat<k - (i:Int).toNat;omega)
 .rw[A51,Fq (by omega)]
def Axk (k:Nat) (h1:1<=k) (h3:k<=3):(([0,128,256,65536]:List Int).getD k 0)=(Sp.leastOf k:Int):=by
 have:k=1\/k=2\/k=3:=by omega
 rcases this with rfl | rfl | rfl<;>rfl
def XZ (N:Nat) (s:Bs) (hN:4<N) (hs:s.length<=1099511627776:=by omega):UH N s=some (Nj s):=by
 unfold UH;try simp -zeta only[Ap]
 cases s with
 | nil=>rfl
 | cons a r =>
  have ha:=a.toNat_lt;simp only[Eh,List.length_cons,Ad0,TM,Afw,Ai2];simp only[AsD,Qg,EN,D5,EE,Dq];rw[A51,A52];have ht:((a.toNat:Nat):Int).tmod 32=((a.toNat % 32:Nat):Int):=by rw[Em (by omega)];omega
  rw[ht];by_cases h31:a.toNat % 32=31
  .have:Sp.err (a::r)=5:=by simp [Sp.err,Sp.rd,Sp.head,h31]
   unfold Nj;rw[this,A52];rfl
  .rw[A51];cases r with
   | nil =>
    have:Sp.err [a]=3:=by simp [Sp.err,Sp.rd,Sp.head,h31]
    unfold Nj;rw[this];rfl
   | cons b c =>
    have hb:=b.toNat_lt;simp only[List.length_cons]at hs;simp only[FT,Eh,List.length_cons];rw[w64 (x:=((b.toNat:Nat):Int)),A51,A52];by_cases h6:b.toNat=128\/131<b.toNat
    .have:Sp.err (a::b::c)=6:=by simp [Sp.err,Sp.rd,Sp.head,h31,h6,show ¬ b.toNat<128 by omega]
     unfold Nj;rw[this,A52];rfl
    .rw[A51,TT]
     have hend: ∀ p n:Nat,Sp.head (a::b::c)=(0,p,n)->p<=c.length+2->n<=131072->(if i64.wrap (((c.length+1+1:Nat):Int) - (p:Int))<(n:Int)then some ((0,([]:Bs),([]:Bs)),([]:Bs),3)
      else if(0:Int)<((c.length+1+1:Nat):Int)then if(0:Int)<=(p:Int)then if(p:Int)<=i64.wrap ((p:Int)+(n:Int))then if i64.wrap ((p:Int)+(n:Int))<=((c.length+1+1:Nat):Int)then if(0:Int)<=i64.wrap ((p:Int)+(n:Int))then
       if i64.wrap ((p:Int)+(n:Int))<=((c.length+1+1:Nat):Int)then if(0:Int)<=i64.wrap ((p:Int)+(n:Int))then if i64.wrap ((p:Int)+(n:Int))<=((c.length+1+1:Nat):Int)then
       some ((i64.wrap ((a.toNat:Nat):Int),JD (a::b::c) (p:Int).toNat (i64.wrap ((p:Int)+(n:Int))).toNat,JD (a::b::c) 0 (i64.wrap ((p:Int)+(n:Int))).toNat),JD (a::b::c) (i64.wrap ((p:Int)+(n:Int))).toNat (c.length+1+1),0)
       else none else none else none else none else none else none else none else none:Option ((Int×Bs×Bs)×Bs×Int))=some (Nj (a::b::c)):=by
      intro p n hh hp hn;have:=Aqz (s:=a::b::c) hh (by simp;omega);all_goals grind[w64]
     by_cases h128:b.toNat<128
     .rw[A51];exact hend 2 b.toNat (by simp [Sp.head,h31,h128]) (by omega) (by omega)
     .rw[A52];obtain⟨k,hk⟩: ∃ k:Nat,b.toNat=128+k:=⟨b.toNat - 128,by omega⟩
      rw[w64 (x:=((b.toNat:Nat):Int) - 128),show((b.toNat:Nat):Int) - 128=(k:Int) by omega,w64 (x:=2+(k:Int))];by_cases hlen:c.length<k
      .rw[A52];have:Sp.err (a::b::c)=3:=by simp [Sp.err,Sp.rd,Sp.head,h31,h128,h6,show b.toNat - 128=k by omega,hlen]
       unfold Nj;rw[this];rfl
      .rw[A51];have hd:=fun kx=>Aph (ρ :=(Int×Bs×Bs)×Bs×Int) N (a::b::c) k (by omega) (by simp;omega) (by simp;omega) hN kx;refine ER (hd _) ?_;show(if(0:Int)<=(k:Int)then _ else _)=_;have hdr:((a::b::c).drop 2).take k=c.take k:=rfl;rw[hdr,A52,A52,Int.toNat_natCast,A52,Axk k (by omega) (by omega)];by_cases hbad:Sp.beNat (c.take k)<Sp.leastOf k\/131072<Sp.beNat (c.take k)
       .have:Sp.err (a::b::c)=6:=by simp [Sp.err,Sp.rd,Sp.head,h31,h128,h6,show b.toNat - 128=k by omega,hlen,hbad]
        unfold Nj;rw[A52,this];rfl
       .rw[A51];have:=hend (2+k) (Sp.beNat (c.take k)) (by simp [Sp.head,h31,h128,h6,show b.toNat - 128=k by omega,hlen,hbad]) (by omega) (by omega);rw[show(((2+k:Nat)):Int)=2+(k:Int) by omega]at this;exact this
def KH (s:Bs):(Int×Bs×Bs)×Int:=if Sp.NP s=0 then(KZ s,0)else((0,[],[]),Sp.NP s)
theorem VT {s:Bs} (h:Sp.NP s=0):Sp.err s=0/\Sp.rest s=[]:=by unfold Sp.NP at h;by_cases he:Sp.err s=0;all_goals simp_all[Bs]
def UR (N:Nat) (s:Bs) (hN:4<N:=by omega) (hs:s.length<=1099511627776:=by omega):YK N s=some (KH s):=by
 unfold YK;rw[fK N s hN hs,Jt];unfold Nj KH Sp.NP;by_cases he:Sp.err s=0
 .rw[Dn he];by_cases hr:Sp.rest s=[]
  .simp [he,hr,Qg]
  .simp [he,hr,Qg]
 .rw[Dk he];simp [he,Qg]
def rM (N:Nat) (s:Bs) (hN:4<N) (hs:s.length<=1099511627776):YA N s=some (KH s):=by
 unfold YA;rw[XZ N s hN hs,Jt];unfold Nj KH Sp.NP;by_cases he:Sp.err s=0
 .rw[Dn he];by_cases hr:Sp.rest s=[]
  .simp [he,hr]
  .have:0<(Sp.rest s).length:=by cases h:Sp.rest s with | nil=>exact absurd h hr | cons _ _=>simp
   simp [he,hr,this,Qg]
 .rw[Dk he];simp [he,Qg]
def AaN (s:Bs):Sp.tag s<256:=Ib _
def TS (e:Int×Bs×Bs) (d:Nat):Int:=if e.1 / 32 % 2=1 then Sp.within (e.2.1.length+1) d e.2.1 else 0
theorem WJ: ∀(f g d:Nat) (l:Bs),l.length<f->l.length<g->Sp.within f d l=Sp.within g d l:=by
 intro f
 induction f with
 | zero=>intro g d l h;omega
 | succ f ih =>
  intro g d l hf hg;cases g with
  | zero=>omega
  | succ g =>show(if l=[]then _ else _)=if l=[]then _ else _;all_goals grind[Sp.SG,Sp.dO]
def fP {B:Bs->(Bs->Option Int)->(Unit->Option Int)->Option Int} {kx:Unit->Option Int} (d L:Nat)
 (hB: ∀ x k,x≠ []->x.length<=L->B x k kx=if Sp.err x≠0 then some (Sp.err x)else if 16<=d then some 8 else if TS (KZ x) (d+1)≠0 then some (TS (KZ x) (d+1))else k (Sp.rest x))
 (hend: ∀ k,B [] k kx=some 0) (N:Nat) (x:Bs) (hx:x.length<=L) (hN:x.length<N):JB B N x kx=some (Sp.within (x.length+1) d x):=by
 refine NU (fun x=>x.length<=L) (fun x=>x.length) (fun x=>some (Sp.within (x.length+1) d x)) ?_ N x hx hN;intro x hx k hk;by_cases h0:x=[]
 .subst h0;rw[hend];rfl
 .rw[hB x k h0 hx];by_cases he:Sp.err x=0
  .rw[Dk (by simp [he])];by_cases hd:16<=d
   .rw[Dn hd,Sp.As0 _ _ _ h0 he hd]
   .rw[Dk hd];have h1:=Sp.SG x he;have h2:=Sp.dO x he;have hin:TS (KZ x) (d+1)=Sp.inner x.length (d+1) (Sp.tag x) (Sp.content x):=by unfold TS Sp.inner Sp.cons KZ;all_goals grind[WJ]
    rw[hin];by_cases hi:Sp.inner x.length (d+1) (Sp.tag x) (Sp.content x)=0
    .rw[Dk (by simp [hi]),hk _ (by show(Sp.rest x).length<=L;omega) h2,Sp.AgZ _ _ _ h0 he hd hi];rw[WJ _ x.length d (Sp.rest x) (Nat.lt_succ_self _) h2]
    .rw[Dn hi,Sp.AvM _ _ _ h0 he hd hi]
  .grind[Sp.AvN]
def Ayg (N:Nat) (hN:4<N): ∀(m n:Nat),m<n-> ∀(e:Int×Bs×Bs) (d:Nat),d+m=16->0<=e.1->e.1<256->e.2.1.length<N->e.2.1.length<=1099511627776 ->
 Tc N n e (d:Int)=some (TS e d):=by
 intro m
 induction m with
 | zero =>
  intro n hn e d hd h0 h1 h2 h3;obtain⟨n,rfl⟩: ∃ k,n=k+1:=⟨n - 1,by omega⟩
  show Td N (Tc N n) e d=_;unfold Td TS;obtain⟨t,ht⟩: ∃ t:Nat,e.1=(t:Int):=⟨e.1.toNat,by omega⟩
  rw[ht,A08 t (by omega)];by_cases hc:t / 32 % 2=1
  .rw[Dn hc,A52];refine fP d e.2.1.length (fun x k hx hl=> ?_) (fun k=>rfl) N _ (DV _) h2;have:(x==([]:Bs))=false:=by cases x with | nil=>exact absurd rfl hx | cons _ _=>rfl
   dsimp only;rw[this,fK N x hN,Jt];unfold Nj;simp only[Qg,FK,D5,Et];by_cases he:Sp.err x=0;all_goals simp_all[Bs,Tc,TS]
  .rw[Dk hc,A51];rfl
 | succ m ih =>
  intro n hn e d hd h0 h1 h2 h3;obtain⟨n,rfl⟩: ∃ k,n=k+1:=⟨n - 1,by omega⟩
  show Td N (Tc N n) e d=_;unfold Td TS;obtain⟨t,ht⟩: ∃ t:Nat,e.1=(t:Int):=⟨e.1.toNat,by omega⟩
  rw[ht,A08 t (by omega)];by_cases hc:t / 32 % 2=1
  .rw[Dn hc,A52];refine fP d e.2.1.length (fun x k hx hl=> ?_) (fun k=>rfl) N _ (DV _) h2;have:(x==([]:Bs))=false:=by cases x with | nil=>exact absurd rfl hx | cons _ _=>rfl
   dsimp only;rw[this,fK N x hN,Jt];unfold Nj;simp only[Qg,FK,D5,Et];by_cases he:Sp.err x=0
   .rw[Dn he];simp only[he,ne_eq,Jk,Gz,Jf];have hcl:=Sp.SG x he;have htl:=AaN x;rw[A51,A51,w64,show(d:Int)+1=((d+1:Nat):Int) by omega,ih n (by omega) (KZ x) (d+1) (by omega) (by show(0:Int)<=((Sp.tag x:Nat):Int);omega) (by show((Sp.tag x:Nat):Int)<256;omega) (by show(Sp.content x).length<N;omega) (by show(Sp.content x).length<=_;omega),Jt]
   .rw[Dk he];simp [he]
  .rw[Dk hc,A51];rfl
def AyE (N:Nat) (hN:4<N): ∀(m n:Nat),m<n-> ∀(e:Int×Bs×Bs) (d:Nat),d+1+m=16->0<=e.1->e.1<256->e.2.1.length<N->e.2.1.length<=1099511627776 ->
 Tv N n e (d:Int)=some (TS e (d+1)):=by
 intro m
 induction m with
 | zero =>
  intro n hn e d hd h0 h1 h2 h3;obtain⟨n,rfl⟩: ∃ k,n=k+1:=⟨n - 1,by omega⟩
  show Rn N (Tv N n) e d=_;unfold Rn TS;rw[EL h0,w64,Em (by omega)];by_cases hc:e.1 / 32 % 2=1
  .rw[Dn hc,hc];refine fP (d+1) e.2.1.length (fun x k hx hl=> ?_) (fun k=>rfl) N _ (DV _) h2;have:0<x.length:=by cases x with | nil=>exact absurd rfl hx | cons _ _=>simp
   dsimp only;rw[XZ N x hN,Jt];unfold Nj;simp only[Qg,FK,D5];all_goals grind[w64]
  .rw[Dk hc,show e.1 / 32 % 2=0 by omega];rfl
 | succ m ih =>
  intro n hn e d hd h0 h1 h2 h3;obtain⟨n,rfl⟩: ∃ k,n=k+1:=⟨n - 1,by omega⟩
  show Rn N (Tv N n) e d=_;unfold Rn TS;rw[EL h0,w64,Em (by omega)];by_cases hc:e.1 / 32 % 2=1
  .rw[Dn hc,hc];refine fP (d+1) e.2.1.length (fun x k hx hl=> ?_) (fun k=>rfl) N _ (DV _) h2;have:0<x.length:=by cases x with | nil=>exact absurd rfl hx | cons _ _=>simp
   dsimp only;rw[XZ N x hN,Jt];unfold Nj;simp only[Qg,FK,D5];rw[A52,w64];by_cases he:Sp.err x=0
   .rw[Dn he];simp only[he,ne_eq,Jk,Gz];have hcl:=Sp.SG x he;have htl:=AaN x;rw[A51,A51,show(d:Int)+1=((d+1:Nat):Int) by omega,ih n (by omega) (KZ x) (d+1) (by omega) (by show(0:Int)<=((Sp.tag x:Nat):Int);omega) (by show((Sp.tag x:Nat):Int)<256;omega) (by show(Sp.content x).length<N;omega) (by show(Sp.content x).length<=_;omega),Jt]
   .rw[Dk he];simp [he]
  .rw[Dk hc,show e.1 / 32 % 2=0 by omega];rfl
def Ajv {s:Bs} (h:Sp.NP s=0):TS (KZ s) 1=Sp.chk s:=by unfold Sp.chk;rw[Dk (by simp [h])];unfold TS Sp.inner Sp.cons KZ;all_goals grind[Sp.SG,VT,WJ]
def AqX (N:Nat) (s:Bs) (hN:16<N) (hs:s.length<=1099511627776) (hl:s.length<N):wW N s=some (Sp.chk s):=by
 unfold wW;rw[UR N s (by omega) hs,Jt];unfold KH;by_cases h:Sp.NP s=0
 .have h1:=Sp.SG s (VT h).1;have h2:=AaN s;rw[Dn h,<- Ajv h];have:=Ayg N (by omega) 15 N (by omega) (KZ s) 1 rfl (by show(0:Int)<=((Sp.tag s:Nat):Int);omega) (by show((Sp.tag s:Nat):Int)<256;omega) (by show(Sp.content s).length<N;omega) (by show(Sp.content s).length<=_;omega);all_goals grind[Jr,Tc,KZ,Jt]
 .rw[Dk h];have:Sp.chk s=Sp.NP s:=by unfold Sp.chk;rw[Dn h]
  simp [Qg,h,this]
def AlJ (N:Nat) (s:Bs) (hN:16<N) (hs:s.length<=1099511627776) (hl:s.length<N):XC N s=some (Sp.chk s):=by
 unfold XC;rw[rM N s (by omega) hs,Jt];unfold KH;by_cases h:Sp.NP s=0
 .have h1:=Sp.SG s (VT h).1;have h2:=AaN s;rw[Dn h,<- Ajv h];have:=AyE N (by omega) 15 N (by omega) (KZ s) 0 rfl (by show(0:Int)<=((Sp.tag s:Nat):Int);omega) (by show((Sp.tag s:Nat):Int)<256;omega) (by show(Sp.content s).length<N;omega) (by show(Sp.content s).length<=_;omega);all_goals grind[Jr,Tv,KZ,Jt]
 .rw[Dk h];have:Sp.chk s=Sp.NP s:=by unfold Sp.chk;rw[Dn h]
  simp [Qg,h,this]
def AiV (s:Bs):(s==([]:Bs))=decide (s=[]):=by cases s<;>rfl
def vX {α :Type} {s:List α} (h:s≠ []):0<s.length:=by cases s with | nil=>exact absurd rfl h | cons _ _=>simp
def NM (t:Nat) (c:Bs):Option Bs:=if c.length<=131072 then some (Sp.elem t c)else none
theorem wZ {t:Nat} {c:Bs}:((NM t c).getD []).length<=131077:=by
 unfold NM;by_cases h:c.length<=131072
 .rw[Dn h];have:=Sp.JM t c;show(Sp.elem t c).length<=_;omega
 .rw[Dk h];simp
def Am8: ∀(l:List Bs),([]:Bs).intercalate l=l.flatten
 | []=>rfl
 | [a]=>by simp [List.intercalate]
 | a::b::r=>by have:=Am8 (b::r);simp only[List.intercalate,List.intersperse,List.flatten_cons]at this ⊢;simp [this]
def uH (n:Nat):Vm.byteOf (u8.wrap (n:Int))=UInt8.ofNat n:=by rw[w8];unfold Vm.byteOf;rw[show((n:Int) % 256).toNat=n % 256 by omega];apply UInt8.toNat.inj;simp
def Apw (n k:Nat):(n:Int).fdiv (k:Int)=((n / k:Nat):Int):=by rw[GR _ (by omega)];rfl
def head_eq {ρ :Type} (t n:Nat) (ht:t<256) (K:List Int->Option ρ) (K':Bs->Option ρ) (hK: ∀ l,List.all l isByte=true->l.length<=5->K l=K' (List.map Vm.byteOf l)) :
 (bif decide ((n:Int)<(128:Int))then K ([u8.wrap (t:Int),u8.wrap (n:Int)]:List Int)
   else bif decide ((n:Int)<(256:Int))then K ([u8.wrap (t:Int),129,u8.wrap (n:Int)]:List Int)
   else bif decide ((n:Int)<(65536:Int))then K ([u8.wrap (t:Int),130,u8.wrap ((n:Int).fdiv (256)),u8.wrap (n:Int)]:List Int)
   else K ([u8.wrap (t:Int),131,u8.wrap ((n:Int).fdiv (65536)),u8.wrap ((n:Int).fdiv (256)),u8.wrap (n:Int)]:List Int))=K' (UInt8.ofNat t::Sp.MG n):=by
 have f1:=Apw n 256;have f2:=Apw n 65536;have g1: ∀ k:Nat,isByte (k:Int)=decide (k<256):=fun k=>by unfold isByte;simp;omega
 rw[show((256:Nat):Int)=256 from rfl]at f1;rw[show((65536:Nat):Int)=65536 from rfl]at f2;rw[f1,f2];unfold Sp.MG;simp only[O8];by_cases h1:n<128
 .rw[A52,Dn h1,hK _ (by simp [PY]) (by simp)];simp only[Ee,Ff,uH]
 .rw[A51,Dk h1];by_cases h2:n<256
  .rw[A52,Dn h2,hK _ (by simp [PY];decide) (by simp)];simp only[Ee,Ff,uH];rfl
  .rw[A51,Dk h2];by_cases h3:n<65536
   .rw[A52,Dn h3,hK _ (by simp [PY];decide) (by simp)];simp only[Ee,Ff,uH];rfl
   .rw[A51,Dk h3,hK _ (by simp [PY];decide) (by simp)];simp only[Ee,Ff,uH];rfl
def A0q {ρ :Type} (bad:Option ρ) (fin:Nat->Option ρ): ∀(l:List Bs) (s: {n:Nat // n<=131072}),
 Af0 (fun(e:Bs) (s: {n:Nat // n<=131072}) (k: {n:Nat // n<=131072}->Option ρ)=>if h:s.1+e.length<=131072 then k ⟨s.1+e.length,h⟩else bad) (fun s=>fin s.1) l s=if s.1+l.flatten.length<=131072 then fin (s.1+l.flatten.length)else bad:=by
 intro l
 induction l with
 | nil=>intro s;have:=s.2;simp [Af0,this]
 | cons e r ih =>
  intro s;show(if h:s.1+e.length<=131072 then _ else bad)=_;rw[List.flatten_cons,Dp];by_cases h:s.1+e.length<=131072
  .rw[Iq h,ih];dsimp only;rw[ES]
  .rw[Jg h,A51]
def A0i {ρ :Type} (N:Nat) (l:List Bs) (hN:l.length<N) (hl:l.length<=1099511627776) (bad:Option ρ) (kx:Int->Option ρ) :
 JB (X:=Int×Int) (Y:=Int) (U2 fun t6a t23a k1 x2 =>
  bif decide (t23a<(l.length:Int))then(Vm.chk (decide ((0:Int)<=t23a)) <|
  Vm.chk (decide (t23a<(l.length:Int))) <|
  let x31:Bool:=decide (((l.getD t23a.toNat ([]:Bs)).length:Int)>(i64.wrap ((131072:Int) - t6a)))
  bif x31 then bad
  else(k1 (i64.wrap (t6a+((l.getD t23a.toNat ([]:Bs)).length:Int)),i64.wrap (t23a+(1:Int)))))
  else(x2 t6a)) N (0,0) kx=if l.flatten.length<=131072 then kx (l.flatten.length:Int)else bad:=by
 refine ER (Au8 (S:= {n:Nat // n<=131072}) (fun i s=>((s.1:Int),i)) l ([]:Bs) (fun e s k=>if h:s.1+e.length<=131072 then k ⟨s.1+e.length,h⟩else bad) (fun s=>(fun n:Nat=>kx (n:Int)) s.1) ?_ ?_ N ⟨0,by omega⟩ hN) ?_
 .intro i s k hi;have hs:=s.2;show(bif decide ((i:Int)<(l.length:Int))then _ else _)=_;simp only[O8,TL,Int.toNat_natCast];rw[A52,A52,A52,w64 (x:=131072 - ((s.1:Nat):Int))];by_cases h:s.1+(l.getD i []).length<=131072
  .rw[A51,Iq h,w64,w64];rfl
  .rw[A52,Jg h]
 .intro s k;show(bif decide ((l.length:Int)<(l.length:Int))then _ else _)=_;simp only[O8];rw[A51]
 .refine(A0q bad (fun n:Nat=>kx (n:Int)) l ⟨0,by omega⟩).trans ?_;dsimp only;rw[DT]
theorem fM (N t:Nat) (l:List Bs) (ht:t<256) (h31:t % 32≠31) (hN:l.length<N:=by omega) (hl:l.length<=1099511627776:=by omega):KD N (t:Int) l=some ((NM t l.flatten).getD [],if(NM t l.flatten).isNone then 6 else 0):=by
 unfold KD;try simp -zeta only[Ap]
 simp only[Ad0,TM,Afw,AkB,Tj,Ai2,A07 t ht];rw[show(decide ((t:Int)<0)||decide ((t:Int)>255)||((t % 32:Nat):Int)==31)=false by simp;omega,cond_false];refine ER (A0i N l hN hl _ _) ?_;unfold NM;by_cases h:l.flatten.length<=131072
 .rw[Dn h,Dn h,TT];refine ER (head_eq t l.flatten.length ht (fun l1:List Int=>Vm.chk (List.all l1 isByte)<|Jr (strings_Join N l ([]:Bs)) fun r81=>Vm.chk (decide ((List.map Vm.byteOf l1).length+r81.length<=140737488355328))<|some ((List.map Vm.byteOf l1)++r81,(0:Int))) (fun h=>some (h++l.flatten,0)) (fun l' hl' hl5=> ?_)) rfl;rw[hl',JI];unfold strings_Join;rw[Am8,Di (show l.length<=140737488355328 by omega),Di (show l.flatten.length<=140737488355328 by omega)];show Vm.chk (decide ((List.map Vm.byteOf l').length+l.flatten.length<=140737488355328)) _=_;rw[TL,Dn (by rw[Dz];omega)];rfl
 .rw[Dk h,Dk h];rfl
def jZ (N t:Nat) (l:List Bs) (ht:t<256) (h31:t % 32≠31) (hN:l.length<N) (hl:l.length<=1099511627776) (hs:l.flatten.length<=140737488355328):UI N (t:Int) l=some ((NM t l.flatten).getD [],if(NM t l.flatten).isNone then 6 else 0):=by
 unfold UI;try simp -zeta only[Ap]
 simp only[Ad0,TM,Afw,AkB,Tj,Ai2];rw[show(decide ((t:Int)<0)||decide ((t:Int)>255)||(t:Int).tmod 32==31)=false by rw[Em (by omega)];simp;omega,cond_false];refine ER (NU (fun x=> ∃ i,i<=l.length/\x=((l.take i).flatten,(i:Int))) (fun x=>l.length - x.2.toNat) (fun _=>some ((NM t l.flatten).getD [],if(NM t l.flatten).isNone then 6 else 0)) ?_ N _ ⟨0,by omega,rfl⟩ (by show l.length - 0<N;omega)) rfl;rintro x ⟨i,hi,rfl⟩ k hk;show(bif decide ((i:Int)<(l.length:Int))then _ else _)=_;by_cases h:i<l.length
 .simp only[O8,TL,Int.toNat_natCast];have e:(l.take i).flatten++l.getD i []=(l.take (i+1)).flatten:=by rw[take_snoc h,EZ,show l.getD i []=l[i] by simp [Dj,h]];simp
  have hle:(l.take (i+1)).flatten.length<=l.flatten.length:=by
   conv=>rhs;rw[<- GH (i+1) l,EZ,Dp]
   omega
  have e2:(l.take i).flatten.length+(l.getD i []).length<=140737488355328:=by rw[<- Dp,e];omega
  rw[A52,A52,A52,Dn e2,e,w64];exact hk _ ⟨i+1,h,rfl⟩ (by show l.length - ((i:Int)+1).toNat<l.length - (i:Int).toNat;omega)
 .have hil:i=l.length:=by omega
  subst hil;rw[O8,A51];dsimp only;rw[ED];unfold NM;by_cases h:l.flatten.length<=131072
  .rw[Dn h,O8,A51,TT];have:=head_eq t l.flatten.length ht (fun l':List Int=>Vm.chk (List.all l' isByte)<|Vm.chk (decide ((List.map Vm.byteOf l').length+l.flatten.length<=140737488355328))<|some ((List.map Vm.byteOf l')++l.flatten,(0:Int))) (fun h=>some (h++l.flatten,0)) (fun l' hl' hl5=>by rw[hl',JI,TL,Dn (by rw[Dz];omega)]);refine ER ?_ this;simp only[O8];by_cases h1:l.flatten.length<128
   .rw[A51,A51,A51,A52]
   .by_cases h2:l.flatten.length<256
    .rw[A51,A51,A52,A51,A52]
    .by_cases h3:l.flatten.length<65536
     .rw[A51,A52,A51,A51,A52]
     .rw[A52,A51,A51,A51]
  .rw[Dk h,O8,A52];rfl
def A2y (N t:Nat) (l:List Bs) (ht:t<256) (h31:t % 32≠31) (hN:l.length<N) (hl:l.length<=1099511627776) (hs:l.flatten.length<=140737488355328):Lh N (t:Int) l=some ((NM t l.flatten).getD [],if(NM t l.flatten).isNone then 2 else 0):=by unfold Lh;rw[jZ N t l ht h31 hN hl hs,Jt];cases NM t l.flatten<;>rfl
def PE (N:Nat) (b:Bool) (s:Bs) (e:Int):Ku N b s e=some (s,b||decide (e≠0)):=by
 unfold Ku;try simp -zeta only[Ap]
 cases b<;>simp [Vm.chk,bne,BEq.beq,decide_not]
def Ak0 (N t:Nat) (b:Bool) (l:List Bs) (ht:t<256) (h31:t % 32≠31) (hN:l.length<N:=by omega) (hl:l.length<=1099511627776:=by omega):JU N b (t:Int) l=some ((NM t l.flatten).getD [],b||(NM t l.flatten).isNone):=by unfold JU;rw[fM N t l ht h31 hN hl,Jt,PE,Jt];cases NM t l.flatten<;>simp
def AvT (N:Nat) (b:Bool) (l:List Bs) (hN:l.length<N) (hl:l.length<=1099511627776):KG N b l=some ((NM 48 l.flatten).getD [],b||(NM 48 l.flatten).isNone):=by unfold KG;rw[show(48:Int)=((48:Nat):Int)from rfl,Ak0 N 48 b l (by omega) (by omega) hN hl,Jt]
abbrev El:=Int×Bs×Bs
def head_take (l:List UInt8) (n:Nat) (h:(Sp.head l).1=0) (hn:(Sp.head l).2.1<=n):Sp.head (l.take n)=Sp.head l:=by
 match l,h,hn with
 | [],_,_=>simp
 | t::r,h,hn =>
  by_cases h31:t.toNat % 32=31
  .simp [Sp.head,h31]at h
  .match r,h,hn with
   | [],h,_=>simp [Sp.head,h31]at h
   | m::r,h,hn =>
    have h2:=(Sp.Af3 _ h).1;obtain⟨k,rfl⟩: ∃ k,n=k+2:=⟨n - 2,by omega⟩
    rw[List.take_succ_cons,List.take_succ_cons];by_cases h128:m.toNat<128
    .simp [Sp.head,h31,h128]
    .by_cases h6:m.toNat=128\/131<m.toNat
     .simp [Sp.head,h31,h128,h6]at h
     .by_cases hlen:r.length<m.toNat - 128
      .simp [Sp.head,h31,h128,h6,hlen]at h
      .by_cases hb:Sp.beNat (r.take (m.toNat - 128))<Sp.leastOf (m.toNat - 128)\/131072<Sp.beNat (r.take (m.toNat - 128))
       .simp [Sp.head,h31,h128,h6,hlen,hb]at h
       .have hp:2+(m.toNat - 128)<=k+2:=by
         have e:Sp.head (t::m::r)=(0,2+(m.toNat - 128),Sp.beNat (r.take (m.toNat - 128))):=by show(if t.toNat % 32=31 then _ else if m.toNat<128 then _ else if _ then _ else if _ then _ else if _ then _ else _)=_;rw[Dk h31,Dk h128,Dk h6,Dk hlen,Dk hb]
         rw[e]at hn;exact hn
        have e:(r.take k).take (m.toNat - 128)=r.take (m.toNat - 128):=by rw[List.take_take,I4 (by omega)]
        have hlen': ¬(r.take k).length<m.toNat - 128:=by rw[Eb];omega
        show(if t.toNat % 32=31 then _ else if m.toNat<128 then _ else if _ then _ else if _ then _ else if _ then _ else _)=(if t.toNat % 32=31 then _ else if m.toNat<128 then _ else if _ then _ else if _ then _ else if _ then _ else _);rw[e,Dk hlen',Dk hlen]
def A3z {s:Bs} (h:Sp.err s=0):Sp.rd (Sp.raw s)=Sp.rd s:=by
 have hk:=Sp.nH s h
 have hh:Sp.rd s=Sp.head s:=by
  unfold Sp.err Sp.rd at h;unfold Sp.rd;by_cases hc:(Sp.head s).1=0/\s.length - (Sp.head s).2.1<(Sp.head s).2.2
  .rw[Dn hc]at h;cases h
  .rw[Dk hc]
 have h0:(Sp.head s).1=0:=by rw[<- hh];exact h
 have ht:Sp.head (Sp.raw s)=Sp.head s:=head_take s _ h0 (by rw[hh];omega);have hl:=Sp.nG s h;rw[hh]at hl hk;rw[hh];show(if(Sp.head (Sp.raw s)).1=0/\(Sp.raw s).length - (Sp.head (Sp.raw s)).2.1<(Sp.head (Sp.raw s)).2.2 then(3,0,0)else Sp.head (Sp.raw s))=Sp.head s;rw[ht,A51]
def A1P {s:Bs} (h:Sp.err s=0):KH (Sp.raw s)=(KZ s,0):=by
 have hr:=A3z h;have hk:=Sp.nH s h;have hl:=Sp.nG s h;have he:Sp.err (Sp.raw s)=0:=by unfold Sp.err;rw[hr];exact h
 have hrest:Sp.rest (Sp.raw s)=[]:=by unfold Sp.rest;rw[hr,List.drop_eq_nil_iff];omega
 have h1:Sp.NP (Sp.raw s)=0:=by unfold Sp.NP;rw[Dk (by simp [he]),Dn hrest]
 unfold KH;rw[Dn h1];have ec:Sp.content (Sp.raw s)=Sp.content s:=by unfold Sp.content;rw[hr];unfold Sp.raw;rw[I8,List.take_take,show min (Sp.rd s).2.2 ((Sp.rd s).2.1+(Sp.rd s).2.2 - (Sp.rd s).2.1)=(Sp.rd s).2.2 by omega]
 have er:Sp.raw (Sp.raw s)=Sp.raw s:=by show List.take ((Sp.rd (Sp.raw s)).2.1+(Sp.rd (Sp.raw s)).2.2) (Sp.raw s)=Sp.raw s;rw[hr];exact Fq (by omega)
 have et:Sp.tag (Sp.raw s)=Sp.tag s:=by
  unfold Sp.raw Sp.tag;obtain⟨k,hk'⟩: ∃ k,(Sp.rd s).2.1+(Sp.rd s).2.2=k+1:=⟨(Sp.rd s).2.1+(Sp.rd s).2.2 - 1,by omega⟩
  rw[hk'];cases s<;>rfl
 unfold KZ;rw[ec,er,et]
def Oa:Nat->Bs->List El->List El×Int
 | 0,_,a=>(a,0)
 | f+1,s,a=>if s=[]then(a,0)else if Sp.err s≠0 then([],Sp.err s)else Oa f (Sp.rest s) (a++[KZ s])
def JQ (s:Bs):List El×Int:=Oa (s.length+1) s []
def Ab2: ∀(f g:Nat) (s:Bs) (a:List El),s.length<f->s.length<g->Oa f s a=Oa g s a:=by
 intro f
 induction f with
 | zero=>intro g s a h;omega
 | succ f ih =>
  intro g s a hf hg;cases g with
  | zero=>omega
  | succ g =>
   show(if s=[]then(a,(0:Int))else if Sp.err s≠0 then([],Sp.err s)else Oa f (Sp.rest s) (a++[KZ s]))=(if s=[]then(a,0)else if Sp.err s≠0 then([],Sp.err s)else Oa g (Sp.rest s) (a++[KZ s]));by_cases h:s=[]
   .rw[Dn h,Dn h]
   .rw[Dk h,Dk h];by_cases he:Sp.err s=0
    .have:=Sp.dO s he;rw[Dk (by simp [he]),Dk (by simp [he])];exact ih g _ _ (by omega) (by omega)
    .rw[Dn he,Dn he]
def eG (M:Nat) (e:El):Prop:= ∃ t:Bs,Sp.err t=0/\e=KZ t/\t.length<=M
structure Good (M:Nat) (l:List El):Prop where
 len:l.length<=M
 all: ∀ e∈l,eG M e
 AzN:(l.map (·.2.2)).flatten.length<=M
def eG.mono {M K:Nat} {e:El} (h:eG M e) (hk:M<=K):eG K e:=by obtain⟨t,h1,h2,h3⟩:=h;exact⟨t,h1,h2,by omega⟩
def eG.content {M:Nat} {e:El} (h:eG M e):e.2.1.length+2<=e.2.2.length/\e.2.2.length<=M/\0<=e.1/\e.1<256:=by obtain⟨t,h1,rfl,h3⟩:=h;have:=Sp.nH t h1;have hr:=Sp.nG t h1;have hc:=Sp.zJ t h1;have ht:=AaN t;show(Sp.content t).length+2<=(Sp.raw t).length/\(Sp.raw t).length<=M/\0<=((Sp.tag t:Nat):Int)/\((Sp.tag t:Nat):Int)<256;omega
def AhQ {s:Bs}:Sp.raw s++Sp.rest s=s:=GH _ _
def AuJ (M:Nat): ∀(f:Nat) (s:Bs) (a:List El),s.length<=M->Good M a->(a.map (·.2.2)).flatten.length+s.length<=M->a.length+s.length<=M->Good M (Oa f s a).1:=by
 intro f
 induction f with
 | zero=>intro s a _ h _ _;exact h
 | succ f ih =>
  intro s a hs ha hr hl;show Good M (if s=[]then(a,(0:Int))else if Sp.err s≠0 then([],Sp.err s)else Oa f (Sp.rest s) (a++[KZ s])).1;by_cases h:s=[]
  .rw[Dn h];exact ha
  .rw[Dk h];by_cases he:Sp.err s=0
   .rw[Dk (by simp [he])];have h1:=Sp.dO s he;have h2:(Sp.raw s).length+(Sp.rest s).length=s.length:=by rw[<- Dp,AhQ]
    have hq:((a++[KZ s]).map (·.2.2)).flatten.length=(a.map (·.2.2)).flatten.length+(Sp.raw s).length:=by rw[EX,EZ,Dp];congr 1;show(Sp.raw s++[]).length=_;rw[DX]
    refine ih _ _ (by omega) ⟨by simp;omega,?_,by omega⟩ (by omega) (by simp;omega);intro e he';rcases DK.1 he' with h' | h'
    .exact ha.all e h'
    .rw[DR.1 h'];exact⟨s,he,rfl,hs⟩
   .rw[Dn he];exact⟨by simp,by simp,by simp⟩
def KR (s:Bs):Good s.length (JQ s).1:=AuJ _ _ _ _ (DV _) ⟨by simp,by simp,by simp⟩ (by simp) (by simp)
def Good.mono {M K:Nat} {l:List El} (h:Good M l) (hk:M<=K):Good K l:=⟨by have:=h.len;omega,fun e he=>(h.all e he).mono hk,by have:=h.AzN;omega⟩
def Good.tail {M:Nat} {e:El} {l:List El} (h:Good M (e::l)):Good M l:=⟨by have:=h.len;simp at this;omega,fun e he=>h.all e (Dx _ he),by have:=h.AzN;rw[Ee,List.flatten_cons,Dp]at this;omega⟩
def MK (N:Nat) (s:Bs) (hN:4<N:=by omega) (hs:s.length<=1099511627776:=by omega) (hl:s.length<N:=by omega):Ry N s=some (JQ s):=by
 unfold Ry JQ;try simp -zeta only[Ap]
 refine NU (F:=fun x=>some (Oa (x.1.length+1) x.1 x.2)) (fun x=>x.1.length+x.2.length<=s.length) (fun x=>x.1.length) ?_ N (s,[]) (by simp) hl;rintro ⟨t,a⟩ hI k hk;dsimp only at hI hk;dsimp only[U2];by_cases h:t=[]
 .subst h;rfl
 .have hp:=vX h;rw[AiV,Dw h,Et,cond_true];show(Jr (Yv N t) _:Option (List El×Int))=some (if t=[]then(a,0)else if Sp.err t≠0 then([],Sp.err t)else Oa t.length (Sp.rest t) (a++[KZ t]));rw[Dk h,fK N t hN,Jt];by_cases he:Sp.err t=0
  .have hr:Nj t=(KZ t,Sp.rest t,0):=by unfold Nj;rw[Dn he]
   have hlt:=Sp.dO t he;rw[hr,Dk (by simp [he])];show Vm.chk (decide ((a.length+1)*41<=140737488355328)) (k (Sp.rest t,a++[KZ t]))=_;rw[TL,A52,hk (Sp.rest t,a++[KZ t]) (by simp;omega) hlt];exact congrArg some (Ab2 _ _ _ _ (by show(Sp.rest t).length<(Sp.rest t).length+1;omega) hlt)
  .have hr:Nj t=((0,[],[]),[],Sp.err t):=by unfold Nj;rw[Dk he]
   rw[hr,Dn he];show(bif Sp.err t != 0 then some (([]:List El),Sp.err t)else _)=_;rw[show(Sp.err t != 0)=true by simp [he]];rfl
def AnJ (N:Nat) (s:Bs) (hN:4<N) (hs:s.length<=1099511627776) (hl:s.length<N):nJ N s=some (JQ s):=by
 unfold nJ JQ;try simp -zeta only[Ap]
 refine NU (F:=fun x=>some (Oa (x.1.length+1) x.1 x.2)) (fun x=>x.1.length+x.2.length<=s.length) (fun x=>x.1.length) ?_ N (s,[]) (by simp) hl;rintro ⟨t,a⟩ hI k hk;dsimp only at hI hk;dsimp only[U2];by_cases h:t=[]
 .subst h;rfl
 .have hp:=vX h;rw[O8,Dn (show(t.length:Int)>0 by omega)];show(Jr (UH N t) _:Option (List El×Int))=some (if t=[]then(a,0)else if Sp.err t≠0 then([],Sp.err t)else Oa t.length (Sp.rest t) (a++[KZ t]));rw[Dk h,XZ N t hN,Jt];by_cases he:Sp.err t=0
  .have hr:Nj t=(KZ t,Sp.rest t,0):=by unfold Nj;rw[Dn he]
   have hlt:=Sp.dO t he;rw[hr,Dk (by simp [he])];show Vm.chk (decide ((a.length+1)*41<=140737488355328)) (k (Sp.rest t,a++[KZ t]))=_;rw[TL,A52,hk (Sp.rest t,a++[KZ t]) (by simp;omega) hlt];exact congrArg some (Ab2 _ _ _ _ (by show(Sp.rest t).length<(Sp.rest t).length+1;omega) hlt)
  .have hr:Nj t=((0,[],[]),[],Sp.err t):=by unfold Nj;rw[Dk he]
   rw[hr,Dn he];show(bif Sp.err t != 0 then some (([]:List El),Sp.err t)else _)=_;rw[show(Sp.err t != 0)=true by simp [he]];rfl
def Lu (l:List El) (t:Int):El×Bool×List El:=match l with
 | []=>((0,[],[]),false,[])
 | e::r=>if e.1=t then(e,true,r)else((0,[],[]),false,e::r)
def AsT {e:El} {r:List El} {t:Int} (h:e.1=t):Lu (e::r) t=(e,true,r):=by show(if e.1=t then(e,true,r)else((0,[],[]),false,e::r))=_;rw[Dn h]
def AsR {e:El} {r:List El} {t:Int} (h: ¬ e.1=t):Lu (e::r) t=((0,[],[]),false,e::r):=by show(if e.1=t then(e,true,r)else((0,[],[]),false,e::r))=_;rw[Dk h]
def fQ (N:Nat) (l:List El) (t:Int):Lc N l t=some (Lu l t):=by
 cases l with
 | nil=>rfl
 | cons e r =>
  have h0:(((e::r).length:Int)==(0:Int))=false:=by simp;omega
  have h1:decide ((0:Int)<((e::r).length:Int))=true:=Di (by simp only[List.length_cons];omega);have h2:decide ((1:Int)<=((e::r).length:Int))=true:=Di (by simp only[List.length_cons];omega);unfold Lc;try simp -zeta only[Ap]
  rw[h0,h1,h2];show(bif (e.1 != t)then some (((0,[],[]):El),false,e::r)else some (e,true,JD (e::r) 1 (e::r).length))=some (if e.1=t then(e,true,r)else((0,[],[]),false,e::r));have hc:JD (e::r) 1 (e::r).length=r:=by show((e::r).take (e::r).length).drop 1=r;rw[ED];rfl
  rw[hc];by_cases h:e.1=t
  .rw[Dn h,show(e.1 != t)=false by simp [h]];rfl
  .rw[Dk h,show(e.1 != t)=true by simp [h]];rfl
def aZ (N:Nat) (l:List El):Mc N l=some (if l=[]then 0 else 4,l):=by
 cases l with
 | nil=>rfl
 | cons e r =>unfold Mc;rw[O8,Dn (by simp only[List.length_cons];omega),Dk (by simp)]
def qC {M:Nat} {l:List El} (h:Good M l) (t:Int):Good M (Lu l t).2.2/\((Lu l t).2.1=true->eG M (Lu l t).1):=by
 cases l with
 | nil=>exact⟨h,fun h=>by cases h⟩
 | cons e r =>
  by_cases he:e.1=t
  .rw[AsT he];exact⟨h.tail,fun _=>h.all e Dv⟩
  .rw[AsR he];exact⟨h,fun h=>by cases h⟩
def Ars {α :Type} (l:List α):((l.length:Int)==(0:Int))=decide (l=[]):=by
 cases l with
 | nil=>rfl
 | cons e r=>rw[Dw (by simp)];simp;omega
def Adr (x:Int):(x != (0:Int))=decide (x≠0):=by by_cases h:x=0<;>simp [h]
def Avf (s:Bs) (t:Int):(List El×Int) ⊕ (Unit×Int) :=
 if(KH s).2≠0 then .inr ((),(KH s).2)else if(KH s).1.1≠t then .inr ((),5)else
 if(JQ (KH s).1.2.1).2≠0 then .inr ((),(JQ (KH s).1.2.1).2)else .inl ((JQ (KH s).1.2.1).1,0)
def QR (s:Bs):(KH s).1.2.1.length<=s.length/\(KH s).1.2.2.length<=s.length:=by
 unfold KH;split
 .rename_i h;have he:=(VT h).1;have:=Sp.SG s he;have hr:=Sp.nG s he;have:=Sp.nH s he;show(Sp.content s).length<=_/\(Sp.raw s).length<=_;omega
 .simp
def A0T (N:Nat) (s:Bs) (t:Int) (hN:4<N) (hs:s.length<=1099511627776) (hl:s.length<N):Un N s t=some (Avf s t):=by
 have hc:=QR s;unfold Un OB Avf;rw[UR N s hN hs];simp only[Jt];generalize KH s=o at hc ⊢;by_cases h1:o.2=0
 .rw[Dk (by simp [h1]),Adr,Dw (by simp [h1]),cond_false];by_cases h2:o.1.1=t
  .rw[Dk (by simp [h2]),show(o.1.1 != t)=false by rw[h2];simp];unfold Om;simp only[cond_false,Jt];rw[MK N _ hN (by omega) (by omega)];simp only[Jt];by_cases h3:(JQ o.1.2.1).2=0
   .rw[Dk (by simp [h3]),Adr (JQ o.1.2.1).2,Dw (by simp [h3])];rfl
   .rw[Dn h3,Adr (JQ o.1.2.1).2,Di h3];rfl
  .rw[Dn h2,show(o.1.1 != t)=true from FK.2 h2];rfl
 .rw[Dn h1,Adr,Di h1,cond_true,Jt,Adr,Di h1];rfl
def spP (r:Bs) (k:Nat):Bool:=k==0||(!r.isEmpty&&(r.getD (r.length - 1) 0).toNat % 2 ^ k==0)
def A3D:((List.range 256).all fun b=>(List.range 8).all fun k=>(JF BinOp.and .u8 (b:Int) (u8.wrap (u8.wrap (1*2 ^ min k 8) - 1))==0)==(b % 2 ^ k==0))=true:=by kernel_rfl
def A2k {b k:Nat} (hb:b<256) (hk:k<8):(JF BinOp.and .u8 (b:Int) (u8.wrap (u8.wrap (1*2 ^ min k 8) - 1))==0)=(b % 2 ^ k==0):=by have h:=D8.1 (D8.1 A3D b (Fe.2 hb)) k (Fe.2 hk);exact EN.1 h
def A0f (N:Nat) (r:Bs) (k:Nat) (hk:k<8) (hr:r.length<=1048576):UE N r (k:Int)=some (spP r k):=by
 unfold UE spP;try simp only[clR]
 have hu:u64.wrap (k:Int)=(k:Int):=by show((k:Int) % 18446744073709551616)=k;omega
 cases hr0:r with
 | nil =>
  by_cases h0:k=0
  .subst h0;rfl
  .rw[show((k:Int)==0)=false by simp;omega,show(k==0)=false by simp [h0]];rfl
 | cons x y =>
  rw[<- hr0];have hp:0<r.length:=by rw[hr0];exact Jd _
  have hn:(r==[])=false:=by rw[hr0];rfl
  have he:r.isEmpty=false:=by rw[hr0];rfl
  have hb:=(r.getD (r.length - 1) 0).toNat_lt;rw[hu,hn,he];by_cases h0:k=0
  .subst h0;rfl
  .simp (disch:=omega) only[JH,A2k hb hk];rw[show(k==0)=false by simp [h0]];rfl
def Qh (s:Bs):Bs×Int×Int:=match s with
 | []=>([],0,7)
 | u::r=>bif decide (7<u.toNat)|| !spP r u.toNat then([],0,7)else(r,(u.toNat:Int),0)
def AyH (u:UInt8) (r:Bs):JD (u::r) 1 (u::r).length=r:=by show((u::r).take (u::r).length).drop 1=r;rw[ED];rfl
def rC (N:Nat) (s:Bs) (hs:s.length<=1048576):iO N s=some (Qh s):=by
 cases s with
 | nil=>rfl
 | cons u r =>
  have hr:r.length<=1048576:=by rw[List.length_cons]at hs;omega
  have hu:=u.toNat_lt;unfold iO Qh;try simp only[clR]
  rw[AyH];have hl:(u::r).length=r.length+1:=rfl;have hn:((u::r)==([]:Bs))=false:=rfl;by_cases h7:7<u.toNat
  .simp (disch:=omega) only[JH,hl,hn,Eh]
  .have hS:=A0f N r u.toNat (by omega) hr;simp (disch:=omega) only[JH,hl,hn,Eh,hS,Option.isSome_some,Option.getD_some];rw[Lr]
def AuN {E R S:Type} (f:E->S->S): ∀(l:List E) (s:S),RG (R:=R) (fun e s=>.inr (f e s)) l s= .inr (l.foldl (fun s e=>f e s) s):=by
 intro l
 induction l with
 | nil=>intro s;rfl
 | cons e r ih=>intro s;rw[QF];exact ih _
def Aht {X Y S ρ :Type} {B:X->(X->Option ρ)->(Y->Option ρ)->Option ρ} {kx:Y->Option ρ} (mk:Nat->S->X) (n:Nat) (f:Nat->S->S) (fin:S->Option ρ)
 (h: ∀(i:Nat) (s:S),i<n-> ∀ k,B (mk i s) k kx=k (mk (i+1) (f i s)))
 (hend: ∀(s:S) (k:X->Option ρ),B (mk n s) k kx=fin s) (N:Nat) (s:S) (hN:n<N:=by omega):JB B N (mk 0 s) kx=fin ((List.range n).foldl (fun s i=>f i s) s):=by
 refine(iQ (R:=Unit) mk (List.range n) 0 (fun i s=>.inr (f i s)) (fun _=>none) fin ?_ ?_ N s (by rw[Ef];exact hN)).trans ?_
 .intro i s hi k;rw[Ef]at hi;rw[AbJ hi];exact h i s hi k
 .intro s k;rw[Ef];exact hend s k
 .rw[AuN];rfl
def Ae9 (r:Bs) (i:Nat):Bool:=(r.getD (i / 8) 0).toNat / 2 ^ (7 - i % 8) % 2==1
def A2H:((List.range 256).all fun b=>(List.range 8).all fun k=>((JF BinOp.and .u8 ((b:Int).fdiv (2 ^ min k 8)) 1==1)==(b / 2 ^ k % 2==1))&&(((((b:Int).fdiv (2 ^ min k 8)).tmod 2==1)==(b / 2 ^ k % 2==1))&&((((b:Int).fdiv (2 ^ min k 8)).tmod 2==0)== !(b / 2 ^ k % 2==1))))=true:=by kernel_rfl
def A1i {b k:Nat} (hb:b<256) (hk:k<8):(JF BinOp.and .u8 ((b:Int).fdiv (2 ^ min k 8)) 1==1)=(b / 2 ^ k % 2==1)/\(((b:Int).fdiv (2 ^ min k 8)).tmod 2==1)=(b / 2 ^ k % 2==1)/\(((b:Int).fdiv (2 ^ min k 8)).tmod 2==0)= !(b / 2 ^ k % 2==1):=by have h:=D8.1 (D8.1 A2H b (Fe.2 hb)) k (Fe.2 hk);simp only[Dq]at h;exact⟨EN.1 h.1,EN.1 h.2.1,EN.1 h.2.2⟩
def Amk {x:Int} (h0:0<=x:=by omega) (h1:x<18446744073709551616:=by omega):u64.wrap x=x:=by show x % 18446744073709551616=x;omega
def AgK (N:Nat) (r:Bs) (i:Nat) (hr:r.length<=1048576:=by omega) (hi:i<8*r.length:=by omega):dH N r (i:Int)=some (Ae9 r i):=by
 unfold dH;try simp only[clR]
 have e1:(i:Int).tdiv 8=((i / 8:Nat):Int):=rfl;have e2:(i:Int).tmod 8=((i % 8:Nat):Int):=rfl;have e3:u64.wrap ((i % 8:Nat):Int)=((i % 8:Nat):Int):=Amk;have e4:u64.wrap (7 - ((i % 8:Nat):Int))=((7 - i % 8:Nat):Int):=by rw[Amk];omega
 rw[e1,e2,e3,e4];have hb:=(A1i (r.getD (i / 8) 0).toNat_lt (show 7 - i % 8<8 by omega)).1;simp (disch:=omega) only[JH,hb];rfl
def AyA (s:Bs) (h:((Qh s).2.2 != 0)=false): ∃ r k,Qh s=(r,((k:Nat):Int),0)/\k<8/\(r=[]->k=0)/\r.length<=s.length:=by
 cases s with
 | nil=>cases h
 | cons u r =>
  unfold Qh at h ⊢;dsimp only at h ⊢;cases hb:decide (7<u.toNat)|| !spP r u.toNat with
  | true=>rw[hb]at h;cases h
  | false =>
   rw[EU]at hb;have h7:=DY hb.1;refine⟨r,u.toNat,rfl,by omega,fun hr=> ?_,by rw[List.length_cons];omega⟩;subst hr;have:=hb.2;unfold spP at this;by_cases h0:u.toNat=0
   .exact h0
   .rw[show(u.toNat==0)=false by simp [h0]]at this;cases this
def flV (r:Bs) (n:Nat):Int×Int :=
 bif decide (0<n)&& !Ae9 r (n - 1)then(0,7)else bif decide (16<n)then(0,1)else
 ((List.range n).foldl (fun acc i=>bif Ae9 r i then JF .or .i64 acc (i64.wrap (1*2 ^ min i 64))else acc) 0,0)
def flP (s:Bs):Int×Int:=bif (Qh s).2.2 != 0 then(0,(Qh s).2.2)else flV (Qh s).1 (8*(Qh s).1.length - (Qh s).2.1.toNat)
def Ac4 (N:Nat) (s:Bs) (hN:1048578<N) (hs:s.length<=1048576):QI N s=some (flP s):=by
 unfold QI flP;try simp only[clR]
 rw[rC N s hs,Jt];cases h:(Qh s).2.2 != 0 with
 | true=>rfl
 | false =>
  obtain⟨r,k,he,hk,h0,hr⟩:=AyA s h;rw[he];dsimp only[cond_false];unfold flV;have hz:r.length=0->k=0:=fun e=>h0 (Gy.1 e);have e1:i64.wrap (8*(r.length:Int))=((8*r.length:Nat):Int):=by rw[w64];omega
  have e2:i64.wrap (((8*r.length:Nat):Int) - (k:Int))=((8*r.length - k:Nat):Int):=by rw[w64];omega
  rw[e1,e2,Int.toNat_natCast];have hn:8*r.length - k<=8*r.length:=Nat.sub_le _ _;generalize 8*r.length - k=n at hn;by_cases hn0:n=0
  .subst hn0;simp (disch:=omega) only[JH];refine(Aht (fun i acc=>(acc,(i:Int))) 0 (fun i acc=>acc) (fun acc=>some (acc,0)) ?_ ?_ N 0).trans rfl
   .intro i acc hi k2;omega
   .intro acc k2;simp (disch:=omega) only[JH]
  .have e3:i64.wrap ((n:Int) - 1)=((n - 1:Nat):Int):=by rw[w64];omega
   have hB:=AgK N r (n - 1);rw[e3,hB];by_cases h16:16<n
   .simp (disch:=omega) only[JH,Option.isSome_some,Option.getD_some];rw[Lr]
   .simp (disch:=omega) only[JH,Option.isSome_some,Option.getD_some];rw[<- Lr];refine OQ fun _=> ?_;refine(Aht (fun i acc=>(acc,(i:Int))) n (fun i acc=>bif Ae9 r i then JF .or .i64 acc (i64.wrap (1*2 ^ min i 64))else acc) (fun acc=>some (acc,0)) ?_ ?_ N 0).trans rfl
    .intro i acc hi k2;have hB:=AgK N r i;have hu:=Amk (x:=(i:Int));simp (disch:=omega) only[JH,hB,hu];cases Ae9 r i<;>rfl
    .intro acc k2;simp (disch:=omega) only[JH]
end Go.Proofs.YtmgpaalplkkpnaaGreatDoor.Pl
namespace Go.Proofs.YtmgpaalplkkpnaaGreatDoor.Vm
open IntKind (i64 u8 u32 u64)
open Go
def KL (c:UInt8):Bs->List Bs
 | []=>[[]]
 | b::r=>if b=c then []::KL c r else match KL c r with
  | []=>[[b]]
  | h::t=>(b::h)::t
def AmT (c:UInt8) (s:Bs):KL c s≠ []:=by
 cases s with
 | nil=>simp [KL]
 | cons b r =>
  unfold KL;split
  .simp
  .split<;>simp
def fJ (c b:UInt8) (r:Bs) (h:b≠c):KL c (b::r)=(b::(KL c r).headD [])::(KL c r).tail:=by
 have hn:=AmT c r;show(if b=c then _ else _)=_;rw[Dk h];cases hs:KL c r with
 | nil=>exact absurd hs hn
 | cons x t=>rfl
def Afh (c:UInt8): ∀(a r:Bs),c∉a->KL c (a++c::r)=a::KL c r:=by
 intro a
 induction a with
 | nil =>intro r _;show(if c=c then _ else _)=_;rw[Dn rfl]
 | cons b a ih =>intro r h;have hb:b≠c:=fun e=>h (by rw[e];exact Dv);have:=ih r (fun hm=>h (Dx _ hm));show KL c (b::(a++c::r))=_;rw[fJ _ _ _ hb,this];rfl
def yQ (c:UInt8): ∀ a:Bs,c∉a->KL c a=[a]:=by
 intro a
 induction a with
 | nil=>intro _;rfl
 | cons b a ih =>intro h;have hb:b≠c:=fun e=>h (by rw[e];exact Dv);rw[fJ _ _ _ hb,ih (fun hm=>h (Dx _ hm))];rfl
def index_none (c:UInt8): ∀ s:Bs,c∉s->Lib.index s [c]= -1:=by
 intro s
 induction s with
 | nil=>intro _;rfl
 | cons b r ih =>intro h;have hb: ¬ c=b:=fun e=>h (by rw[e];exact Dv);have h2:=ih (fun hm=>h (Dx _ hm));show(if List.isPrefixOf [c] (b::r)=true then(0:Int)else if Lib.index r [c]== -1 then -1 else Lib.index r [c]+1)= -1;rw[h2,Dk (by simp [List.isPrefixOf,hb])];rfl
def Ah1 (c:UInt8): ∀(a r:Bs),c∉a->Lib.index (a++c::r) [c]=(a.length:Int):=by
 intro a
 induction a with
 | nil =>intro r _;show(if List.isPrefixOf [c] (c::r)=true then(0:Int)else _)=_;rw[Dn (by simp [List.isPrefixOf])];rfl
 | cons b a ih =>intro r h;have hb: ¬ c=b:=fun e=>h (by rw[e];exact Dv);have h2:=ih r (fun hm=>h (Dx _ hm));show(if List.isPrefixOf [c] (b::(a++c::r))=true then(0:Int)else if Lib.index (a++c::r) [c]== -1 then -1 else Lib.index (a++c::r) [c]+1)=_;rw[h2,Dk (by simp [List.isPrefixOf,hb]),Dk (by simp)];simp
def AdC (c:UInt8) (s:Bs):c∉s\/ ∃ a r,s=a++c::r/\c∉a:=by
 induction s with
 | nil=>left;simp
 | cons b t ih =>
  by_cases hb:b=c
  .right;exact⟨[],t,by rw[hb];rfl,by simp⟩
  .rcases ih with h | ⟨a,r,h1,h2⟩
   .left;intro hm;rcases D7.1 hm with h3 | h3
    .exact hb h3.symm
    .exact h h3
   .right;refine⟨b::a,r,by rw[h1];rfl,fun hm=> ?_⟩;rcases D7.1 hm with h3 | h3
    .exact hb h3.symm
    .exact h2 h3
def AxV (c:UInt8): ∀(n:Nat) (s:Bs),s.length<=n->Lib.splitK [c] 0 (Lib.count s [c]) s=KL c s:=by
 intro n
 induction n with
 | zero =>intro s h;have:s=[]:=FQ (by omega);subst this;rfl
 | succ n ih =>
  intro s h;rcases AdC c s with hn | ⟨a,r,rfl,ha⟩
  .rw[Lib.count_miss (index_none c s hn),yQ c s hn];rfl
  .have hi:=Ah1 c a r ha;rw[Lib.count_hit (by simp) hi,Nat.add_comm];show(if Lib.index (a++c::r) [c]== -1 then _ else _)=_;rw[hi,Dk (by simp),Afh c a r ha];have e1:(a++c::r).take ((a.length:Int).toNat+0)=a:=by simp
   have e2:(a++c::r).drop ((a.length:Int).toNat+ [c].length)=r:=by rw[show((a.length:Int).toNat+ [c].length)=a.length+1 from by simp];rw[<- FU,Hf];rfl
   have e3:(a++c::r).drop (a.length+ [c].length)=r:=by rw[show(a.length+ [c].length)=a.length+1 from by simp,<- FU,Hf];rfl
   rw[e1,e2,e3,ih r (by simp at h;omega)]
def AqM (c:UInt8) (s:Bs):Lib.split s [c]=KL c s:=AxV c s.length s (DV _)
def Ace (c:UInt8): ∀ s:Bs,(KL c s).length<=s.length+1/\0<(KL c s).length/\ ∀ x∈KL c s,x.length<=s.length:=by
 intro s
 induction s with
 | nil=>exact⟨by simp [KL],by simp [KL],by intro x hx;simp [KL]at hx;simp [hx]⟩
 | cons b r ih =>
  obtain⟨h1,h2,h3⟩:=ih;by_cases hb:b=c
  .have e:KL c (b::r)=[]::KL c r:=by show(if b=c then _ else _)=_;rw[Dn hb]
   rw[e];refine⟨by simp;omega,by simp,fun x hx=> ?_⟩;rcases D7.1 hx with rfl | hx
   .simp
   .have:=h3 x hx;simp;omega
  .rw[fJ _ _ _ hb];cases hs:KL c r with
   | nil=>rw[hs]at h2;simp at h2
   | cons y t =>
    rw[hs]at h1 h3;refine⟨by simp at h1 ⊢;omega,by simp,fun x hx=> ?_⟩;rcases D7.1 hx with rfl | hx
    .have:=h3 y Dv;simp;omega
    .have:=h3 x (Dx _ hx);simp;omega
end Go.Proofs.YtmgpaalplkkpnaaGreatDoor.Vm
namespace Go.Proofs.YtmgpaalplkkpnaaGreatDoor.Pl
open IntKind (i64 u8 u32 u64)
open Go Vm
def Md (c:UInt8):Bool:=decide (48<=c.toNat)&&decide (c.toNat<=57)
def OT (d:Bs):Nat:=d.foldl (fun v c=>10*v+(c.toNat - 48)) 0
def AdG (d:Bs) (c:UInt8):OT (d++[c])=10*OT d+(c.toNat - 48):=by simp [OT,Ik]
def AyO: ∀(d:Bs) (v k:Nat),d.all Md=true->v<10 ^ k->d.foldl (fun v c=>10*v+(c.toNat - 48)) v<10 ^ (k+d.length):=by
 intro d
 induction d with
 | nil=>intro v k _ h;exact h
 | cons c d ih =>intro v k h hv;rw[List.all_cons,Dq]at h;have h2:=h.1;unfold Md at h2;simp only[Dq,D5]at h2;have:=ih (10*v+(c.toNat - 48)) (k+1) h.2 (by rw[Nat.pow_succ];omega);rw[List.length_cons,show k+(d.length+1)=k+1+d.length by omega];exact this
def AsH (d:Bs) (h:d.all Md=true):OT d<10 ^ d.length:=by have:=AyO d 0 0 h (by decide);rwa [DT]at this
def Aiv (d:Bs):Bool:= !(decide (d.length=0)||decide (10<d.length)||(decide ((d.getD 0 0).toNat=48)&&decide (1<d.length)))&&(d.all Md&&decide (OT d<=2147483647))
def TJ (d:Bs):Option Nat:=if Aiv d then some (OT d)else none
def Avh:Option Nat->Int
 | none=> -1
 | some n=>n
def Api {c:Nat} (h1:48<=c) (h2:c<=57):i64.wrap (u8.wrap ((c:Int) - 48))=((c - 48:Nat):Int):=by rw[w8,w64];omega
def Ay0 {ρ :Type} (N:Nat) (s:Bs) (hs:s.length<=10) (hN:10<N) (bad:Option ρ) (fin:Int->Option ρ) :
 JB (X:=Int×Int) (Y:=Int) (U2 fun t3a t4a k7 x8 =>
  bif decide (t4a<(s.length:Int))then Vm.chk (decide ((0:Int)<=t4a)) (Vm.chk (decide (t4a<(s.length:Int)))
   (Vm.chk (decide ((0:Int)<=t4a)||decide (((s.getD t4a.toNat 0).toNat:Int)<(48:Int)))
     (Vm.chk (decide (t4a<(s.length:Int))||decide (((s.getD t4a.toNat 0).toNat:Int)<(48:Int)))
       (bif decide (((s.getD t4a.toNat 0).toNat:Int)<(48:Int))||decide (((s.getD t4a.toNat 0).toNat:Int)>(57:Int))then bad
        else Vm.chk (decide ((0:Int)<=t4a)) (Vm.chk (decide (t4a<(s.length:Int)))
         (k7 (i64.wrap ((i64.wrap ((10:Int)*t3a))+i64.wrap (u8.wrap (((s.getD t4a.toNat 0).toNat:Int) - (48:Int)))),i64.wrap (t4a+(1:Int)))))))))
  else x8 t3a) N (0,0) fin=if s.all Md=true then fin ((OT s:Nat):Int)else bad:=by
 refine NU (I:=fun x=> ∃ i:Nat,x=(((OT (s.take i):Nat):Int),(i:Int))/\i<=s.length/\(s.take i).all Md=true) (μ :=fun x=>s.length - x.2.toNat) (fun _=>if s.all Md=true then fin ((OT s:Nat):Int)else bad) ?_ N (0,0) ⟨0,rfl,by omega,rfl⟩ (by show s.length - 0<N;omega);rintro x ⟨i,rfl,hi,hd⟩ k hk;show(bif decide ((i:Int)<(s.length:Int))then _ else _)=_;by_cases hl:i<s.length
 .have hv:=AsH (s.take i) hd;have h10:(10:Nat) ^ (s.take i).length<=10 ^ 9:=GM (by decide) (by simp;omega);have hg:s.getD ((i:Int)).toNat 0=s[i]:=getD_lt s i 0 hl;rw[Di,cond_true,hg,Di (show(0:Int)<=(i:Int) by omega)];simp only[DU,JI];have htake:s.take (i+1)=s.take i++[s[i]]:=by rw[FO,DD hl];rfl
  by_cases hc:Md s[i]=true
  .have hc':=hc;unfold Md at hc';simp only[Dq,D5]at hc';rw[A50,A50];simp only[FM,cond_false];rw[Api hc'.1 hc'.2,w64 (x:=(10:Int)*((OT (s.take i):Nat):Int)),w64 (x:=(10:Int)*((OT (s.take i):Nat):Int)+_),w64 (x:=(i:Int)+1)];refine hk _ ⟨i+1,?_,by omega,by rw[htake,H8,hd];simpa using hc⟩ (by show s.length - ((i:Int)+1).toNat<s.length - ((i:Int)).toNat;omega);rw[htake,AdG]
   push_cast
   rfl
  .have hall: ¬(s.all Md=true):=fun h=>hc (As8 h hl);rw[Dk hall];have:(decide (((s[i].toNat:Nat):Int)<48)||decide (((s[i].toNat:Nat):Int)>57))=true:=by unfold Md at hc;simp only[Dq,D5]at hc;simp only[EE,D5];omega
   rw[this,cond_true]
 .have:i=s.length:=by omega
  subst this;rw[A50,cond_false];rw[ED]at hd;rw[Dn hd,ED]
def Ava (N:Nat) (s:Bs) (hN:16<N):Aay N s=some (Avh (TJ s)):=by
 unfold Aay;try simp only[clR]
 by_cases h0:s.length=0
 .have:s=[]:=FQ h0;subst this;rfl
 .have hne:(s==([]:Bs))=false:=by cases s with | nil=>exact absurd rfl h0 | cons _ _=>rfl
  rw[hne,Di (show(0:Int)<(s.length:Int) by omega)];simp only[F7,DU,JI];unfold TJ Aiv;by_cases h1:10<s.length
  .rw[Di (show(s.length:Int)>10 by omega),Di h1];simp [JI,Avh]
  .rw[Dw (show ¬((s.length:Int)>10) by omega),Dw h1,Dw h0];simp only[FP,F7,Et,FD,FW,JI];by_cases h2:(s.getD 0 0).toNat=48/\1<s.length
   .rw[show(((s.getD 0 0).toNat:Int)==48)=true from by rw[EN];omega,Di (show(s.length:Int)>1 by omega),Di h2.1,Di h2.2];rfl
   .have e:((((s.getD 0 0).toNat:Int)==48)&&decide ((s.length:Int)>1))=false:=by
     rw[Fv];simp only[HY,EG];omega
    have e':(decide ((s.getD 0 0).toNat=48)&&decide (1<s.length))=false:=by rw[Fv];simp only[EG];omega
    rw[e,e',cond_false];refine ER (Ay0 N s (by omega) (by omega) _ _) ?_;by_cases h3:s.all Md=true
    .rw[Dn h3,h3];by_cases h4:OT s<=2147483647
     .rw[A50,Di h4];rfl
     .rw[Di,Dw h4];rfl
    .rw[Dk h3,show s.all Md=false by simpa using h3];rfl
def Wj (l:List Nat):Bool:=(decide (l.getD 0 0<=1)&&decide (l.getD 1 0<=39))||decide (l.getD 0 0=2)
def Oq (s:Bs):Option (List Nat) :=
 if(KL 46 s).length<2\/12<(KL 46 s).length then none
 else match Rj TJ (KL 46 s)with
  | none=>none
  | some l=>if Wj l=true then some l else none
def ints (l:List Nat):List Int:=l.map fun(n:Nat)=>(n:Int)
def A3p:Option (List Nat)->List Int
 | none=>[]
 | some l=>ints l
def A1d {s:Bs} {n:Nat} (h:TJ s=some n):n<=2147483647:=by
 unfold TJ at h;split at h
 .rename_i hk;injection h with h;unfold Aiv at hk;simp only[Dq,D5]at hk;omega
 .cases h
def Az5 {α β :Type} {f: α ->Option β}: ∀ {l:List α} {r:List β},Rj f l=some r-> ∀ b∈r,∃ a∈l,f a=some b:=by
 intro l
 induction l with
 | nil=>intro r h b hb;injection h with h;subst h;cases hb
 | cons a t ih =>
  intro r h b hb;unfold Rj at h;split at h
  .rename_i x q h1 h2;injection h with h;subst h;rcases D7.1 hb with rfl | hb
   .exact⟨a,Dv,h1⟩
   .obtain⟨y,h3,h4⟩:=ih h2 b hb;exact⟨y,Dx _ h3,h4⟩
  .cases h
def ArX (N:Nat) (a b:Nat):AbC N (a:Int) (b:Int)=some ((decide (a<=1)&&decide (b<=39))||decide (a=2)):=by
 unfold AbC;try simp only[clR]
 have e1:decide ((a:Int)<=1)=decide (a<=1):=by rw[Hu];omega
 have e2:decide ((b:Int)<=39)=decide (b<=39):=by rw[Hu];omega
 have e3:((a:Int)==2)=decide (a=2):=by rw[EW,EN,D5];omega
 rw[e1,e2,e3]
def AgH (N:Nat) (s:Bs) (hN:16<N) (hs:s.length<=1048576):qU N s=some (A3p (Oq s)):=by
 unfold qU;try simp only[clR]
 have hsp:strings_Split N s [46]=some (KL 46 s):=by unfold strings_Split;rw[Di,AqM];rfl
 rw[hsp,Jt];unfold Oq;have hlen:=Ace 46 s;generalize hp:KL 46 s=p at hlen ⊢;by_cases h1:p.length<2\/12<p.length
 .rw[Dn h1,show(decide ((p.length:Int)<2)||decide ((p.length:Int)>12))=true by simp only[EE,D5];omega];rfl
 .rw[Dk h1,show(decide ((p.length:Int)<2)||decide ((p.length:Int)>12))=false by simp only[EU,EG];omega,cond_false];refine ER (Uw (S:=List Int) (mk:=fun i a=>(i,a)) (out:=fun a=>a) p [] (fun i a=>a.length=i) (nV TJ (fun a v=>a++[(v:Int)]) (some [])) ?_ ?_ N [] rfl) ?_
  .intro i a hi ha;have hg:p.getD ((i:Int)).toNat []=p[i]:=getD_lt p i [] hi;rw[getD_lt p i [] hi];have key: ∀(K:Int->Option (List Int)),(Vm.chk (decide ((0:Int)<=(i:Int))) (Vm.chk (decide ((i:Int)<(p.length:Int))) (Jr (Aay N (p.getD ((i:Int)).toNat [])) K)))=K (Avh (TJ p[i])):=by intro K;rw[Di (show(0:Int)<=(i:Int) by omega),Di (show(i:Int)<(p.length:Int) by omega),JI,JI,hg,Ava N _ hN,Jt]
   refine AqN (fun hv k=> ?_) (fun v hv=>⟨fun k=> ?_,by simp [ha]⟩)
   .dsimp only[U2];rw[key,hv,Di (show(i:Int)<(p.length:Int) by omega)];rfl
   .dsimp only[U2];rw[key,hv,Di (show(i:Int)<(p.length:Int) by omega),cond_true];rw[show Avh (some v)=(v:Int)from rfl,Dw (show ¬((v:Int)<0) by omega),cond_false,Di (show(a.length+1)*9<=140737488355328 by omega),JI,w64]
  .intro a k ha;dsimp only[U2];rw[A50,cond_false]
  .rw[AqG];cases hm:Rj TJ p with
   | none=>rfl
   | some l =>
    have hl:=Ah9 hm;have hf:l.foldl (fun(a:List Int) (v:Nat)=>a++[(v:Int)]) []=l.map (fun(v:Nat)=>(v:Int)):=by rw[Am5,List.nil_append]
    dsimp only[Option.elim];rw[hf];have e1:(l.map (fun(v:Nat)=>(v:Int))).length=l.length:=Dz ..;rw[e1,Di (show(0:Int)<(l.length:Int) by omega),Di (show 0<l.length by omega),Di (show(1:Int)<(l.length:Int) by omega),Di (show 1<l.length by omega)];simp only[JI];have g0:(l.map (fun(v:Nat)=>(v:Int))).getD 0 0=((l.getD 0 0:Nat):Int):=by rw[getD_lt _ 0 0 (by rw[e1];omega),getD_lt _ 0 0];simp
    have g1:(l.map (fun(v:Nat)=>(v:Int))).getD 1 0=((l.getD 1 0:Nat):Int):=by rw[getD_lt _ 1 0 (by rw[e1];omega),getD_lt _ 1 0];simp
    rw[g0,g1,ArX,Jt];show(bif !(Wj l)then _ else _)=_;cases Wj l<;>rfl
def xQ (cur:Bs) (out:List Nat):Option (List Nat):=if out.length=12 then none else(TJ cur).map fun v=>out++[v]
def VA:Bs->List Nat->Bs->Option (List Nat)
 | cur,out,[]=>xQ cur out
 | cur,out,c::r=>if c=46 then(xQ cur out).bind fun o=>VA [] o r else if Md c=true then VA (cur++[c]) out r else none
def AmR (cur:Bs) (out:List Nat) (r:Bs):VA cur out (46::r)=(xQ cur out).bind fun o=>VA [] o r:=Dn rfl
def AmP (cur:Bs) (out:List Nat) (c:UInt8) (r:Bs) (h1:c≠46) (h2: ¬ Md c=true):VA cur out (c::r)=none:=by show(if c=46 then _ else if Md c=true then _ else _)=_;rw[Dk h1,Dk h2]
def AmQ (cur:Bs) (out:List Nat) (c:UInt8) (r:Bs) (h1:c≠46) (h2:Md c=true):VA cur out (c::r)=VA (cur++[c]) out r:=by show(if c=46 then _ else if Md c=true then _ else _)=_;rw[Dk h1,Dn h2]
def Yh (l:List Nat):Option (List Nat):=if 2<=l.length/\Wj l=true then some l else none
def Aid:Option (List Nat)->List Int×Bool
 | none=>([],false)
 | some l=>(ints l,true)
def Asj {ρ :Type} (N:Nat) (d:Bs) (out:List Int) (hs:d.length<=10) (hd:d.all Md=true) (hN:10<N) (fin:Int×List Int->Option ρ) :
 JB (X:=Int×Int×List Int) (Y:=Int×List Int) (U3 fun t8b t9b l1004096b k11 x12 =>
  bif decide (t9b<(d.length:Int))then Vm.chk (decide (0<=t9b)) (Vm.chk (decide (t9b<(d.length:Int)))
   (k11 (i64.wrap (i64.wrap (10*t8b)+i64.wrap (u8.wrap (((d.getD t9b.toNat 0).toNat:Int) - 48))),i64.wrap (t9b+1),l1004096b)))
  else x12 (t8b,l1004096b)) N (0,0,out) fin=fin ((OT d:Nat),out):=by
 refine NU (I:=fun x=> ∃ i:Nat,x=(((OT (d.take i):Nat):Int),(i:Int),out)/\i<=d.length) (μ :=fun x=>d.length - x.2.1.toNat) (fun _=>fin ((OT d:Nat),out)) ?_ N (0,0,out) ⟨0,rfl,by omega⟩ (by show d.length - 0<N;omega);rintro x ⟨i,rfl,hi⟩ k hk;dsimp only[U3];by_cases hl:i<d.length
 .have hdi:(d.take i).all Md=true:=D8.2 fun x hx=>D8.1 hd x (Gi hx);have hv:=AsH (d.take i) hdi;have h10:(10:Nat) ^ (d.take i).length<=10 ^ 9:=GM (by decide) (by simp;omega);have hg:d.getD ((i:Int)).toNat 0=d[i]:=getD_lt d i 0 hl;have htake:d.take (i+1)=d.take i++[d[i]]:=by rw[FO,DD hl];rfl
  have hc:=As8 hd hl;unfold Md at hc;simp only[Dq,D5]at hc;rw[Di,cond_true,hg,Di (show(0:Int)<=(i:Int) by omega),JI,JI];rw[Api hc.1 hc.2,w64 (x:=(10:Int)*((OT (d.take i):Nat):Int)),w64 (x:=(10:Int)*((OT (d.take i):Nat):Int)+_),w64 (x:=(i:Int)+1)];refine hk _ ⟨i+1,?_,by omega⟩ (by show d.length - ((i:Int)+1).toNat<d.length - ((i:Int)).toNat;omega);rw[htake,AdG]
  push_cast
  rfl
 .have:i=d.length:=by omega
  subst this;rw[A50,cond_false,ED]
def AoM {d:Bs} (hd:d.all Md=true):TJ d=if d.length=0\/10<d.length\/((d.getD 0 0).toNat=48/\1<d.length)\/2147483647<OT d then none else some (OT d):=by
 unfold TJ Aiv;rw[hd];by_cases h:d.length=0\/10<d.length\/((d.getD 0 0).toNat=48/\1<d.length)\/2147483647<OT d
 .rw[Dn h,Dk];simp only[Dq,Eu,EU,EG,Fv,D5];omega
 .rw[Dk h,Dn];have h1:d.length≠0:=by omega
  have h2: ¬ 10<d.length:=by omega
  have h3:OT d<=2147483647:=by omega
  have h4:(decide ((d.getD 0 0).toNat=48)&&decide (1<d.length))=false:=by rw[Fv,EG,EG];omega
  rw[Dw h1,Dw h2,Di h3,h4];rfl
def A1u {d:Bs} (o:List Nat) (hd:d.all Md=true):xQ d o=if(d.length=0\/10<d.length\/((d.getD 0 0).toNat=48/\1<d.length))\/o.length=12\/2147483647<OT d then none else some (o++[OT d]):=by
 unfold xQ;rw[AoM hd];by_cases h1:o.length=12
 .rw[Dn h1,Dn (.inr (.inl h1))]
 .rw[Dk h1];by_cases h2:d.length=0\/10<d.length\/((d.getD 0 0).toNat=48/\1<d.length)\/2147483647<OT d
  .rw[Dn h2,A52];rfl
  .rw[Dk h2,A51];rfl
def Amz (s:Bs) {a j:Nat} (ha:a<=j) (hj:j<s.length):JD s a (j+1)=JD s a j++[s[j]]:=by unfold JD;rw[FO,DD hj,List.drop_append_of_le_length (by simp;omega)];rfl
def uQ {α :Type} (s:List α) (a:Nat):JD s a a=[]:=by unfold JD;exact FX (by simp;omega)
def AwZ (o:List Nat) (v:Nat):ints o++[(v:Int)]=ints (o++[v]):=by simp [ints]
def ND (o:List Nat):(ints o).length=o.length:=Dz ..
def A2a (o:List Nat):(Vm.chk (decide (0<((ints o).length:Int))||decide (((ints o).length:Int)<2))
 (Vm.chk (decide (0<(ints o).length)||decide (((ints o).length:Int)<2))
   (Vm.chk (decide (0<((ints o).length:Int))||(decide (((ints o).length:Int)<2)||decide ((ints o).getD 0 0>2)))
     (Vm.chk (decide (0<(ints o).length)||(decide (((ints o).length:Int)<2)||decide ((ints o).getD 0 0>2)))
       (Vm.chk (decide (1<((ints o).length:Int))|| !(!(decide (((ints o).length:Int)<2)||decide ((ints o).getD 0 0>2))&&decide ((ints o).getD 0 0<2)))
         (Vm.chk (decide (1<(ints o).length)|| !(!(decide (((ints o).length:Int)<2)||decide ((ints o).getD 0 0>2))&&decide ((ints o).getD 0 0<2)))
           (Vm.chk (!decide ((ints o).getD 0 0<2)|| !(decide (((ints o).length:Int)<2)||decide ((ints o).getD 0 0>2))&&decide ((ints o).getD 0 0<2)||(decide (((ints o).length:Int)<2)||decide ((ints o).getD 0 0>2)))
             (bif decide (((ints o).length:Int)<2)||decide ((ints o).getD 0 0>2)||decide ((ints o).getD 0 0<2)&&decide ((ints o).getD 1 0>39)then some (([]:List Int),false)else some (ints o,true)))))))))=some (Aid (Yh o)):=by
 by_cases h:o.length<2
 .have e:Yh o=none:=A51;rw[e,ND,Di (show(o.length:Int)<2 by omega)];simp [JI,Aid]
 .match o,h with
  | a::b::r,_ =>
   have e0:(ints (a::b::r)).getD 0 0=(a:Int):=rfl;have e1:(ints (a::b::r)).getD 1 0=(b:Int):=rfl;have e2:(ints (a::b::r)).length=r.length+2:=by rw[ND];rfl
   rw[e0,e1,e2,Di (show(0:Int)<((r.length+2:Nat):Int) by omega),Di (show 0<r.length+2 by omega),Di (show(1:Int)<((r.length+2:Nat):Int) by omega),Di (show 1<r.length+2 by omega),Dw (show ¬(((r.length+2:Nat):Int)<2) by omega)];have hr:Wj (a::b::r)= !(decide ((a:Int)>2)||(decide ((a:Int)<2)&&decide ((b:Int)>39))):=by show((decide (a<=1)&&decide (b<=39))||decide (a=2))=_;rw[EW];simp only[EE,Dq,D5,Eu,EU,Fv,EG];omega
   unfold Yh;rw[hr];cases decide ((a:Int)>2)<;>cases decide ((a:Int)<2)<;>cases decide ((b:Int)>39)<;>simp [Vm.chk,Aid]
  | [],h=>exact absurd (by decide) h
  | [a],h=>exact absurd (by simp) h
def AsX (c:UInt8) (k:Nat):(((c.toNat:Nat):Int) != (k:Int))=decide (c.toNat≠k):=by rw[EW,FK,D5];omega
def AnP (N:Nat) (s:Bs) (hN:16<N) (hs:s.length<=1048576) (hl:s.length+1<N):WO N s=some (Aid ((VA [] [] s).bind Yh)):=by
 unfold WO;try simp only[clR]
 generalize hR:VA [] [] s=R0;refine NU (I:=fun x=> ∃(a j:Nat) (o:List Nat),x=((a:Int),(j:Int),ints o)/\a<=j/\o.length<=12/\((j<=s.length/\(JD s a j).all Md=true/\VA (JD s a j) o (s.drop j)=R0)\/(j=s.length+1/\some o=R0))) (μ :=fun x=>s.length+1 - x.2.1.toNat) (fun _=>some (Aid (R0.bind Yh))) ?_ N (0,0,[]) ⟨0,0,[],rfl,by omega,by simp,.inl ⟨by omega,by rw[uQ];rfl,by rw[uQ,Ic];exact hR⟩⟩ (by show s.length+1 - 0<N;omega);rintro x ⟨a,j,o,rfl,ha,ho,hx⟩ k hk;dsimp only[U3];rcases hx with ⟨hj,hd,hsc⟩ | ⟨rfl,hsc⟩
 .have hmu: ∀ j':Nat,j<j'->s.length+1 - ((j':Int)).toNat<s.length+1 - ((j:Int)).toNat:=fun j' h=>by omega
  rw[Di (show(j:Int)<=(s.length:Int) by omega),cond_true,Di (show(0:Int)<=(j:Int) by omega)];simp only[DU,JI]
  have proc: ∀(d:Bs),d.all Md=true->(if j<s.length then(xQ d o).bind fun o=>VA [] o (s.drop (j+1))else xQ d o)=R0 ->
   (Vm.chk (decide ((0:Int)<=(a:Int))) (Vm.chk (decide ((a:Int)<=(j:Int)))
     (Vm.chk (decide (0<(d.length:Int))|| !(!((d.length:Int)==0||decide ((d.length:Int)>10))&&decide ((d.length:Int)>1)))
       (Vm.chk (!decide ((d.length:Int)>1)|| !((d.length:Int)==0||decide ((d.length:Int)>10))&&decide ((d.length:Int)>1)||((d.length:Int)==0||decide ((d.length:Int)>10)))
         (bif (d.length:Int)==0||decide ((d.length:Int)>10)||decide ((d.length:Int)>1)&&((d.getD 0 0).toNat:Int)==48||((ints o).length:Int)==12 then some (([]:List Int),false)
          else JB (X:=Int×Int×List Int) (Y:=Int×List Int) (U3 fun t8b t9b l1004096b k11 x12 =>
           bif decide (t9b<(d.length:Int))then Vm.chk (decide (0<=t9b)) (Vm.chk (decide (t9b<(d.length:Int)))
            (k11 (i64.wrap (i64.wrap (10*t8b)+i64.wrap (u8.wrap (((d.getD t9b.toNat 0).toNat:Int) - 48))),i64.wrap (t9b+1),l1004096b)))
           else x12 (t8b,l1004096b)) N (0,0,ints o) (U2 fun t8c l1008192c=>bif decide (t8c>2147483647)then some ([],false)else Vm.chk (decide ((l1008192c.length+1)*9<=140737488355328)) (k (i64.wrap ((j:Int)+1),i64.wrap ((j:Int)+1),l1008192c++[t8c]))))))))=some (Aid (R0.bind Yh)):=by
   intro d hd hsc;rw[Di (show(0:Int)<=(a:Int) by omega),Di (show(a:Int)<=(j:Int) by omega)];simp only[JI];have c0:(((d.length:Nat):Int)==0)=decide (d.length=0):=by rw[EW,EN,D5];omega
   have c1:decide (((d.length:Nat):Int)>10)=decide (10<d.length):=by rw[Hu];omega
   have c2:decide (((d.length:Nat):Int)>1)=decide (1<d.length):=by rw[Hu];omega
   have c3:((((d.getD 0 0).toNat:Nat):Int)==48)=decide ((d.getD 0 0).toNat=48):=by rw[EW,EN,D5];omega
   have c4:(((ints o).length:Int)==12)=decide (o.length=12):=by rw[ND,EW,EN,D5];omega
   have c5:decide (0<((d.length:Nat):Int))= !(decide (d.length=0)):=by rw[EW,D5,Eu,EG];omega
   rw[c0,c1,c2,c3,c4,c5];have t1:((!(decide (d.length=0)))|| !(!(decide (d.length=0)||decide (10<d.length))&&decide (1<d.length)))=true:=by cases decide (d.length=0)<;>cases decide (10<d.length)<;>cases decide (1<d.length)<;>rfl
   have t2:(!decide (1<d.length)|| !(decide (d.length=0)||decide (10<d.length))&&decide (1<d.length)||(decide (d.length=0)||decide (10<d.length)))=true:=by cases decide (d.length=0)<;>cases decide (10<d.length)<;>cases decide (1<d.length)<;>rfl
   rw[t1,t2,JI,JI];have hE:=A1u o hd;by_cases hb:(d.length=0\/10<d.length\/((d.getD 0 0).toNat=48/\1<d.length))\/o.length=12
   .rw[show(decide (d.length=0)||decide (10<d.length)||decide (1<d.length)&&decide ((d.getD 0 0).toNat=48)||decide (o.length=12))=true by simp only[EE,Dq,D5];omega,cond_true];rw[A52]at hE;have:R0=none:=by rw[<- hsc,hE];split<;>rfl
    rw[this];rfl
   .rw[show(decide (d.length=0)||decide (10<d.length)||decide (1<d.length)&&decide ((d.getD 0 0).toNat=48)||decide (o.length=12))=false by simp only[EU,Fv,EG];omega,cond_false];refine ER (Asj N d (ints o) (by omega) hd (by omega) _) ?_;dsimp only[U2];by_cases hv:2147483647<OT d
    .rw[Di (show((OT d:Nat):Int)>2147483647 by omega),cond_true];rw[A52]at hE;have:R0=none:=by rw[<- hsc,hE];split<;>rfl
     rw[this];rfl
    .rw[Dw (show ¬((OT d:Nat):Int)>2147483647 by omega),cond_false,ND,Di (show(o.length+1)*9<=140737488355328 by omega),JI,w64,AwZ];rw[A51]at hE;rw[hE]at hsc;refine hk _ ⟨j+1,j+1,o++[OT d],rfl,by omega,by simp;omega,?_⟩ (hmu (j+1) (by omega));by_cases hjl:j<s.length
     .rw[Dn hjl]at hsc;exact .inl ⟨by omega,by rw[uQ];rfl,by rw[uQ];exact hsc⟩
     .rw[Dk hjl]at hsc;exact .inr ⟨by omega,hsc⟩
  by_cases hjl:j<s.length
  .have hg:s.getD ((j:Int)).toNat 0=s[j]:=getD_lt s j 0 hjl;rw[Di (show(j:Int)<(s.length:Int) by omega),hg];simp only[DU,JI,FD];by_cases h46:s[j].toNat=46
   .rw[show(((s[j].toNat:Nat):Int) != 46)=false by rw[show(46:Int)=((46:Nat):Int)from rfl,AsX,Dw (by simp [h46])],cond_false];have he:s[j]=46:=UInt8.toNat.inj (by rw[h46];rfl);refine proc _ hd ?_;rw[Dn hjl,<- hsc,E8 hjl,he,AmR];rfl
   .rw[show(((s[j].toNat:Nat):Int) != 46)=true by rw[show(46:Int)=((46:Nat):Int)from rfl,AsX,Di (by simp [h46])],cond_true];have hne:s[j]≠46:=fun e=>h46 (by rw[e];rfl);rw[E8 hjl]at hsc;by_cases hdg:Md s[j]=true
    .rw[AmQ _ _ _ _ hne hdg]at hsc;have hc:=hdg;unfold Md at hc;simp only[Dq,D5]at hc;rw[Dw (show ¬((s[j].toNat:Nat):Int)<48 by omega),Dw (show ¬((s[j].toNat:Nat):Int)>57 by omega)];simp only[FM,cond_false];rw[w64];refine hk _ ⟨a,j+1,o,rfl,by omega,ho,.inl ⟨by omega,?_,?_⟩⟩ (hmu (j+1) (by omega))
     .rw[Amz s ha hjl,H8,hd];simpa using hdg
     .rw[Amz s ha hjl];exact hsc
    .rw[AmP _ _ _ _ hne hdg]at hsc;have:(decide (((s[j].toNat:Nat):Int)<48)||decide (((s[j].toNat:Nat):Int)>57))=true:=by unfold Md at hdg;simp only[Dq,D5]at hdg;simp only[EE,D5];omega
     rw[this,cond_true,<- hsc];rfl
  .rw[Dw (show ¬(j:Int)<(s.length:Int) by omega)];simp only[G9,cond_false];refine proc _ hd ?_;rw[Dk hjl,<- hsc,FX (by omega)];rfl
 .rw[Dw (show ¬((s.length+1:Nat):Int)<=(s.length:Int) by omega),cond_false,<- hsc];exact A2a o
def Av6 (c b:UInt8) (hb:b≠c): ∀ s:Bs,b∈s-> ∃ x∈KL c s,b∈x:=by
 intro s
 induction s with
 | nil=>intro h;cases h
 | cons a r ih =>
  intro h;by_cases ha:a=c
  .rcases D7.1 h with rfl | h
   .exact absurd ha hb
   .obtain⟨x,h1,h2⟩:=ih h;refine⟨x,?_,h2⟩;show x∈(if a=c then _ else _);rw[Dn ha];exact Dx _ h1
  .rw[fJ _ _ _ ha];rcases D7.1 h with rfl | h
   .exact⟨_,Dv,Dv⟩
   .obtain⟨x,h1,h2⟩:=ih h;have hn:=AmT c r;cases hs:KL c r with
    | nil=>exact absurd hs hn
    | cons y t =>
     rw[hs]at h1;rcases D7.1 h1 with rfl | h1
     .exact⟨_,Dv,Dx _ h2⟩
     .exact⟨x,Dx _ h1,h2⟩
def Axs {α β :Type} {f: α ->Option β}: ∀ {l:List α} {a: α},a∈l->f a=none->Rj f l=none:=by
 intro l
 induction l with
 | nil=>intro a h;cases h
 | cons x t ih =>
  intro a h ha;unfold Rj;rcases D7.1 h with rfl | h
  .rw[ha]
  .rw[ih h ha];split
   .rename_i h1 h2;cases h2
   .rfl
def iD {α β :Type} (f: α ->Option β) (a: α) (l:List α):Rj f (a::l)=(f a).bind fun b=>(Rj f l).map fun r=>b::r:=by show(match f a,Rj f l with | some b,some bs=>some (b::bs) | _,_=>none)=_;cases f a<;>cases Rj f l<;>rfl
def mO {d:Bs} (h:d.all Md=true):(46:UInt8)∉d:=by intro hm;have:=D8.1 h _ hm;revert this;decide
def A2i: ∀(s cur:Bs) (out:List Nat),cur.all Md=true->out.length<=12->VA cur out s=if 12<out.length+(KL 46 (cur++s)).length then none else(Rj TJ (KL 46 (cur++s))).map fun r=>out++r:=by
 intro s
 induction s with
 | nil =>
  intro cur out hc ho;rw[DX,yQ _ _ (mO hc),iD];show xQ cur out=_;unfold xQ;by_cases h:out.length=12
  .rw[Dn h,Dn (by simp only[List.length_singleton];omega)]
  .rw[Dk h,Dk (by simp only[List.length_singleton];omega)];cases TJ cur<;>rfl
 | cons c r ih =>
  intro cur out hc ho;by_cases h1:c=46
  .subst h1;rw[AmR,Afh _ _ _ (mO hc),iD];unfold xQ;have hl:=(Ace 46 r).2.1;by_cases h:out.length=12
   .rw[Dn h,Dn (by rw[List.length_cons];omega)];rfl
   .rw[Dk h];cases hv:TJ cur with
    | none=>simp
    | some v =>
     have:=ih [] (out++[v]) rfl (by simp;omega);rw[List.nil_append]at this;show VA [] (out++[v]) r=_;rw[this];simp only[Dp,List.length_singleton,List.length_cons,List.length_nil,Option.bind_some,Option.map_map];by_cases h3:12<out.length+(0+1)+(KL 46 r).length
     .rw[Dn h3,A52]
     .rw[Dk h3,A51];cases Rj TJ (KL 46 r)<;>simp
  .by_cases h2:Md c=true
   .rw[AmQ _ _ _ _ h1 h2,ih (cur++[c]) out (by simp [hc,h2]) ho,DZ];rfl
   .rw[AmP _ _ _ _ h1 h2];obtain⟨x,hx1,hx2⟩:=Av6 46 c h1 (cur++c::r) (by simp)
    rw[Axs hx1 (by
     unfold TJ Aiv;rw[Dk];have:x.all Md=false:=by apply G7.2;intro h;exact h2 (D8.1 h _ hx2)
     rw[this];simp)]
    split<;>rfl
def AvZ (s:Bs):(VA [] [] s).bind Yh=Oq s:=by
 rw[A2i s [] [] rfl (by decide)];unfold Oq;simp only[List.length_nil,DT,List.nil_append];by_cases h:12<(KL 46 s).length
 .rw[Dn h,Dn (Or.inr h)];rfl
 .rw[Dk h];cases hm:Rj TJ (KL 46 s)with
  | none=>split<;>rfl
  | some l =>
   have hl:=Ah9 hm;show Yh l=_;unfold Yh
   have h3: ∀ q:Option (List Nat),(if(KL 46 s).length<2\/12<(KL 46 s).length then none else q)=if 2<=l.length then q else none:=by
    intro q;by_cases h2:2<=l.length
    .rw[A51,Dn h2]
    .rw[Dn (Or.inl (by omega)),Dk h2]
   rw[h3];dsimp only;by_cases h2:2<=l.length<;>by_cases hr:Wj l=true<;>simp [h2,hr]
def AlQ (N:Nat) (s:Bs) (hN:16<N) (hs:s.length<=1048576) (hl:s.length+1<N):WO N s=some (Aid (Oq s)):=by rw[AnP N s hN hs hl,AvZ]
end Go.Proofs.YtmgpaalplkkpnaaGreatDoor.Pl
