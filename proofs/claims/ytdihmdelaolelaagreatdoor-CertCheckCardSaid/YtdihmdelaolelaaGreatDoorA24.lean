import Derived.Test.YtdihmdelaolelaaGreatDoorA23
set_option linter.all false
namespace Go.Proofs.YtdihmdelaolelaaGreatDoor.Pl
open IntKind (i64 u8 u32 u64)
open Go Vm
def Tu (l:Bs):Int×Bs×Bs:=((Sp.tag l:Int),Sp.content l,Sp.raw l)
def OG (l:Bs):(Int×Bs×Bs)×Bs×Int:=if Sp.err l=0 then(Tu l,Sp.rest l,0)else((0,[],[]),[],Sp.err l)
def Anr {s:Bs} {p n:Nat} (hh:Sp.head s=(0,p,n)) (hp:p<=s.length):(if((s.length:Int) - p<n)then(some ((0,([]:Bs),([]:Bs)),([]:Bs),3):Option ((Int×Bs×Bs)×Bs×Int))else some ((((s.getD 0 0).toNat:Int),J6 s p (p+n),J6 s 0 (p+n)),J6 s (p+n) s.length,0))=some (OG s):=by
 have e1: ∀ a b,(J6 s a b)=(s.take b).drop a:=fun a b=>rfl;by_cases h:(s.length:Int) - p<n
 .rw[Du h];have:Sp.rd s=(3,0,0):=by unfold Sp.rd;rw[hh,Du ⟨rfl,by show s.length - p<n;omega⟩]
  unfold OG Sp.err;rw[this];rfl
 .rw[Dp h];have hr:Sp.rd s=(0,p,n):=by unfold Sp.rd;rw[hh,Dp (by intro hc;have:=hc.2;simp at this;omega)]
  have he:Sp.err s=0:=by unfold Sp.err;rw[hr]
  unfold OG;rw[Du he];unfold Tu Sp.content Sp.raw Sp.rest;rw[hr,e1,e1,e1];congr 1;refine Jn (Jn ?_ (Jn ?_ ?_)) (Jn ?_ rfl)
  .show((s.getD 0 0).toNat:Int)=((Sp.tag s:Nat):Int);unfold Sp.tag;cases s<;>rfl
  .show(s.take (p+n)).drop p=(s.drop p).take n;rw[List.drop_take];congr 1;omega
  .show(s.take (p+n)).drop 0=_;rw[Gy]
  .show(s.take s.length).drop (p+n)=_;rw[EP]
theorem take_snoc {α :Type} {l:List α} {i:Nat} (h:i<l.length):l.take (i+1)=l.take i++[l[i]]:=by simp_all
def Afg {l:Bs} {i:Nat} (h:i<l.length):Sp.beNat (l.take (i+1))=Sp.beNat (l.take i)*256+(l[i]).toNat:=by rw[take_snoc h,Sp.Aq4]
def Adv {l:Bs} (i:Nat) (hl:l.length<=3):Sp.beNat (l.take i)<16777216:=by
 have h1:=Sp.Ave (l.take i);have h2:256 ^ (l.take i).length<=256 ^ 3:=Gi (by omega) (by rw[DD];omega);have:(256:Nat) ^ 3=16777216:=by decide
 omega
def Atm {ρ :Type} (N:Nat) (l:Bs) (hl:l.length<=3) (hN:4<N) (kx:Int->Option ρ) :
 J3 (X:=Int×Int×List Int) (Y:=Int) (U3 fun t7b t52b l45568b k2 x3 =>
  if t52b<((List.map (fun(b:UInt8)=>((b.toNat:Int))) l).length:Int)then if(0:Int)<=t52b then if t52b<(l45568b.length:Int)then if t52b.toNat<l45568b.length then
   k2 (JE .or .i64 (i64.wrap (t7b*(256))) (i64.wrap (l45568b.getD t52b.toNat 0)),i64.wrap (t52b+(1:Int)),l45568b)else none else none else none
  else x3 t7b) N (0,0,List.map (fun(b:UInt8)=>((b.toNat:Int))) l) kx=kx (Sp.beNat l):=by
 refine Nu (fun x=> ∃ i,i<=l.length/\x=((Sp.beNat (l.take i):Int),(i:Int),List.map (fun(b:UInt8)=>((b.toNat:Int))) l)) (fun x=>l.length - x.2.1.toNat) (fun _=>kx (Sp.beNat l)) ?_ N _ ⟨0,by omega,rfl⟩ (by show l.length - 0<N;omega);rintro x ⟨i,hi,rfl⟩ k hk;show(if(i:Int)<_ then _ else _)=_;rw[D7];by_cases h:i<l.length
 .dsimp only;rw[A0z,A0z,A0z,Int.toNat_natCast,Du h];have hb:=(l[i]).toNat_lt;have hs:=Adv (l:=l) i hl;rw[show(List.map (fun(b:UInt8)=>((b.toNat:Int))) l).getD i 0=((l[i].toNat:Nat):Int) by simp [Dn,h]];rw[w64 (x:=((Sp.beNat (l.take i):Nat):Int)*256),w64 (x:=((l[i].toNat:Nat):Int)),w64 (x:=(i:Int)+1)];rw[show((Sp.beNat (l.take i):Nat):Int)*256=((Sp.beNat (l.take i)*256:Nat):Int) by omega,or8 _ _ (by omega) hb,<- Afg h];exact hk _ ⟨i+1,h,rfl⟩ (by show l.length - ((i:Int)+1).toNat<l.length - (i:Int).toNat;omega)
 .rw[A0y];rw[Fg (by omega)]
def AvJ (N:Nat) (k:Nat) (h1:1<=k) (h3:k<=3):Acf N (k:Int)=some (Sp.leastOf k:Int):=by
 have:k=1\/k=2\/k=3:=by omega
 rcases this with rfl | rfl | rfl<;>rfl
set_option maxRecDepth 4000
def pM (N:Nat) (s:Bs) (hN:4<N) (hs:s.length<=1099511627776):ZT N s=some (OG s):=by
 unfold ZT;try simp -zeta only[Ap]
 cases s with
 | nil=>rfl
 | cons a r =>
  have ha:=a.toNat_lt;have h0:((a::r:Bs)==([]:Bs))=false:=rfl;simp only[h0,cond_false,Gs,List.length_cons,qQ,TJ,Acm,Afi];simp only[ApE,QK,Fb,D6,Ej,Dx];rw[w64,Aq0 _ ha];by_cases h31:a.toNat % 32=31
  .have:Sp.err (a::r)=5:=by simp [Sp.err,Sp.rd,Sp.head,h31]
   unfold OG;rw[this,A0z,A0z];rfl
  .rw[A0z,A0y];cases r with
   | nil =>
    have:Sp.err [a]=3:=by simp [Sp.err,Sp.rd,Sp.head,h31]
    unfold OG;rw[this,Du (by simp)];rfl
   | cons b c =>
    have hb:=b.toNat_lt;simp only[List.length_cons]at hs;simp only[IP,Gs,List.length_cons];rw[w64 (x:=((b.toNat:Nat):Int)),A0y,A0z];by_cases h6:b.toNat=128\/131<b.toNat
    .have:Sp.err (a::b::c)=6:=by simp [Sp.err,Sp.rd,Sp.head,h31,h6,show ¬ b.toNat<128 by omega]
     unfold OG;rw[this,A0z];rfl
    .rw[A0y,P6]
     have hend: ∀ p n:Nat,Sp.head (a::b::c)=(0,p,n)->p<=c.length+2->n<=131072->(if i64.wrap (((c.length+1+1:Nat):Int) - (p:Int))<(n:Int)then some ((0,([]:Bs),([]:Bs)),([]:Bs),3)
      else if(0:Int)<=(p:Int)then if(p:Int)<=i64.wrap ((p:Int)+(n:Int))then if i64.wrap ((p:Int)+(n:Int))<=((c.length+1+1:Nat):Int)then if(0:Int)<=i64.wrap ((p:Int)+(n:Int))then
       if i64.wrap ((p:Int)+(n:Int))<=((c.length+1+1:Nat):Int)then if(0:Int)<=i64.wrap ((p:Int)+(n:Int))then if i64.wrap ((p:Int)+(n:Int))<=((c.length+1+1:Nat):Int)then
       some ((((a.toNat:Nat):Int),J6 (a::b::c) (p:Int).toNat (i64.wrap ((p:Int)+(n:Int))).toNat,J6 (a::b::c) 0 (i64.wrap ((p:Int)+(n:Int))).toNat),J6 (a::b::c) (i64.wrap ((p:Int)+(n:Int))).toNat (c.length+1+1),0)
       else none else none else none else none else none else none else none:Option ((Int×Bs×Bs)×Bs×Int))=some (OG (a::b::c)):=by
      intro p n hh hp hn;have:=Anr (s:=a::b::c) hh (by simp;omega);all_goals grind[w64]
     by_cases h128:b.toNat<128
     .rw[A0y];exact hend 2 b.toNat (by simp [Sp.head,h31,h128]) (by omega) (by omega)
     .rw[A0z];obtain⟨k,hk⟩: ∃ k:Nat,b.toNat=128+k:=⟨b.toNat - 128,by omega⟩
      rw[w64 (x:=((b.toNat:Nat):Int) - 128),show((b.toNat:Nat):Int) - 128=(k:Int) by omega,w64 (x:=2+(k:Int))];by_cases hlen:c.length<k
      .rw[A0z];have:Sp.err (a::b::c)=3:=by simp [Sp.err,Sp.rd,Sp.head,h31,h128,h6,show b.toNat - 128=k by omega,hlen]
       unfold OG;rw[this];rfl
      .have hcut:J6 (a::b::c) 2 ((2+(k:Int)).toNat)=c.take k:=by
        rw[show(2+(k:Int)).toNat=k+2 by omega];rfl
       have hlk:(c.take k).length=k:=by rw[DD];omega
       rw[A0y,A0z,A0z,hcut,A0z];rw[Atm N (c.take k) (by omega) hN,AvJ N k (by omega) (by omega),Jt];by_cases hbad:Sp.beNat (c.take k)<Sp.leastOf k\/131072<Sp.beNat (c.take k)
       .have:Sp.err (a::b::c)=6:=by simp [Sp.err,Sp.rd,Sp.head,h31,h128,h6,show b.toNat - 128=k by omega,hlen,hbad]
        unfold OG;rw[A0z,this];rfl
       .rw[A0y];have:=hend (2+k) (Sp.beNat (c.take k)) (by simp [Sp.head,h31,h128,h6,show b.toNat - 128=k by omega,hlen,hbad]) (by omega) (by omega);rw[show(((2+k:Nat)):Int)=2+(k:Int) by omega]at this;exact this
def AlV {ρ :Type} (N:Nat) (s:Bs) (k:Nat) (hk:k<=3) (hl:k+2<=s.length) (hs:s.length<=1099511627776) (hN:4<N) (kx:Int->Option ρ) :
 J3 (X:=Int×Int) (Y:=Int) (U2 fun t6b t9b k2 x3 =>
  if t9b<(k:Int)then if(0:Int)<=i64.wrap ((2:Int)+t9b)then if i64.wrap ((2:Int)+t9b)<(s.length:Int)then
   k2 (i64.wrap ((i64.wrap ((256:Int)*t6b))+i64.wrap ((s.getD ((i64.wrap ((2:Int)+t9b)).toNat) 0).toNat:Int)),i64.wrap (t9b+(1:Int)))else none else none
  else x3 t6b) N (0,0) kx=kx (Sp.beNat ((s.drop 2).take k)):=by
 have hlen:((s.drop 2).take k).length=k:=by rw[DD,Es];omega
 generalize hL:(s.drop 2).take k=l at hlen;refine Nu (fun x=> ∃ i,i<=k/\x=((Sp.beNat (l.take i):Int),(i:Int))) (fun x=>k - x.2.toNat) (fun _=>kx (Sp.beNat l)) ?_ N _ ⟨0,by omega,rfl⟩ (by show k - 0<N;omega);rintro x ⟨i,hi,rfl⟩ kk hkk;show(if(i:Int)<_ then _ else _)=_;by_cases h:i<k
 .have hb:=(l[i]'(by omega)).toNat_lt;have hs':=Adv (l:=l) i (by omega);dsimp only;rw[A0z,w64 (x:=2+(i:Int)),A0z,A0z,show(2+(i:Int)).toNat=i+2 by omega]
  have e:s.getD (i+2) 0=l[i]'(by omega):=by
   have:l[i]? =s[i+2]? :=by rw[<- hL,FW,Du h,FK,Nat.add_comm]
   rw[Dn,<- this,D9 (by omega)];rfl
  rw[e,w64 (x:=256*((Sp.beNat (l.take i):Nat):Int)),w64 (x:=(((l[i]'(by omega)).toNat:Nat):Int)),w64 (x:=(i:Int)+1),w64];have:=Afg (l:=l) (i:=i) (by omega);rw[show 256*((Sp.beNat (l.take i):Nat):Int)+(((l[i]'(by omega)).toNat:Nat):Int)=((Sp.beNat (l.take (i+1)):Nat):Int) by omega];exact hkk _ ⟨i+1,h,rfl⟩ (by show k - ((i:Int)+1).toNat<k - (i:Int).toNat;omega)
 .rw[A0y,Fg (by omega)]
def AtX (k:Nat) (h1:1<=k) (h3:k<=3):(([0,128,256,65536]:List Int).getD k 0)=(Sp.leastOf k:Int):=by
 have:k=1\/k=2\/k=3:=by omega
 rcases this with rfl | rfl | rfl<;>rfl
def eY (N:Nat) (s:Bs) (hN:4<N) (hs:s.length<=1099511627776):YU N s=some (OG s):=by
 unfold YU;try simp -zeta only[Ap]
 cases s with
 | nil=>rfl
 | cons a r =>
  have ha:=a.toNat_lt;simp only[Gs,List.length_cons,qQ,TJ,Acm,Afi];simp only[ApE,QK,Fb,D6,Ej,Dx];rw[A0y,A0z];have ht:((a.toNat:Nat):Int).tmod 32=((a.toNat % 32:Nat):Int):=by rw[DT (by omega)];omega
  rw[ht];by_cases h31:a.toNat % 32=31
  .have:Sp.err (a::r)=5:=by simp [Sp.err,Sp.rd,Sp.head,h31]
   unfold OG;rw[this,A0z];rfl
  .rw[A0y];cases r with
   | nil =>
    have:Sp.err [a]=3:=by simp [Sp.err,Sp.rd,Sp.head,h31]
    unfold OG;rw[this];rfl
   | cons b c =>
    have hb:=b.toNat_lt;simp only[List.length_cons]at hs;simp only[IP,Gs,List.length_cons];rw[w64 (x:=((b.toNat:Nat):Int)),A0y,A0z];by_cases h6:b.toNat=128\/131<b.toNat
    .have:Sp.err (a::b::c)=6:=by simp [Sp.err,Sp.rd,Sp.head,h31,h6,show ¬ b.toNat<128 by omega]
     unfold OG;rw[this,A0z];rfl
    .rw[A0y,P6]
     have hend: ∀ p n:Nat,Sp.head (a::b::c)=(0,p,n)->p<=c.length+2->n<=131072->(if i64.wrap (((c.length+1+1:Nat):Int) - (p:Int))<(n:Int)then some ((0,([]:Bs),([]:Bs)),([]:Bs),3)
      else if(0:Int)<((c.length+1+1:Nat):Int)then if(0:Int)<=(p:Int)then if(p:Int)<=i64.wrap ((p:Int)+(n:Int))then if i64.wrap ((p:Int)+(n:Int))<=((c.length+1+1:Nat):Int)then if(0:Int)<=i64.wrap ((p:Int)+(n:Int))then
       if i64.wrap ((p:Int)+(n:Int))<=((c.length+1+1:Nat):Int)then if(0:Int)<=i64.wrap ((p:Int)+(n:Int))then if i64.wrap ((p:Int)+(n:Int))<=((c.length+1+1:Nat):Int)then
       some ((i64.wrap ((a.toNat:Nat):Int),J6 (a::b::c) (p:Int).toNat (i64.wrap ((p:Int)+(n:Int))).toNat,J6 (a::b::c) 0 (i64.wrap ((p:Int)+(n:Int))).toNat),J6 (a::b::c) (i64.wrap ((p:Int)+(n:Int))).toNat (c.length+1+1),0)
       else none else none else none else none else none else none else none else none:Option ((Int×Bs×Bs)×Bs×Int))=some (OG (a::b::c)):=by
      intro p n hh hp hn;have:=Anr (s:=a::b::c) hh (by simp;omega);all_goals grind[w64]
     by_cases h128:b.toNat<128
     .rw[A0y];exact hend 2 b.toNat (by simp [Sp.head,h31,h128]) (by omega) (by omega)
     .rw[A0z];obtain⟨k,hk⟩: ∃ k:Nat,b.toNat=128+k:=⟨b.toNat - 128,by omega⟩
      rw[w64 (x:=((b.toNat:Nat):Int) - 128),show((b.toNat:Nat):Int) - 128=(k:Int) by omega,w64 (x:=2+(k:Int))];by_cases hlen:c.length<k
      .rw[A0z];have:Sp.err (a::b::c)=3:=by simp [Sp.err,Sp.rd,Sp.head,h31,h128,h6,show b.toNat - 128=k by omega,hlen]
       unfold OG;rw[this];rfl
      .rw[A0y];have hd:=fun kx=>AlV (ρ :=(Int×Bs×Bs)×Bs×Int) N (a::b::c) k (by omega) (by simp;omega) (by simp;omega) hN kx;refine Ew (hd _) ?_;show(if(0:Int)<=(k:Int)then _ else _)=_;have hdr:((a::b::c).drop 2).take k=c.take k:=rfl;rw[hdr,A0z,A0z,Int.toNat_natCast,A0z,AtX k (by omega) (by omega)];by_cases hbad:Sp.beNat (c.take k)<Sp.leastOf k\/131072<Sp.beNat (c.take k)
       .have:Sp.err (a::b::c)=6:=by simp [Sp.err,Sp.rd,Sp.head,h31,h128,h6,show b.toNat - 128=k by omega,hlen,hbad]
        unfold OG;rw[A0z,this];rfl
       .rw[A0y];have:=hend (2+k) (Sp.beNat (c.take k)) (by simp [Sp.head,h31,h128,h6,show b.toNat - 128=k by omega,hlen,hbad]) (by omega) (by omega);rw[show(((2+k:Nat)):Int)=2+(k:Int) by omega]at this;exact this
def AhS (s:Bs):(Int×Bs×Bs)×Int:=if Sp.TS s=0 then(Tu s,0)else((0,[],[]),Sp.TS s)
theorem Abk {s:Bs} (h:Sp.TS s=0):Sp.err s=0/\Sp.rest s=[]:=by unfold Sp.TS at h;by_cases he:Sp.err s=0;all_goals simp_all[Bs]
def As4 (N:Nat) (s:Bs) (hN:4<N) (hs:s.length<=1099511627776):ZR N s=some (AhS s):=by
 unfold ZR;rw[pM N s hN hs,Jt];unfold OG AhS Sp.TS;by_cases he:Sp.err s=0
 .rw[Du he];by_cases hr:Sp.rest s=[]
  .simp [he,hr,QK]
  .simp [he,hr,QK]
 .rw[Dp he];simp [he,QK]
def Anv (N:Nat) (s:Bs) (hN:4<N) (hs:s.length<=1099511627776):nH N s=some (AhS s):=by
 unfold nH;rw[eY N s hN hs,Jt];unfold OG AhS Sp.TS;by_cases he:Sp.err s=0
 .rw[Du he];by_cases hr:Sp.rest s=[]
  .simp [he,hr]
  .have:0<(Sp.rest s).length:=by cases h:Sp.rest s with | nil=>exact absurd h hr | cons _ _=>simp
   simp [he,hr,this,QK]
 .rw[Dp he];simp [he,QK]
def Acb (s:Bs):Sp.tag s<256:=GR _
def TN (e:Int×Bs×Bs) (d:Nat):Int:=if e.1 / 32 % 2=1 then Sp.within (e.2.1.length+1) d e.2.1 else 0
theorem vM: ∀(f g d:Nat) (l:Bs),l.length<f->l.length<g->Sp.within f d l=Sp.within g d l:=by
 intro f
 induction f with
 | zero=>intro g d l h;omega
 | succ f ih =>
  intro g d l hf hg;cases g with
  | zero=>omega
  | succ g =>show(if l=[]then _ else _)=if l=[]then _ else _;all_goals grind[Sp.Ui,Sp.Aqc]
def bF {B:Bs->(Bs->Option Int)->(Unit->Option Int)->Option Int} {kx:Unit->Option Int} (d L:Nat)
 (hB: ∀ x k,x≠ []->x.length<=L->B x k kx=if Sp.err x≠0 then some (Sp.err x)else if 16<=d then some 8 else if TN (Tu x) (d+1)≠0 then some (TN (Tu x) (d+1))else k (Sp.rest x))
 (hend: ∀ k,B [] k kx=some 0) (N:Nat) (x:Bs) (hx:x.length<=L) (hN:x.length<N):J3 B N x kx=some (Sp.within (x.length+1) d x):=by
 refine Nu (fun x=>x.length<=L) (fun x=>x.length) (fun x=>some (Sp.within (x.length+1) d x)) ?_ N x hx hN;intro x hx k hk;by_cases h0:x=[]
 .subst h0;rw[hend];rfl
 .rw[hB x k h0 hx];by_cases he:Sp.err x=0
  .rw[Dp (by simp [he])];by_cases hd:16<=d
   .rw[Du hd,Sp.Ap4 _ _ _ h0 he hd]
   .rw[Dp hd];have h1:=Sp.Ui x he;have h2:=Sp.Aqc x he;have hin:TN (Tu x) (d+1)=Sp.inner x.length (d+1) (Sp.tag x) (Sp.content x):=by unfold TN Sp.inner Sp.cons Tu;all_goals grind[vM]
    rw[hin];by_cases hi:Sp.inner x.length (d+1) (Sp.tag x) (Sp.content x)=0
    .rw[Dp (by simp [hi]),hk _ (by show(Sp.rest x).length<=L;omega) h2,Sp.Ap5 _ _ _ h0 he hd hi];rw[vM _ x.length d (Sp.rest x) (Nat.lt_succ_self _) h2]
    .rw[Du hi,Sp.AsA _ _ _ h0 he hd hi]
  .grind[Sp.AsC]
def AuI (N:Nat) (hN:4<N): ∀(m n:Nat),m<n-> ∀(e:Int×Bs×Bs) (d:Nat),d+m=16->0<=e.1->e.1<256->e.2.1.length<N->e.2.1.length<=1099511627776 ->
 SN N n e (d:Int)=some (TN e d):=by
 intro m
 induction m with
 | zero =>
  intro n hn e d hd h0 h1 h2 h3;obtain⟨n,rfl⟩: ∃ k,n=k+1:=⟨n - 1,by omega⟩
  show SQ N (SN N n) e d=_;unfold SQ TN;obtain⟨t,ht⟩: ∃ t:Nat,e.1=(t:Int):=⟨e.1.toNat,by omega⟩
  rw[ht,AwF t (by omega)];by_cases hc:t / 32 % 2=1
  .rw[Du hc,A0z];refine bF d e.2.1.length (fun x k hx hl=> ?_) (fun k=>rfl) N _ (DK _) h2;have:(x==([]:Bs))=false:=by cases x with | nil=>exact absurd rfl hx | cons _ _=>rfl
   dsimp only;rw[this,pM N x hN (by omega),Jt];unfold OG;simp only[QK,EE,D6,Eu];by_cases he:Sp.err x=0;all_goals simp_all[Bs,SN,TN]
  .rw[Dp hc,A0y];rfl
 | succ m ih =>
  intro n hn e d hd h0 h1 h2 h3;obtain⟨n,rfl⟩: ∃ k,n=k+1:=⟨n - 1,by omega⟩
  show SQ N (SN N n) e d=_;unfold SQ TN;obtain⟨t,ht⟩: ∃ t:Nat,e.1=(t:Int):=⟨e.1.toNat,by omega⟩
  rw[ht,AwF t (by omega)];by_cases hc:t / 32 % 2=1
  .rw[Du hc,A0z];refine bF d e.2.1.length (fun x k hx hl=> ?_) (fun k=>rfl) N _ (DK _) h2;have:(x==([]:Bs))=false:=by cases x with | nil=>exact absurd rfl hx | cons _ _=>rfl
   dsimp only;rw[this,pM N x hN (by omega),Jt];unfold OG;simp only[QK,EE,D6,Eu];by_cases he:Sp.err x=0
   .rw[Du he];simp only[he,ne_eq,Jg,G7,Jc];have hcl:=Sp.Ui x he;have htl:=Acb x;rw[A0y,A0y,w64,show(d:Int)+1=((d+1:Nat):Int) by omega,ih n (by omega) (Tu x) (d+1) (by omega) (by show(0:Int)<=((Sp.tag x:Nat):Int);omega) (by show((Sp.tag x:Nat):Int)<256;omega) (by show(Sp.content x).length<N;omega) (by show(Sp.content x).length<=_;omega),Jt]
   .rw[Dp he];simp [he]
  .rw[Dp hc,A0y];rfl
def Avo (N:Nat) (hN:4<N): ∀(m n:Nat),m<n-> ∀(e:Int×Bs×Bs) (d:Nat),d+1+m=16->0<=e.1->e.1<256->e.2.1.length<N->e.2.1.length<=1099511627776 ->
 Tn N n e (d:Int)=some (TN e (d+1)):=by
 intro m
 induction m with
 | zero =>
  intro n hn e d hd h0 h1 h2 h3;obtain⟨n,rfl⟩: ∃ k,n=k+1:=⟨n - 1,by omega⟩
  show Rl N (Tn N n) e d=_;unfold Rl TN;rw[DW h0,w64,DT (by omega)];by_cases hc:e.1 / 32 % 2=1
  .rw[Du hc,hc];refine bF (d+1) e.2.1.length (fun x k hx hl=> ?_) (fun k=>rfl) N _ (DK _) h2;have:0<x.length:=by cases x with | nil=>exact absurd rfl hx | cons _ _=>simp
   dsimp only;rw[eY N x hN (by omega),Jt];unfold OG;simp only[QK,EE,D6];all_goals grind[w64]
  .rw[Dp hc,show e.1 / 32 % 2=0 by omega];rfl
 | succ m ih =>
  intro n hn e d hd h0 h1 h2 h3;obtain⟨n,rfl⟩: ∃ k,n=k+1:=⟨n - 1,by omega⟩
  show Rl N (Tn N n) e d=_;unfold Rl TN;rw[DW h0,w64,DT (by omega)];by_cases hc:e.1 / 32 % 2=1
  .rw[Du hc,hc];refine bF (d+1) e.2.1.length (fun x k hx hl=> ?_) (fun k=>rfl) N _ (DK _) h2;have:0<x.length:=by cases x with | nil=>exact absurd rfl hx | cons _ _=>simp
   dsimp only;rw[eY N x hN (by omega),Jt];unfold OG;simp only[QK,EE,D6];rw[A0z,w64];by_cases he:Sp.err x=0
   .rw[Du he];simp only[he,ne_eq,Jg,G7];have hcl:=Sp.Ui x he;have htl:=Acb x;rw[A0y,A0y,show(d:Int)+1=((d+1:Nat):Int) by omega,ih n (by omega) (Tu x) (d+1) (by omega) (by show(0:Int)<=((Sp.tag x:Nat):Int);omega) (by show((Sp.tag x:Nat):Int)<256;omega) (by show(Sp.content x).length<N;omega) (by show(Sp.content x).length<=_;omega),Jt]
   .rw[Dp he];simp [he]
  .rw[Dp hc,show e.1 / 32 % 2=0 by omega];rfl
def AfS {s:Bs} (h:Sp.TS s=0):TN (Tu s) 1=Sp.chk s:=by unfold Sp.chk;rw[Dp (by simp [h])];unfold TN Sp.inner Sp.cons Tu;all_goals grind[Sp.Ui,Abk,vM]
def Ace (N:Nat) (s:Bs) (hN:16<N) (hs:s.length<=1099511627776) (hl:s.length<N):SL N s=some (Sp.chk s):=by
 unfold SL;rw[As4 N s (by omega) hs,Jt];unfold AhS;by_cases h:Sp.TS s=0
 .have h1:=Sp.Ui s (Abk h).1;have h2:=Acb s;rw[Du h,<- AfS h];have:=AuI N (by omega) 15 N (by omega) (Tu s) 1 rfl (by show(0:Int)<=((Sp.tag s:Nat):Int);omega) (by show((Sp.tag s:Nat):Int)<256;omega) (by show(Sp.content s).length<N;omega) (by show(Sp.content s).length<=_;omega);all_goals grind[Jr,SN,Tu,Jt]
 .rw[Dp h];have:Sp.chk s=Sp.TS s:=by unfold Sp.chk;rw[Du h]
  simp [QK,h,this]
theorem rZ (N:Nat) (s:Bs) (hN:16<N) (hs:s.length<=1099511627776) (hl:s.length<N):Vb N s=some (Sp.chk s):=by
 unfold Vb;rw[Anv N s (by omega) hs,Jt];unfold AhS;by_cases h:Sp.TS s=0
 .have h1:=Sp.Ui s (Abk h).1;have h2:=Acb s;rw[Du h,<- AfS h];have:=Avo N (by omega) 15 N (by omega) (Tu s) 0 rfl (by show(0:Int)<=((Sp.tag s:Nat):Int);omega) (by show((Sp.tag s:Nat):Int)<256;omega) (by show(Sp.content s).length<N;omega) (by show(Sp.content s).length<=_;omega);all_goals grind[Jr,Tn,Tu,Jt]
 .rw[Dp h];have:Sp.chk s=Sp.TS s:=by unfold Sp.chk;rw[Du h]
  simp [QK,h,this]
def KT (t:Nat) (c:Bs):Option Bs:=if c.length<=131072 then some (Sp.elem t c)else none
theorem dP {t:Nat} {c:Bs}:((KT t c).getD []).length<=131077:=by grind[KT,Sp.JQ]
def AiP: ∀(l:List Bs),([]:Bs).intercalate l=l.flatten
 | []=>rfl
 | [a]=>by simp [List.intercalate]
 | a::b::r=>by have:=AiP (b::r);simp only[List.intercalate,List.intersperse,List.flatten_cons]at this ⊢;simp [this]
theorem lZ (n:Nat):Vm.byteOf (u8.wrap (n:Int))=UInt8.ofNat n:=by rw[w8];unfold Vm.byteOf;rw[show((n:Int) % 256).toNat=n % 256 by omega];apply UInt8.toNat.inj;simp
def Amm (n k:Nat):(n:Int).fdiv (k:Int)=((n / k:Nat):Int):=by grind
def head_eq {ρ :Type} (t n:Nat) (ht:t<256) (K:List Int->Option ρ) (K':Bs->Option ρ) (hK: ∀ l,List.all l isByte=true->l.length<=5->K l=K' (List.map Vm.byteOf l)) :
 (bif decide ((n:Int)<(128:Int))then K ([u8.wrap (t:Int),u8.wrap (n:Int)]:List Int)
   else bif decide ((n:Int)<(256:Int))then K ([u8.wrap (t:Int),129,u8.wrap (n:Int)]:List Int)
   else bif decide ((n:Int)<(65536:Int))then K ([u8.wrap (t:Int),130,u8.wrap ((n:Int).fdiv (256)),u8.wrap (n:Int)]:List Int)
   else K ([u8.wrap (t:Int),131,u8.wrap ((n:Int).fdiv (65536)),u8.wrap ((n:Int).fdiv (256)),u8.wrap (n:Int)]:List Int))=K' (UInt8.ofNat t::Sp.jZ n):=by
 have f1:=Amm n 256;have f2:=Amm n 65536;have g1: ∀ k:Nat,isByte (k:Int)=decide (k<256):=fun k=>by unfold isByte;simp;omega
 rw[show((256:Nat):Int)=256 from rfl]at f1;rw[show((65536:Nat):Int)=65536 from rfl]at f2;rw[f1,f2];unfold Sp.jZ;simp only[Xa];by_cases h1:n<128
 .grind[OT,lZ]
 .rw[A0y,Dp h1];by_cases h2:n<256
  .rw[A0z,Du h2,hK _ (by simp [OT];decide) (by simp)];simp only[Ei,Ff,lZ];rfl
  .rw[A0y,Dp h2];by_cases h3:n<65536
   .rw[A0z,Du h3,hK _ (by simp [OT];decide) (by simp)];simp only[Ei,Ff,lZ];rfl
   .rw[A0y,Dp h3,hK _ (by simp [OT];decide) (by simp)];simp only[Ei,Ff,lZ];rfl
def Aw6 {ρ :Type} (bad:Option ρ) (fin:Nat->Option ρ): ∀(l:List Bs) (s: {n:Nat // n<=131072}),
 Acr (fun(e:Bs) (s: {n:Nat // n<=131072}) (k: {n:Nat // n<=131072}->Option ρ)=>if h:s.1+e.length<=131072 then k ⟨s.1+e.length,h⟩else bad) (fun s=>fin s.1) l s=if s.1+l.flatten.length<=131072 then fin (s.1+l.flatten.length)else bad:=by
 intro l
 induction l with
 | nil=>grind[Acr]
 | cons e r ih =>
  intro s;show(if h:s.1+e.length<=131072 then _ else bad)=_;rw[List.flatten_cons,Dv];by_cases h:s.1+e.length<=131072
  .rw[Ih h,ih];dsimp only;rw[EG]
  .rw[dif_neg h,A0y]
def Aw1 {ρ :Type} (N:Nat) (l:List Bs) (hN:l.length<N) (hl:l.length<=1099511627776) (bad:Option ρ) (kx:Int->Option ρ) :
 J3 (X:=Int×Int) (Y:=Int) (U2 fun t6a t23a k1 x2 =>
  bif decide (t23a<(l.length:Int))then(Vm.chk (decide ((0:Int)<=t23a)) <|
  Vm.chk (decide (t23a<(l.length:Int))) <|
  let x31:Bool:=decide (((l.getD t23a.toNat ([]:Bs)).length:Int)>(i64.wrap ((131072:Int) - t6a)))
  bif x31 then bad
  else(k1 (i64.wrap (t6a+((l.getD t23a.toNat ([]:Bs)).length:Int)),i64.wrap (t23a+(1:Int)))))
  else(x2 t6a)) N (0,0) kx=if l.flatten.length<=131072 then kx (l.flatten.length:Int)else bad:=by
 refine Ew (Ar0 (S:= {n:Nat // n<=131072}) (fun i s=>((s.1:Int),i)) l ([]:Bs) (fun e s k=>if h:s.1+e.length<=131072 then k ⟨s.1+e.length,h⟩else bad) (fun s=>(fun n:Nat=>kx (n:Int)) s.1) ?_ ?_ N ⟨0,by omega⟩ hN) ?_
 .intro i s k hi;have hs:=s.2;show(bif decide ((i:Int)<(l.length:Int))then _ else _)=_;simp only[Xa,qP,Int.toNat_natCast];all_goals grind[w64]
 .simp_all[Xa,Bs,J3,U2]
 .refine(Aw6 bad (fun n:Nat=>kx (n:Int)) l ⟨0,by omega⟩).trans ?_;dsimp only;rw[DY]
def Vg (N t:Nat) (l:List Bs) (ht:t<256) (h31:t % 32≠31) (hN:l.length<N:=by omega) (hl:l.length<=1099511627776:=by omega):Kw N (t:Int) l=some ((KT t l.flatten).getD [],if(KT t l.flatten).isNone then 6 else 0):=by
 unfold Kw;try simp -zeta only[Ap]
 simp only[qQ,TJ,Acm,Acl,QR,Afi,Aq0 t ht];rw[show(decide ((t:Int)<0)||decide ((t:Int)>255)||((t % 32:Nat):Int)==31)=false by simp;omega,cond_false];refine Ew (Aw1 N l hN hl _ _) ?_;unfold KT;by_cases h:l.flatten.length<=131072
 .rw[Du h,Du h,P6];refine Ew (head_eq t l.flatten.length ht (fun l1:List Int=>Vm.chk (List.all l1 isByte)<|Jr (strings_Join N l ([]:Bs)) fun r81=>Vm.chk (decide ((List.map Vm.byteOf l1).length+r81.length<=140737488355328))<|some ((List.map Vm.byteOf l1)++r81,(0:Int))) (fun h=>some (h++l.flatten,0)) (fun l' hl' hl5=> ?_)) rfl;rw[hl',Jz];unfold strings_Join;rw[AiP,Dk (show l.length<=140737488355328 by omega),Dk (show l.flatten.length<=140737488355328 by omega)];show Vm.chk (decide ((List.map Vm.byteOf l').length+l.flatten.length<=140737488355328)) _=_;all_goals grind[qP]
 .rw[Dp h,Dp h];rfl
def fB (N t:Nat) (l:List Bs) (ht:t<256) (h31:t % 32≠31) (hN:l.length<N:=by omega) (hl:l.length<=1099511627776:=by omega) (hs:l.flatten.length<=140737488355328:=by omega):SE N (t:Int) l=some ((KT t l.flatten).getD [],if(KT t l.flatten).isNone then 6 else 0):=by
 unfold SE;try simp -zeta only[Ap]
 simp only[qQ,TJ,Acm,Acl,QR,Afi];rw[show(decide ((t:Int)<0)||decide ((t:Int)>255)||(t:Int).tmod 32==31)=false by rw[DT (by omega)];simp;omega,cond_false];refine Ew (Nu (fun x=> ∃ i,i<=l.length/\x=((l.take i).flatten,(i:Int))) (fun x=>l.length - x.2.toNat) (fun _=>some ((KT t l.flatten).getD [],if(KT t l.flatten).isNone then 6 else 0)) ?_ N _ ⟨0,by omega,rfl⟩ (by show l.length - 0<N;omega)) rfl;rintro x ⟨i,hi,rfl⟩ k hk;show(bif decide ((i:Int)<(l.length:Int))then _ else _)=_;by_cases h:i<l.length
 .simp only[Xa,qP,Int.toNat_natCast];have e:(l.take i).flatten++l.getD i []=(l.take (i+1)).flatten:=by all_goals grind[take_snoc]
  have hle:(l.take (i+1)).flatten.length<=l.flatten.length:=by
   conv=>rhs;rw[<- Ht (i+1) l,G9,Dv]
   omega
  have e2:(l.take i).flatten.length+(l.getD i []).length<=140737488355328:=by rw[<- Dv,e];omega
  rw[A0z,A0z,A0z,Du e2,e,w64];exact hk _ ⟨i+1,h,rfl⟩ (by show l.length - ((i:Int)+1).toNat<l.length - (i:Int).toNat;omega)
 .have hil:i=l.length:=by omega
  subst hil;rw[Xa,A0y];dsimp only;rw[EP];unfold KT;by_cases h:l.flatten.length<=131072
  .rw[Du h,Xa,A0y,P6];have:=head_eq t l.flatten.length ht (fun l':List Int=>Vm.chk (List.all l' isByte)<|Vm.chk (decide ((List.map Vm.byteOf l').length+l.flatten.length<=140737488355328))<|some ((List.map Vm.byteOf l')++l.flatten,(0:Int))) (fun h=>some (h++l.flatten,0)) (fun l' hl' hl5=>by rw[hl',Jz,qP,Du (by rw[D7];omega)]);refine Ew ?_ this;simp only[Xa];by_cases h1:l.flatten.length<128
   .rw[A0y,A0y,A0y,A0z]
   .by_cases h2:l.flatten.length<256
    .rw[A0y,A0y,A0z,A0y,A0z]
    .by_cases h3:l.flatten.length<65536
     .rw[A0y,A0z,A0y,A0y,A0z]
     .rw[A0z,A0y,A0y,A0y]
  .rw[Dp h,Xa,A0z];rfl
def bG (N t:Nat) (l:List Bs) (ht:t<256) (h31:t % 32≠31) (hN:l.length<N) (hl:l.length<=1099511627776) (hs:l.flatten.length<=140737488355328):LV N (t:Int) l=some ((KT t l.flatten).getD [],if(KT t l.flatten).isNone then 2 else 0):=by unfold LV;rw[fB N t l ht h31 hN hl hs,Jt];cases KT t l.flatten<;>rfl
def TC (N:Nat) (b:Bool) (s:Bs) (e:Int):Ko N b s e=some (s,b||decide (e≠0)):=by
 unfold Ko;try simp -zeta only[Ap]
 cases b<;>simp [Vm.chk,bne,BEq.beq,decide_not]
def AgW (N t:Nat) (b:Bool) (l:List Bs) (ht:t<256) (h31:t % 32≠31) (hN:l.length<N) (hl:l.length<=1099511627776):JA N b (t:Int) l=some ((KT t l.flatten).getD [],b||(KT t l.flatten).isNone):=by unfold JA;rw[Vg N t l ht h31 hN hl,Jt,TC,Jt];cases KT t l.flatten<;>simp
def Alu (N:Nat) (b:Bool) (l:List Bs) (hN:l.length<N) (hl:l.length<=1099511627776):JU N b l=some ((KT 48 l.flatten).getD [],b||(KT 48 l.flatten).isNone):=by unfold JU;rw[show(48:Int)=((48:Nat):Int)from rfl,AgW N 48 b l (by omega) (by omega) hN hl,Jt]
abbrev El:=Int×Bs×Bs
def Acu (M:Nat) (e:El):Prop:= ∃ t:Bs,Sp.err t=0/\e=Tu t/\t.length<=M
structure Good (M:Nat) (l:List El):Prop where
 len:l.length<=M
 all: ∀ e∈l,Acu M e
 AyM:(l.map (·.2.2)).flatten.length<=M
def Acu.mono {M K:Nat} {e:El} (h:Acu M e) (hk:M<=K):Acu K e:=by obtain⟨t,h1,h2,h3⟩:=h;exact⟨t,h1,h2,by omega⟩
def Acu.content {M:Nat} {e:El} (h:Acu M e):e.2.1.length+2<=e.2.2.length/\e.2.2.length<=M/\0<=e.1/\e.1<256:=by obtain⟨t,h1,rfl,h3⟩:=h;have:=Sp.AgB t h1;have hr:=Sp.Asd t h1;have hc:=Sp.Ahn t h1;have ht:=Acb t;show(Sp.content t).length+2<=(Sp.raw t).length/\(Sp.raw t).length<=M/\0<=((Sp.tag t:Nat):Int)/\((Sp.tag t:Nat):Int)<256;omega
def Good.mono {M K:Nat} {l:List El} (h:Good M l) (hk:M<=K):Good K l:=⟨by have:=h.len;omega,fun e he=>(h.all e he).mono hk,by have:=h.AyM;omega⟩
def Good.tail {M:Nat} {e:El} {l:List El} (h:Good M (e::l)):Good M l:=⟨by have:=h.len;simp at this;omega,fun e he=>h.all e (D5 _ he),by have:=h.AyM;rw[Ei,List.flatten_cons,Dv]at this;omega⟩
def LY (s:Bs):Bool:=(Nr s).isSome
def LG (s:Bs):Prop:=s.length<=1048576
def VP (N:Nat) (s:Bs) (hN:1048578<N) (hs:LG s):OU N s=some (LY s):=(iT N s (by omega) hs (by unfold LG at hs;omega)).1
def WY (N:Nat) (s:Bs) (hN:1048578<N) (hs:LG s):LP N s=some (LY s):=(iT N s (by omega) hs (by unfold LG at hs;omega)).2
def Ahd (a b:Bs):(a==b)=(b==a):=IK
def idI (l:List Bs) (i:Nat):Int:=bif !LY (l.getD i [])then 11 else bif (l.take i).any (fun x=>x==l.getD i [])then 10 else 0
def oG (l:List Bs) (m:Int):Int:=bif decide ((l.length:Int)>m)then 2 else Ky (idI l) (List.range l.length)
def Ady (N:Nat) (l:List Bs) (m:Int) (hN:1048578<N) (hl:l.length<=1048576) (hs: ∀ s∈l,LG s):QQ N l m=some (oG l m):=by
 unfold QQ oG;try simp -zeta only[Ap]
 cases decide ((l.length:Int)>m)with
 | true=>rfl
 | false =>
  rw[cond_false,cond_false];refine(Un (mk:=fun i=>(i:Int)) l.length (idI l) some (some 0) ?_ ?_ N).trans (first_some _)
  .intro i hi k;have hv:=VP N _ hN (hs _ (getD_mem [] hi));unfold idI;simp (disch:=omega) only[JF,hv,VE];cases LY (l.getD i [])with
   | false=>rfl
   | true =>
    rw[EI,cond_false,cond_false];refine(QJ (mk:=fun j=>(j:Int)) (l.take i) [] (fun x=>x==l.getD i []) (some 10) (k ((i+1:Nat):Int)) ?_ ?_ N (by rw[DD];omega)).trans ?_
    .intro j hj k;have hlt:(l.take i).length=i:=by rw[DD];omega
     have hj2:j<i:=by omega
     simp (disch:=omega) only[JF,hlt,JX];rw[Ahd]
    .intro k;have hlt:(l.take i).length=i:=by rw[DD];omega
     simp (disch:=omega) only[JF,hlt,JX]
    .cases (l.take i).any (fun x=>x==l.getD i [])<;>rfl
  .intro k;simp (disch:=omega) only[JF]
def Aau (N:Nat) (l:List Bs) (m:Int) (hN:1048578<N) (hl:l.length<=1048576) (hs: ∀ s∈l,LG s):SG N l m=some (oG l m):=by
 unfold SG oG;try simp -zeta only[Ap]
 cases decide ((l.length:Int)>m)with
 | true=>rfl
 | false =>
  rw[cond_false,cond_false];refine(Un (mk:=fun i=>(i:Int)) l.length (idI l) some (some 0) ?_ ?_ N).trans (first_some _)
  .intro i hi k;have hv:=WY N _ hN (hs _ (getD_mem [] hi));unfold idI;simp (disch:=omega) only[JF,hv,VE];cases LY (l.getD i [])with
   | false=>rfl
   | true =>
    rw[EI,cond_false,cond_false];refine(QJ (mk:=fun j=>(j:Int)) (l.take i) [] (fun x=>x==l.getD i []) (some 10) (k ((i+1:Nat):Int)) ?_ ?_ N (by rw[DD];omega)).trans ?_
    .intro j hj k;have hlt:(l.take i).length=i:=by rw[DD];omega
     have hj2:j<i:=by omega
     simp (disch:=omega) only[JF,hlt,JX,Ajs]
    .intro k;have hlt:(l.take i).length=i:=by rw[DD];omega
     simp (disch:=omega) only[JF,hlt,JX]
    .cases (l.take i).any (fun x=>x==l.getD i [])<;>rfl
  .intro k;simp (disch:=omega) only[JF]
def mpI (l:List (Bs×Bs)) (i:Nat):Int:=bif !LY (l.getD i ([],[])).1|| !LY (l.getD i ([],[])).2 then 11 else bif (l.take i).any (fun x=>x.1==(l.getD i ([],[])).1&&x.2==(l.getD i ([],[])).2)then 10 else 0
def Abg (l:List (Bs×Bs)):Int:=bif decide (8<l.length)then 2 else Ky (mpI l) (List.range l.length)
def sW (m:Bs×Bs):Prop:=LG m.1/\LG m.2
def Aee (N:Nat) (l:List (Bs×Bs)) (hN:1048578<N) (hs: ∀ s∈l,sW s):Qc N l=some (Abg l):=by
 unfold Qc Abg;try simp only[clR]
 rw[show decide (((l.length:Nat):Int)>8)=decide (8<l.length)from MX _ 8];by_cases h8:8<l.length
 .rw[Dk h8];rfl
 .rw[Dq h8,cond_false,cond_false];refine(Un (mk:=fun i=>(i:Int)) l.length (mpI l) some (some 0) ?_ ?_ N).trans (first_some _)
  .intro i hi k;have hm:=hs _ (getD_mem ([],[]) hi);have hv1:=VP N _ hN hm.1;have hv2:=VP N _ hN hm.2;unfold mpI;simp (disch:=omega) only[JF,hv1,hv2,VE,Option.isSome_some,Option.getD_some];cases (!LY (l.getD i ([],[])).1|| !LY (l.getD i ([],[])).2)with
   | true=>rfl
   | false =>
    rw[cond_false,cond_false];refine(QJ (mk:=fun j=>((j:Int),(l.getD i ([],[])).1,(l.getD i ([],[])).2)) (l.take i) ([],[]) (fun x=>x.1==(l.getD i ([],[])).1&&x.2==(l.getD i ([],[])).2) (some 10) (k ((i+1:Nat):Int)) ?_ ?_ N (by rw[DD];omega)).trans ?_
    .intro j hj k;have hlt:(l.take i).length=i:=by rw[DD];omega
     have hj2:j<i:=by omega
     simp (disch:=omega) only[JF,hlt,JX];rw[Ahd,Ahd (l.getD i ([],[])).2]
    .intro k;have hlt:(l.take i).length=i:=by rw[DD];omega
     simp (disch:=omega) only[JF,hlt,JX]
    .cases (l.take i).any (fun x=>x.1==(l.getD i ([],[])).1&&x.2==(l.getD i ([],[])).2)<;>rfl
  .intro k;simp (disch:=omega) only[JF]
def wZ (N:Nat) (l:List (Bs×Bs)) (hN:1048578<N) (hs: ∀ s∈l,sW s):Rx N l=some (Abg l):=by
 unfold Rx Abg;try simp only[clR]
 rw[show decide (((l.length:Nat):Int)>8)=decide (8<l.length)from MX _ 8];by_cases h8:8<l.length
 .rw[Dk h8];rfl
 .rw[Dq h8,cond_false,cond_false];refine(Un (mk:=fun i=>(i:Int)) l.length (mpI l) some (some 0) ?_ ?_ N).trans (first_some _)
  .intro i hi k;have hm:=hs _ (getD_mem ([],[]) hi);have hv1:=WY N _ hN hm.1;have hv2:=WY N _ hN hm.2;unfold mpI;simp (disch:=omega) only[JF,hv1,hv2,VE,Option.isSome_some,Option.getD_some];cases (!LY (l.getD i ([],[])).1|| !LY (l.getD i ([],[])).2)with
   | true=>rfl
   | false =>
    rw[cond_false,cond_false];refine(QJ (mk:=fun j=>((j:Int),(l.getD i ([],[])).1,(l.getD i ([],[])).2)) (l.take i) ([],[]) (fun x=>x.1==(l.getD i ([],[])).1&&x.2==(l.getD i ([],[])).2) (some 10) (k ((i+1:Nat):Int)) ?_ ?_ N (by rw[DD];omega)).trans ?_
    .intro j hj k;have hlt:(l.take i).length=i:=by rw[DD];omega
     have hj2:j<i:=by omega
     simp (disch:=omega) only[JF,hlt,JX,Ajs]
    .intro k;have hlt:(l.take i).length=i:=by rw[DD];omega
     simp (disch:=omega) only[JF,hlt,JX]
    .cases (l.take i).any (fun x=>x.1==(l.getD i ([],[])).1&&x.2==(l.getD i ([],[])).2)<;>rfl
  .intro k;simp (disch:=omega) only[JF]
abbrev Ex:Type:=Bs×Bool×Bs
abbrev Rw:Type:=Bs×Int×Nat×Nat×Nat
def V7:List Rw:=(PR 0).getD []
def AhI:List Bs:=(aV 0).getD []
def cZ (s:Bs):Bool:=AhI.any (fun x=>x==s)
def Awl:V7.map (·.1)=AhI:=by decide +kernel
def AeS:V7.length=13:=by decide +kernel
def Ax2:AhI.length=13:=by decide +kernel
def find_eq (N:Nat) (s:Bs) (hN:1048578<N): ∃ r,Yu N s=some (r,cZ s):=by
 unfold Yu;try simp -zeta only[Ap]
 rw[show PR N=some V7 from rfl,Jt];have hl:=AeS;refine⟨_,(QF (S:=Unit) (R:=Rw) (mk:=fun i _=>(i:Int)) V7 ([],0,0,0,0) (fun r _=>bif r.1==s then .inl r else .inr ()) (fun r=>some (r,true)) (fun _=>some (([],0,0,0,0),false)) ?_ ?_ N ()).trans (?_:_=some ((OX (fun(r:Rw) (_:Unit)=>bif r.1==s then Sum.inl r else Sum.inr ()) V7 ()).elim id (fun _=>([],0,0,0,0)),cZ s))⟩
 .intro i _ hi k;simp (disch:=omega) only[JF,JX]
 .intro _ k;simp (disch:=omega) only[JF]
 .unfold cZ;rw[<- Awl];generalize V7=l
  induction l with
  | nil=>rfl
  | cons r t ih =>
   rw[N9,Ei,List.any_cons];cases r.1==s with
   | true=>rfl
   | false=>exact ih
def AuO (N:Nat) (s:Bs) (hN:1048578<N):aU N s=some (cZ s):=by
 unfold aU;try simp -zeta only[Ap]
 rw[show aV N=some AhI from rfl,Jt];have hl:=Ax2;refine(QJ (mk:=fun i=>(i:Int)) AhI [] (fun x=>x==s) (some true) (some false) ?_ ?_ N).trans ?_
 .intro i hi k;simp (disch:=omega) only[JF,JX]
 .intro k;simp (disch:=omega) only[JF]
 .unfold cZ;cases AhI.any (fun x=>x==s)<;>rfl
def Ap7 (N:Nat) (l:List Ex) (s:Bs) (hN:l.length<N) (hl:l.length<=1048576): ∃ r,WI N l s=some (r,l.any (fun x=>x.1==s)):=by
 unfold WI;try simp -zeta only[Ap]
 refine⟨_,(QF (S:=Unit) (R:=Ex) (mk:=fun i _=>(i:Int)) l ([],false,[]) (fun r _=>bif r.1==s then .inl r else .inr ()) (fun r=>some (r,true)) (fun _=>some (([],false,[]),false)) ?_ ?_ N ()).trans (?_:_=some ((OX (fun(r:Ex) (_:Unit)=>bif r.1==s then Sum.inl r else Sum.inr ()) l ()).elim id (fun _=>([],false,[])),l.any (fun x=>x.1==s)))⟩
 .intro i _ hi k;simp (disch:=omega) only[JF,JX]
 .intro _ k;simp (disch:=omega) only[JF]
 .clear hN hl
  induction l with
  | nil=>rfl
  | cons r t ih =>
   rw[N9,List.any_cons];cases r.1==s with
   | true=>rfl
   | false=>exact ih
def unI (l:List Ex) (i:Nat):Int:=bif !LY (l.getD i ([],false,[])).1 then 11 else bif cZ (l.getD i ([],false,[])).1 then 20 else bif (l.take i).any (fun x=>x.1==(l.getD i ([],false,[])).1)then 10 else Sp.chk (l.getD i ([],false,[])).2.2
def AnZ (l:List Ex):Int:=Ky (unI l) (List.range l.length)
def TZ (x:Ex):Prop:=LG x.1/\LG x.2.2
def Afu (N:Nat) (l:List Ex) (hN:1048578<N) (hl:l.length<=1048576) (hs: ∀ x∈l,TZ x):OB N l=some (AnZ l):=by
 unfold OB AnZ;try simp only[clR]
 refine(Un (mk:=fun i=>(i:Int)) l.length (unI l) some (some 0) ?_ ?_ N).trans (first_some _)
 .intro i hi k;have hm:=hs _ (getD_mem ([],false,[]) hi);have hv:=VP N _ hN hm.1;obtain⟨r,hf⟩:=find_eq N (l.getD i ([],false,[])).1 hN;have hc:=Ace N (l.getD i ([],false,[])).2.2 (by omega) (by have:=hm.2;unfold LG at this;omega) (by have:=hm.2;unfold LG at this;omega);unfold unI;simp (disch:=omega) only[JF,hv,hf,VE];cases LY (l.getD i ([],false,[])).1 with
  | false=>rfl
  | true =>
   rw[EI,cond_false,cond_false];cases cZ (l.getD i ([],false,[])).1 with
   | true=>rfl
   | false =>
    rw[cond_false,cond_false];refine(QJ (mk:=fun j=>((j:Int),(l.getD i ([],false,[])).1,(l.getD i ([],false,[])).2.1,(l.getD i ([],false,[])).2.2)) (l.take i) ([],false,[]) (fun x=>x.1==(l.getD i ([],false,[])).1) (some 10) (bif Sp.chk (l.getD i ([],false,[])).2.2 != 0 then some (Sp.chk (l.getD i ([],false,[])).2.2)else k ((i+1:Nat):Int)) ?_ ?_ N (by rw[DD];omega)).trans ?_
    .intro j hj k;have hlt:(l.take i).length=i:=by rw[DD];omega
     have hj2:j<i:=by omega
     simp (disch:=omega) only[JF,hlt,JX]
    .intro k;have hlt:(l.take i).length=i:=by rw[DD];omega
     simp (disch:=omega) only[JF,hlt,hc,JX]
    .cases (l.take i).any (fun x=>x.1==(l.getD i ([],false,[])).1)<;>rfl
 .intro k;simp (disch:=omega) only[JF]
def AiD {X Y ρ :Type} {B:X->(X->Option ρ)->(Y->Option ρ)->Option ρ} {kx:Y->Option ρ} (mk:Nat->Int->X) (l:List Bool) (fin:Int->Option ρ) (s0:Nat) (hs0:s0+l.length<=1099511627776)
 (h: ∀(i:Nat) (s:Int),i<l.length->0<=s->s<=1099511627776-> ∀ k,B (mk i s) k kx=bif l.getD i false then k (mk (i+1) (s+1))else k (mk (i+1) s))
 (hend: ∀(s:Int) (k:X->Option ρ),B (mk l.length s) k kx=fin s) (N:Nat) (hN:l.length<N):J3 B N (mk 0 (s0:Int)) kx=fin ((s0+l.count true:Nat):Int):=by
 refine(Uf (S:=Nat) (R:=Unit) (mk:=fun i s=>mk i (s:Int)) l false (fun i s=>s<=s0+i) (fun b s=>.inr (bif b then s+1 else s)) (fun _=>none) (fun s=>fin (s:Int)) ?_ ?_ (fun s k _=>hend s k) N s0 (DK _) hN).trans ?_
 .intro i s hi hI k;rw[h i s hi (by omega) (by omega)];cases l.getD i false<;>rfl
 .intro i s s' hi hI he;injection he with he;subst he;cases l.getD i false
  .show s<=_;omega
  .show s+1<=_;omega
 .have: ∀(l:List Bool) (s:Nat),OX (R:=Unit) (fun b (s:Nat)=>.inr (bif b then s+1 else s)) l s= .inr (s+l.count true):=by
   intro l
   induction l with
   | nil=>intro s;rfl
   | cons b r ih =>
    intro s;rw[N9];show OX (R:=Unit) _ r _=_;rw[ih];cases b with
    | true=>rw[List.count_cons_self];congr 1;show s+1+_=_;omega
    | false=>rw[List.count_cons_of_ne (by decide)];rfl
  rw[this];rfl
abbrev Info:Type:=Bool×Bool×Int×Int×List Bs×List Bs×List (Bs×Bs)×Int×Int×Int×List Gn×Bool×List Gn×List Gn×Bs×Bs×List Pt×List Pt×List Ex
def spI (n:Int):Bool:=decide (n>= -1)&&decide (n<=64)
def vG:Info->List Bool
 | (hb,_,_,us,pu,po,ma,re,im,ia,na,hc,_,_,sk,ak,pt,fr,_)=>[hb,us != 0,decide (((pu.length:Nat):Int)>0),decide (((po.length:Nat):Int)>0),decide (((ma.length:Nat):Int)>0),re != -1||im != -1,ia != -1,decide (((na.length:Nat):Int)>0),hc,!(sk==[]),!(ak==[]),decide (((pt.length:Nat):Int)>0),decide (((fr.length:Nat):Int)>0)]
def uQ (hc:Bool) (s:St2):Int:=bif hc then ZP s else bif !s.1.isEmpty|| !s.2.isEmpty then 7 else 0
def RF (l:List Pt):Int:=bif decide (4<l.length)then 2 else Ky ptI l
def Qg:Info->Int
 | (hb,ca,pl,us,pu,po,ma,re,im,ia,na,hc,pe,ex,sk,ak,pt,fr,un) =>
  bif (ca&& !hb)||(pl != -1&& !ca)then 7
  else bif !spI pl|| !spI re|| !spI im|| !spI ia||decide (us<0)||decide (us>511)then 1
  else bif oG pu 8 != 0 then oG pu 8
  else bif oG po 8 != 0 then oG po 8
  else bif Abg ma != 0 then Abg ma
  else bif decide (16<na.length)then 2
  else bif Ph na false != 0 then Ph na false
  else bif uQ hc (pe,ex) != 0 then uQ hc (pe,ex)
  else bif decide (32<sk.length)||decide (32<ak.length)then 2
  else bif RF pt != 0 then RF pt
  else bif RF fr != 0 then RF fr
  else bif decide (24<un.length+(vG (hb,ca,pl,us,pu,po,ma,re,im,ia,na,hc,pe,ex,sk,ak,pt,fr,un)).count true)then 2
  else AnZ un
structure O5 (x:Info):Prop where
 pu:x.2.2.2.2.1.length<=1048576/\ ∀ s∈x.2.2.2.2.1,LG s
 po:x.2.2.2.2.2.1.length<=1048576/\ ∀ s∈x.2.2.2.2.2.1,LG s
 ma: ∀ s∈x.2.2.2.2.2.2.1,sW s
 na:Lh x.2.2.2.2.2.2.2.2.2.2.1
 pe:Lh x.2.2.2.2.2.2.2.2.2.2.2.2.1
 ex:Lh x.2.2.2.2.2.2.2.2.2.2.2.2.2.1
 pt: ∀ p∈x.2.2.2.2.2.2.2.2.2.2.2.2.2.2.2.2.1,Qp p
 fr: ∀ p∈x.2.2.2.2.2.2.2.2.2.2.2.2.2.2.2.2.2.1,Qp p
 un:x.2.2.2.2.2.2.2.2.2.2.2.2.2.2.2.2.2.2.length<=1048576/\ ∀ p∈x.2.2.2.2.2.2.2.2.2.2.2.2.2.2.2.2.2.2,TZ p
def yV (N:Nat) (x:Info) (hN:1048578<N) (hx:O5 x):OA N x=some (uQ x.2.2.2.2.2.2.2.2.2.2.2.1 (x.2.2.2.2.2.2.2.2.2.2.2.2.1,x.2.2.2.2.2.2.2.2.2.2.2.2.2.1)):=by
 unfold OA;try simp only[clR]
 unfold uQ;rw[l9 N (x.2.2.2.2.2.2.2.2.2.2.2.2.1,x.2.2.2.2.2.2.2.2.2.2.2.2.2.1) hN hx.pe hx.ex,Jt,YE,YE,JY,JY]
def AlZ (N:Nat) (x:Info) (i:Nat) (hi:i<13):Aco N (V7.getD i ([],0,0,0,0)).2.2.1 x=some ((vG x).getD i false):=by
 obtain⟨hb,ca,pl,us,pu,po,ma,re,im,ia,na,hc,pe,ex,sk,ak,pt,fr,un⟩:=x;have:i=0\/i=1\/i=2\/i=3\/i=4\/i=5\/i=6\/i=7\/i=8\/i=9\/i=10\/i=11\/i=12:=by omega
 rcases this with rfl | rfl | rfl | rfl | rfl | rfl | rfl | rfl | rfl | rfl | rfl | rfl | rfl;all_goals first | rfl | skip
 show TG N _=_;unfold TG;try simp only[clR]
 rfl
def AxR (N:Nat) (n:Int):NV N n=some (spI n):=by
 unfold NV;try simp only[clR]
 rfl
def AxQ (N:Nat) (n:Int):PN N n=some (spI n):=by
 unfold PN;try simp only[clR]
 rfl
def jK (N:Nat) (x:Info) (hN:1048578<N) (hx:O5 x):RG N x=some (Qg x):=by
 have hcon:=yV N x hN hx;have hdisp:=AlZ N x;have hlen13:(vG x).length=13:=rfl;have hrl:=AeS;obtain⟨hb,ca,pl,us,pu,po,ma,re,im,ia,na,hc,pe,ex,sk,ak,pt,fr,un⟩:=x;have e1:=Ady N pu 8 hN hx.pu.1 hx.pu.2;have e2:=Ady N po 8 hN hx.po.1 hx.po.2;have e3:=Aee N ma hN hx.ma;have e4:LZ N pt=some (RF pt):=SV N pt hN hx.pt;have e5:LZ N fr=some (RF fr):=SV N fr hN hx.fr;have hun:un.length<=1048576:=hx.un.1;unfold RG Qg;try simp only[clR]
 simp only[AxR,e1,e2,e3,e4,e5,hcon,Option.isSome_some,Option.getD_some,Ea,Jz,Jt,Axb];rw[<- JY];refine KJ fun h1=> ?_;rw[<- JY];refine KJ fun h2=> ?_;rw[<- JY];refine KJ fun h3=> ?_;rw[<- JY];refine KJ fun h4=> ?_;rw[<- JY];refine KJ fun h5=> ?_;rw[show decide (((na.length:Nat):Int)>16)=decide (16<na.length)from MX _ 16];rw[<- JY];refine KJ fun h6=> ?_;rw[XN N na hN (by have:=Ep h6;omega) hx.na,Jt];rw[<- JY];refine KJ fun h7=> ?_;rw[<- JY];refine KJ fun h8=> ?_;rw[show decide (((sk.length:Nat):Int)>32)=decide (32<sk.length)from MX _ 32,show decide (((ak.length:Nat):Int)>32)=decide (32<ak.length)from MX _ 32];rw[<- JY];refine KJ fun h9=> ?_;rw[<- JY];refine KJ fun h10=> ?_;rw[<- JY];refine KJ fun h11=> ?_;rw[show PR N=some V7 from rfl,Jt];refine(AiD (mk:=fun i s=>(s,(i:Int),hb,ca,pl,us,pu,po,ma,re,im,ia,na,hc,pe,ex,sk,ak,pt,fr,un)) (vG (hb,ca,pl,us,pu,po,ma,re,im,ia,na,hc,pe,ex,sk,ak,pt,fr,un)) (fun s=>bif decide (s>24)then some 2 else Jr (OB N un) fun r=>some r) un.length (by omega) ?_ ?_ N (by omega)).trans ?_
 .intro i s hi h0 h1 k;have hd:=hdisp i (by omega);dsimp only[U21];simp (disch:=omega) only[JF,hd,JX]
 .intro s k;dsimp only[U21];simp (disch:=omega) only[JF,hlen13,hrl];rfl
 .rw[Afu N un hN hun hx.un.2,Jt,show ∀ n:Nat,decide ((n:Int)>24)=decide (24<n)from fun n=>MX n 24,JY]
def AhF:Info->List Bool
 | (B,_,_,F,G,H,I,J,M,O,P,hc,_,_,T,U,V,W,_)=>[B,F != 0,decide (((G.length:Nat):Int)>0),decide (((H.length:Nat):Int)>0),decide (((I.length:Nat):Int)>0),decide (J>=0)||decide (M>=0),decide (O>=0),decide (((P.length:Nat):Int)>0),hc,!(T==[]),!(U==[]),decide (((V.length:Nat):Int)>0),decide (((W.length:Nat):Int)>0)]
def Au7 {n:Int} (h:spI n=true): -1<=n/\n<=64:=by unfold spI at h;rw[Dx,D6,D6]at h;exact⟨h.1,h.2⟩
def iE {n:Int} (h:spI n=true):decide (n>=0)=(n != -1):=by
 have:=Au7 h;by_cases hn:n= -1
 .subst hn;rfl
 .rw[Dk,show(n != -1)=true from EE.2 hn]
def AuM (N:Nat) (x:Info) (hN:1048578<N) (hun:x.2.2.2.2.2.2.2.2.2.2.2.2.2.2.2.2.2.2.length<=1048576):Xl N x=some ((x.2.2.2.2.2.2.2.2.2.2.2.2.2.2.2.2.2.2.length+(AhF x).count true:Nat):Int):=by
 have hlen13:(AhF x).length=13:=rfl;obtain⟨B,C,D,F,G,H,I,J,M,O,P,hc,Q,S,T,U,V,W,X⟩:=x;unfold Xl;try simp only[clR]
 have hun:X.length<=1048576:=hun;refine(AiD (mk:=fun i s=>(s,(i:Int),AhF (B,C,D,F,G,H,I,J,M,O,P,hc,Q,S,T,U,V,W,X))) (AhF (B,C,D,F,G,H,I,J,M,O,P,hc,Q,S,T,U,V,W,X)) some X.length (by omega) ?_ ?_ N (by omega)).trans rfl
 .intro i s hi h0 h1 k;simp (disch:=omega) only[JF,hlen13,JX]
 .intro s k;simp (disch:=omega) only[JF,hlen13]
def zT (N:Nat) (x:Info) (hN:1048578<N) (hx:O5 x):Qo N x=some (Qg x):=by
 have hcnt:=AuM N x hN hx.un.1;have hsub:=jE N (x.2.2.2.2.2.2.2.2.2.2.2.2.1,x.2.2.2.2.2.2.2.2.2.2.2.2.2.1) hN hx.pe hx.ex;obtain⟨B,C,D,F,G,H,I,J,M,O,P,hc,Q,S,T,U,V,W,X⟩:=x;have e1:=Aau N G 8 hN hx.pu.1 hx.pu.2;have e2:=Aau N H 8 hN hx.po.1 hx.po.2;have e3:=wZ N I hN hx.ma;have e4:MV N V=some (RF V):=UA N V hN hx.pt;have e5:MV N W=some (RF W):=UA N W hN hx.fr;have e6:=Zj N P hN hx.na;have hun:X.length<=1048576:=hx.un.1;unfold Qo Qg;try simp only[clR]
 simp only[AxQ,e1,e2,e3,Option.isSome_some,Option.getD_some,Ea,Jz,Jt,Axb];rw[<- JY];refine KJ fun h1=> ?_;rw[<- JY];refine KJ fun h2=> ?_;rw[<- JY];refine KJ fun h3=> ?_;rw[<- JY];refine KJ fun h4=> ?_;rw[<- JY];refine KJ fun h5=> ?_;have key:(AhF (B,C,D,F,G,H,I,J,M,O,P,hc,Q,S,T,U,V,W,X))=vG (B,C,D,F,G,H,I,J,M,O,P,hc,Q,S,T,U,V,W,X):=by simp only[Fe,Ia]at h2;obtain⟨⟨⟨⟨⟨g1,g2⟩,g3⟩,g4⟩,_⟩,_⟩:=h2;unfold AhF vG;dsimp only;rw[iE g2,iE g3,iE g4]
 rw[key]at hcnt;have hcnt:Xl N (B,C,D,F,G,H,I,J,M,O,P,hc,Q,S,T,U,V,W,X)=some ((X.length+(vG (B,C,D,F,G,H,I,J,M,O,P,hc,Q,S,T,U,V,W,X)).count true:Nat):Int):=hcnt
 have merge: ∀(L:Option Int) (R:Int),L=some R->(bif (bif decide (16<P.length)then 2 else Ph P false) != 0 then some (bif decide (16<P.length)then 2 else Ph P false)else L)=some (bif decide (16<P.length)then 2 else bif Ph P false != 0 then Ph P false else R):=by
  intro L R h;rw[h];cases decide (16<P.length)with
  | true=>rfl
  | false=>rw[cond_false,cond_false,JY]
 rw[e6,Jt];refine merge _ _ ?_;simp only[KX]
 have con: ∀(K:Option Int) (R:Int),K=some R->(bif hc then Jr (Nb N (Q,S)) fun r92=>bif r92 != 0 then some r92 else K else bif decide (((Q.length:Nat):Int)>0)||decide (((S.length:Nat):Int)>0)then some 7 else K)=some (bif uQ hc (Q,S) != 0 then uQ hc (Q,S)else R):=by
  intro K R h;have hsub:Nb N (Q,S)=some (ZP (Q,S)):=hsub;rw[h,hsub,Jt,YE,YE];unfold uQ;cases hc with
  | true=>rw[cond_true,cond_true,JY]
  | false =>rw[cond_false,cond_false];show(bif !Q.isEmpty|| !S.isEmpty then some (7:Int)else some R)=some (bif (bif !Q.isEmpty|| !S.isEmpty then(7:Int)else 0) != 0 then(bif !Q.isEmpty|| !S.isEmpty then(7:Int)else 0)else R);cases (!Q.isEmpty|| !S.isEmpty)<;>rfl
 refine con _ _ ?_;show(U19 _ (B,C,D,F,G,H,I,J,M,O,P,hc,Q,S,T,U,V,W,X))=_;dsimp only[U19];rw[show decide (((T.length:Nat):Int)>32)=decide (32<T.length)from MX _ 32,show decide (((U.length:Nat):Int)>32)=decide (32<U.length)from MX _ 32,e4,Jt,e5,Jt];rw[<- JY];refine KJ fun h9=> ?_;rw[<- JY];refine KJ fun h10=> ?_;rw[<- JY];refine KJ fun h11=> ?_;rw[hcnt,Jt,show ∀ n:Nat,decide ((n:Int)>24)=decide (24<n)from fun n=>MX n 24];rw[<- JY];refine KJ fun h12=> ?_;unfold AnZ;refine(Un (mk:=fun i=>((i:Int),B,C,D,F,G,H,I,J,M,O,P,hc,Q,S,T,U,V,W,X)) X.length (unI X) some (some 0) ?_ ?_ N).trans (first_some _)
 .intro i hi k;have hm:TZ (X.getD i ([],false,[])):=hx.un.2 _ (getD_mem ([],false,[]) hi);have hv:=WY N _ hN hm.1;have hk:=AuO N (X.getD i ([],false,[])).1 hN;obtain⟨r,hf⟩:=Ap7 N (X.take i) (X.getD i ([],false,[])).1 (by rw[DD];omega) (by rw[DD];omega);have hc:=rZ N (X.getD i ([],false,[])).2.2 (by omega) (by have:=hm.2;unfold LG at this;omega) (by have:=hm.2;unfold LG at this;omega);unfold unI;dsimp only[U20];simp (disch:=omega) only[JF,hv,hk,VE,hf,hc,JX];cases LY (X.getD i ([],false,[])).1<;>cases cZ (X.getD i ([],false,[])).1<;>cases (X.take i).any (fun x=>x.1==(X.getD i ([],false,[])).1)<;>rfl
 .intro k;dsimp only[U20];simp (disch:=omega) only[JF]
def ZV {t:Nat} {c:Bs} (h:c.length<=131072):KT t c=some (Sp.elem t c):=by unfold KT;rw[Du h]
def XJ (N t:Nat) (l:List Bs) (ht:t<256) (h31:t % 32≠31) (hN:1048578<N) (hl:l.length<=1000) (hs:l.flatten.length<=131072):Kw N (t:Int) l=some (Sp.elem t l.flatten,0):=by rw[Vg N t l ht h31,ZV hs];rfl
theorem Q9 (N t:Nat) (l:List Bs) (ht:t<256) (h31:t % 32≠31) (hN:1048578<N) (hl:l.length<=1000) (hs:l.flatten.length<=131072):JK N (t:Int) l=some (Sp.elem t l.flatten):=by unfold JK;rw[fB N t l ht h31,Jt,ZV hs];rfl
def We (N t:Nat) (b:Bool) (l:List Bs) (ht:t<256) (h31:t % 32≠31) (hN:1048578<N) (hl:l.length<=1000) (hs:l.flatten.length<=131072):JA N b (t:Int) l=some (Sp.elem t l.flatten,b):=by rw[AgW N t b l ht h31 (by omega) (by omega),ZV hs];simp
theorem JO (a:Bs): [a].flatten=a:=by simp
def OW (a b:Bs): [a,b].flatten=a++b:=by simp
def flat3 (a b c:Bs): [a,b,c].flatten=a++(b++c):=by simp
def Na (s:Bs):Bs:=(encR (Nr s)).1
def Yb {s:Bs} (h:LY s=true):encR (Nr s)=(Na s,0)/\(Na s).length<=60:=by
 unfold LY at h;unfold Na;cases ha:Nr s with
 | none=>rw[ha]at h;cases h
 | some l =>refine⟨rfl,?_⟩;obtain⟨h1,h2,h3,h4⟩:=gW ha;show((jS l).map UInt8.ofNat).length<=60;have hf:=(vC h1 h3 h4).1;have hs:(XG (40*l.getD 0 0+l.getD 1 0)).length<=5:=kX _ hf;have hr:=Av9 XG 5 (l.drop 2) (fun x hx=>kX x (by have:=h3 x (FQ hx);omega));unfold jS;rw[D7,Dv];rw[Es]at hr;omega
def Afd (e:Att):Prop:=LY e.1=true/\(e.2.1=12\/e.2.1=19\/e.2.1=22)/\e.2.2.length<=64
def Aw7 {k:Int} {v:Bs} (h:VZ k v=true):k=12\/k=19\/k=22:=by
 unfold VZ at h;by_cases h1:k=12
 .exact .inl h1
 .rw[Dp h1]at h;by_cases h2:k=19
  .exact .inr (.inl h2)
  .rw[Dp h2]at h;by_cases h3:k=22
   .exact .inr (.inr h3)
   .rw[Dp h3]at h;cases h
def Axm {e:Att} {s:List Att} (h:Rz e s=0):Afd e/\VZ e.2.1 e.2.2=true/\e.2.2≠ []/\s.any (fun x=>x.1==e.1)=false:=by
 unfold Rz at h;by_cases h1:Nr e.1=none
 .rw[Du h1]at h;cases h
 .rw[Dp h1]at h;by_cases h2:e.2.2=[]\/VZ e.2.1 e.2.2=false
  .rw[Du h2]at h;cases h
  .rw[Dp h2]at h;by_cases h3:64<e.2.2.length
   .rw[Du h3]at h;cases h
   .rw[Dp h3]at h
    have ht:VZ e.2.1 e.2.2=true:=by
     cases hq:VZ e.2.1 e.2.2 with
     | true=>rfl
     | false=>exact absurd (Or.inr hq) h2
    refine⟨⟨?_,Aw7 ht,by omega⟩,ht,fun hn=>h2 (Or.inl hn),?_⟩
    .unfold LY;cases hq:Nr e.1 with
     | none=>exact absurd hq h1
     | some l=>rfl
    .cases hq:s.any (fun x=>x.1==e.1)with
     | false=>rfl
     | true=>rw[hq,Du rfl]at h;cases h
def Anq {r:List Att} (h:VT r=0):r≠ []/\r.length<=4/\ ∀ e∈r,Afd e:=by
 unfold VT at h;by_cases h1:r=[]
 .rw[Du h1]at h;cases h
 .rw[Dp h1]at h;by_cases h2:4<r.length
  .rw[Du h2]at h;cases h
  .rw[Dp h2]at h;refine⟨h1,by omega,?_⟩;unfold Anp at h
   have: ∀(l s:List Att),(Qz Wj (fun _=>some (0:Int)) l s).getD 0=0-> ∀ e∈l,Afd e:=by
    intro l
    induction l with
    | nil=>intro s _ e he;cases he
    | cons x t ih =>
     intro s hs e he;unfold Qz Wj at hs;by_cases hx:Rz x s=0
     .rw[Du hx]at hs;rcases D8.1 he with rfl | he
      .exact(Axm hx).1
      .exact ih _ hs e he
     .rw[Dp hx]at hs;exact absurd hs hx
   exact this r [] h
def AeA {n:List (List Att)} (h:Nk n=0):n.length<=8/\ ∀ r∈n,VT r=0:=by
 unfold Nk YJ at h;by_cases h8:8<n.length
 .rw[Du h8]at h;cases h
 .rw[Dp h8]at h;refine⟨by omega,?_⟩
  have: ∀(l:List (List Att)) (s:Unit),(Qz YM (fun _=>some (0:Int)) l s).getD 0=0-> ∀ e∈l,VT e=0:=by
   intro l
   induction l with
   | nil=>intro s _ e he;cases he
   | cons x t ih =>
    intro s hs e he;unfold Qz YM at hs;by_cases hx:VT x=0
    .rw[Du hx]at hs;rcases D8.1 he with rfl | he
     .exact hx
     .exact ih _ hs e he
    .rw[Dp hx]at hs;exact absurd hs hx
  exact this n () h
def VB (e:Att):Bs:=Sp.elem 48 (Sp.elem 6 (Na e.1)++Sp.elem e.2.1.toNat e.2.2)
def AlB {e:Att} (h:Afd e):(VB e).length<=139:=by
 have h1:=(Yb h.1).2;have h2:=h.2.2;unfold VB;have:=Sp.JQ 48 (Sp.elem 6 (Na e.1)++Sp.elem e.2.1.toNat e.2.2);have:=Sp.JQ 6 (Na e.1);have:=Sp.JQ e.2.1.toNat e.2.2;rw[Dv]at *
 omega
def ZL (r:List Att):Bs:=Sp.elem 49 (Ri (r.map VB))
def Abl (l:List Bs):(Ri l).length=l.flatten.length:=by unfold Ri;rw[Gt,Gt];exact((H7 l _).map _).sum_nat
def AeH {r:List Att} (h:VT r=0):(ZL r).length<=561/\(r.map VB).flatten.length<=556:=by obtain⟨_,h4,ha⟩:=Anq h;have h1:=Lp (g:=VB) (M:=139) (l:=r) (fun e he=>AlB (ha e he));have h2:=Sp.JQ 49 (Ri (r.map VB));have h3:=Abl (r.map VB);unfold ZL;omega
def nmB (n:List (List Att)):Bs:=Sp.elem 48 (n.map ZL).flatten
def ZH {n:List (List Att)} (h:Nk n=0):(nmB n).length<=4493/\(n.map ZL).flatten.length<=4488:=by obtain⟨h8,hr⟩:=AeA h;have h1:=Lp (g:=ZL) (M:=561) (l:=n) (fun e he=>(AeH (hr e he)).1);have h2:=Sp.JQ 48 (n.map ZL).flatten;unfold nmB;omega
def AmH {k:Int} (h:k=12\/k=19\/k=22):k=(k.toNat:Int)/\k.toNat<256/\k.toNat % 32≠31:=by omega
def Aa5 (N:Nat) (e:Att) (hN:1048578<N) (hs:dM e) (h:Afd e):Qd N e=some (VB e,0):=by obtain⟨o1,o2⟩:=Yb h.1;obtain⟨k1,k2,k3⟩:=AmH h.2.1;have h64:=h.2.2;have l1:=Sp.JQ 6 (Na e.1);have l2:=Sp.JQ e.2.1.toNat e.2.2;have w1:Kw N 6 [Na e.1]=_:=XJ N 6 [Na e.1] (by omega) (by omega) hN (by simp) (by rw[JO];omega);have w2:=XJ N e.2.1.toNat [e.2.2] k2 k3 hN (by simp) (by rw[JO];omega);have w3:Kw N 48 [Sp.elem 6 (Na e.1),Sp.elem e.2.1.toNat e.2.2]=_:=XJ N 48 [Sp.elem 6 (Na e.1),Sp.elem e.2.1.toNat e.2.2] (by omega) (by omega) hN (by simp) (by rw[OW,Dv];omega);rw[JO]at w1 w2;rw[OW]at w3;rw[<- k1]at w2;unfold Qd;rw[eU N e.1 (by omega) hs.1,o1];simp only[Jt];rw[w1,Jt,w2,Jt,w3,Jt];rfl
def Ajp {n:List (List Att)} (h:LM n) {i:Nat} (hi:i<n.length): ∀ e∈n.getD i [],dM e:=fun e he=>h _ (getD_mem [] hi) e he
def Y1 (N:Nat) (n:List (List Att)) (hN:1048578<N) (hs:LM n):TL N n=some (bif Nk n != 0 then([],Nk n)else(nmB n,0)):=by
 unfold TL;try simp only[clR]
 rw[UJ N n hN hs,Jt,<- JY];refine KJ fun h0=> ?_;have h0:Nk n=0:=by simpa using h0
 obtain⟨h8,hr⟩:=AeA h0;have hnl:=ZH h0;refine(Ti (mk:=fun i acc=>((i:Int),acc)) n [] ZL (fun l=>Jr (Kw N 48 l) fun r62=>some (r62.fst,r62.snd)) ?_ ?_ N).trans ?_
 .intro i acc hi hacc k;have hri:=hr _ (getD_mem [] hi);have hsi:=Ajp hs hi;obtain⟨r0,r4,ra⟩:=Anq hri;have hrl:=AeH hri;have hpos:=GG.2 r0;dsimp only[U2];rw[Int.toNat_natCast];generalize n.getD i []=r at *
  simp (disch:=omega) only[JF];refine(Ti (mk:=fun j a=>((j:Int),a,acc)) r ([],0,[]) VB (fun l=>Jr (VY N l) fun r48=>Jr (Kw N 49 [r48]) fun r50=>bif r50.snd != 0 then some ([],r50.snd)else chk (decide ((acc.length+1)*17<=140737488355328)) (k ((i:Int)+1,acc++[r50.fst]))) ?_ ?_ N).trans ?_
  .intro j a hj ha k;have he:=Aa5 N _ hN (hsi _ (getD_mem ([],0,[]) hj)) (ra _ (getD_mem ([],0,[]) hj));simp (disch:=omega) only[JF,he,JX]
  .intro a k ha;simp (disch:=omega) only[JF]
  .have w:Kw N 49 [Ri (r.map VB)]=_:=XJ N 49 [Ri (r.map VB)] (by omega) (by omega) hN (by simp) (by rw[JO,Abl];omega);rw[JO]at w;unfold VY;rw[Alj (by rw[D7];omega),Ov (by rw[D7];omega),Ov];simp only[FY,cond_true,Jt];rw[w,Jt];simp (disch:=omega) only[JF,JX];rfl
 .intro acc k ha;simp (disch:=omega) only[JF]
 .have w:Kw N 48 (n.map ZL)=_:=XJ N 48 (n.map ZL) (by omega) (by omega) hN (by rw[D7];omega) (by omega);rw[w,Jt];rfl
def WJ (N:Nat) (s:Bs) (hN:1048578<N) (hs:LG s) (h:LY s=true):PW N s=some (Sp.elem 6 (Na s)):=by obtain⟨o1,o2⟩:=Yb h;have w:JK N 6 [Na s]=_:=Q9 N 6 [Na s] (by omega) (by omega) hN (by simp) (by rw[JO];omega);rw[JO]at w;unfold PW;unfold LG at hs;rw[Abx N s (by omega) hs (by omega),o1,Jt,w,Jt]
def dR (N:Nat) (n:List (List Att)) (hN:1048578<N) (hs:LM n):PE N n=some (bif Nk n != 0 then([],Nk n)else(nmB n,0)):=by
 unfold PE;try simp only[clR]
 rw[WX N n hN hs,Jt,<- JY];refine KJ fun h0=> ?_;have h0:Nk n=0:=by simpa using h0
 obtain⟨h8,hr⟩:=AeA h0;have hnl:=ZH h0;refine(Zm (mk:=fun i t=>(t,(i:Int))) n [] ZL (fun t=>Jr (JK N 48 [t]) fun r30=>some (r30,0)) ?_ ?_ N).trans ?_
 .intro i t hi ht k;have hri:=hr _ (getD_mem [] hi);have hsi:=Ajp hs hi;obtain⟨r0,r4,ra⟩:=Anq hri;have hrl:=AeH hri
  have hat:U0 N (n.getD i [])=some ((n.getD i []).map VB):=by
   generalize n.getD i []=r at *
   unfold U0;try simp only[clR]
   refine(Ti (mk:=fun j a=>((j:Int),a)) r ([],0,[]) VB some ?_ ?_ N).trans rfl
   .intro j a hj ha k;have hm:=ra _ (getD_mem ([],0,[]) hj);have hsm:=hsi _ (getD_mem ([],0,[]) hj);have ho:=WJ N _ hN hsm.1 hm.1;have hal:=AlB hm;obtain⟨k1,k2,k3⟩:=AmH hm.2.1;have h64:=hm.2.2;have o2:=(Yb hm.1).2;dsimp only[U2];rw[Int.toNat_natCast];generalize r.getD j ([],0,[])=e at *
    have l1:=Sp.JQ 6 (Na e.1);have l2:=Sp.JQ e.2.1.toNat e.2.2;have w2:=Q9 N e.2.1.toNat [e.2.2] k2 k3 hN (by simp) (by rw[JO];omega);have w3:JK N 48 [Sp.elem 6 (Na e.1),Sp.elem e.2.1.toNat e.2.2]=_:=Q9 N 48 [Sp.elem 6 (Na e.1),Sp.elem e.2.1.toNat e.2.2] (by omega) (by omega) hN (by simp) (by rw[OW,Dv];omega);rw[JO]at w2;rw[OW]at w3;rw[<- k1]at w2;simp (disch:=omega) only[JF,ho,w2,w3,JX];rfl
   .intro a k ha;simp (disch:=omega) only[JF]
  have hor:=Aig N ((n.getD i []).map VB) hN (by rw[D7];omega) (by omega);have w:JK N 49 [Ri ((n.getD i []).map VB)]=_:=Q9 N 49 [Ri ((n.getD i []).map VB)] (by omega) (by omega) hN (by simp) (by rw[JO,Abl];omega);rw[JO]at w;have hw:Sp.elem 49 (Ri ((n.getD i []).map VB))=ZL (n.getD i []):=rfl;simp (disch:=omega) only[JF,hat,hor,w,hw,JX]
 .intro t k;simp (disch:=omega) only[JF]
 .have w:JK N 48 [(n.map ZL).flatten]=_:=Q9 N 48 [(n.map ZL).flatten] (by omega) (by omega) hN (by simp) (by rw[JO];omega);rw[w,Jt,JO];rfl
def AiS {X Y ρ :Type} {B B':X->(X->Option ρ)->(Y->Option ρ)->Option ρ} {kx kx':Y->Option ρ} (I:X->Prop) (h: ∀ x,I x-> ∀ k k':X->Option ρ,(∀ x',I x'->k x'=k' x')->B x k kx=B' x k' kx'): ∀(N:Nat) (x:X),I x->J3 B N x kx=J3 B' N x kx':=by
 intro N
 induction N with
 | zero=>intro x _;rfl
 | succ n ih=>intro x hx;rw[L8,L8];exact h x hx _ _ ih
def AgA (N:Nat) (y:Int) (h1:1950<=y:=by omega) (h2:y<=10001:=by omega):VR N y=some (OV y):=by unfold VR OV;rw[w64 (x:=y - 1),DW (show(0:Int)<=y - 1 by omega),DW (show(0:Int)<=y - 1 by omega),DW (show(0:Int)<=y - 1 by omega)];rw[w64 (x:=(y - 1) / 4),w64 (x:=(y - 1) / 100),w64 (x:=(y - 1) / 400),w64 (x:=y - 1950),w64 (x:=365*(y - 1950)),w64 (x:=(y - 1) / 4 - (y - 1) / 100)];dsimp only;rw[w64 (x:=(y - 1) / 4 - (y - 1) / 100+(y - 1) / 400),w64 (x:=365*(y - 1950)+((y - 1) / 4 - (y - 1) / 100+(y - 1) / 400)),w64]
def Awi (N:Nat) (y m:Int) (h1:1<=m) (h2:m<=12):YV N y m=some (ZC y m):=by
 unfold YV ZC Qj;try simp -zeta only[Ap]
 rw[w64 (x:=m - 1),Dk (show(0:Int)<=m - 1 by omega),Dk (show m - 1<12 by omega),Dk (show(m - 1).toNat<12 by omega)];generalize (([31,28,31,30,31,30,31,31,30,31,30,31]:List Int).getD (m - 1).toNat 0)=v;generalize (m==2)=c1;generalize (y.tmod 4==0)=c2;generalize (y.tmod 100 != 0)=c3;generalize (y.tmod 400==0)=c4;cases c1<;>cases c2<;>cases c3<;>cases c4<;>rfl
section
variable (N:Nat) (hN:1048578<N)
def Aqk (t:Int) (h0:0<=t) (h1:t<=254033452799):aN N t=Uj N t:=by
 unfold Uj aN;try simp -zeta only[Ap]
 have a0:decide (t<0)=false:=A0x;have a1:decide (t>254033452799)=false:=A0x;rw[a0,a1];simp only[Eu,EI,EM,Ea,Jz,cond_false,cond_true];rw[DW h0,DT h0,DW h0,DW h0,DT h0];have hd0:0<=t / 86400:=by omega
 have hd1:t / 86400<=2940201:=by omega
 have hs0:0<=t % 86400:=by omega
 have hs1:t % 86400<=86399:=by omega
 have e1:(i64.wrap (t / 3600)).tmod 24=i64.wrap ((t % 86400).tdiv 3600):=by rw[w64 (x:=t / 3600),DT (by omega),DW hs0,w64];omega
 have e2:(i64.wrap (t / 60)).tmod 60=(i64.wrap ((t % 86400).tdiv 60)).tmod 60:=by rw[w64 (x:=t / 60),DT (by omega),DW hs0,w64,DT (by omega)];omega
 have e3:t % 60=(t % 86400).tmod 60:=by rw[DT hs0];omega
 rw[e1,e2,e3];generalize (t % 86400)=S;generalize t / 86400=D at hd0 hd1 ⊢;rw[w64 (x:=D)];have q3:D.tdiv 366=D / 366:=DW hd0;rw[q3,w64 (x:=D / 366),w64 (x:=1950+D / 366)];refine AiS (fun(y:Int)=>1950<=y/\y<=9999/\OV y<=D) ?_ N _ ⟨by omega,by omega,by unfold OV;omega⟩;intro y ⟨y0,y1,y2⟩ k k' hk;rw[w64 (x:=y+1),lX N (y+1),AgA N (y+1),Jt,Jt];cases hb:decide (OV (y+1)<=D)with
 | true =>
  have h:OV (y+1)<=D:=DC hb
  have y9:y<=9998:=by
   by_cases e:y=9999
   .rw[e]at h;have h9:OV (9999+1)=2940202:=by decide
    rw[h9]at h;omega
   .omega
  exact hk _ ⟨by omega,by omega,h⟩
 | false =>
  have h: ¬ OV (y+1)<=D:=Ep hb;rw[cond_false,cond_false];dsimp only;rw[lX N y,AgA N y,Jt,Jt,w64 (x:=D - OV y) (by omega) (by unfold OV;omega)]
  have hr:0<=D - OV y/\D - OV y<ZN (Qj y) 1:=by
   refine⟨by omega,?_⟩;rcases Agd (show 0<=y by omega)with ⟨a,b⟩ | ⟨a,b⟩<;>rw[a]
   .rw[show ZN true 1=366 from rfl];omega
   .rw[show ZN false 1=365 from rfl];omega
  generalize D - OV y=E at hr ⊢;have h366:ZN (Qj y) 1<=366:=by cases Qj y<;>decide
  refine AiS (fun(x:Int×Int)=>1<=x.2/\x.2<=12/\0<=x.1/\x.1<ZN (Qj y) x.2/\x.1<=366) ?_ N _ ⟨by dsimp only;omega,by dsimp only;omega,hr.1,hr.2,by dsimp only;omega⟩;rintro ⟨e,m⟩ ⟨m0,m1,g0,g1,g2⟩ k2 k2' hk2;dsimp only at m0 m1 g0 g1 g2 hk2;dsimp only[U2];rw[length_eq N y m m0 m1,Awi N y m m0 m1,Jt,Jt,Jt,Jt];obtain⟨l0,l1,l2,l3⟩:=AnD y m m0 m1;cases hc:decide (e>=ZC y m)with
  | true =>
   have h:e>=ZC y m:=DC hc
   have m9:m<=11:=by
    by_cases q:m=12
    .have:=l2 q;omega
    .omega
   rw[cond_true,cond_true,w64,w64];refine hk2 _ ⟨?_,?_,?_,?_,?_⟩
   .dsimp only;omega
   .dsimp only;omega
   .dsimp only;omega
   .dsimp only;rw[l3 m9];omega
   .dsimp only;omega
  | false=>rfl
end
def AhY (N:Nat) (hN:16<N) (l:List Int) (n:Int) (h0:0<=n) (h1:n<=99) (hl:l.length<=1000):QT N l n 2=some (l++[48+n / 10,48+n % 10]):=by
 obtain⟨M,rfl⟩: ∃ M,N=M+4:=⟨N - 4,by omega⟩
 unfold QT;try simp -zeta only[Ap]
 rw[L8];dsimp only[U2];rw[Dk,cond_true,Dk,Jz,w64 (x:=(0:Int)+1),L8];dsimp only[U2];rw[Dk,cond_true,Dk (by rw[Dv,List.length_singleton];omega),Jz,w64 (x:=(0:Int)+1+1),L8];dsimp only[U2];rw[A0x,cond_false];have hlen:((l++[48])++[48]:List Int).length=l.length+2:=by simp
 rw[hlen,w64 (x:=((l.length+2:Nat):Int) - 1),L8];dsimp only[U3];rw[hlen,Dk,cond_true,Dk,Jz,Dk,Jz,Dk,Jz,L8];dsimp only[U3];have hl2: ∀(i:Nat) (v:Int),(((l++[48])++[48]:List Int).set i v).length=l.length+2:=fun i v=>by rw[FX,hlen]
 rw[w64 (x:=((l.length+2:Nat):Int) - 1 - 1),hl2,Dk,cond_true,Dk,Jz,Dk,Jz,Dk,Jz,L8];dsimp only[U3];rw[w64 (x:=((l.length+2:Nat):Int) - 1 - 1 - 1),A0x,cond_false];refine congrArg some ?_;rw[DT h0,DW h0,w64 (x:=n / 10),DT (by omega),w64 (x:=48+n % 10),w64 (x:=48+n / 10 % 10),w8,w8];rw[show(((l.length+2:Nat):Int) - 1).toNat=l.length+1 by omega,show(((l.length+2:Nat):Int) - 1 - 1).toNat=l.length by omega,Ee];rw[G5 _ _ (by omega),G5 _ _ (by omega),show l.length+1 - l.length=1 by omega,GL];show l++[(48+n / 10 % 10) % 256,(48+n % 10) % 256]=_;rw[show(48+n / 10 % 10) % 256=48+n / 10 by omega,show(48+n % 10) % 256=48+n % 10 by omega]
def AxI (N:Nat) (hN:16<N) (n:Int) (h0:0<=n) (h1:n<=9999):QT N [] n 4=some [48+n / 1000,48+n / 100 % 10,48+n / 10 % 10,48+n % 10]:=by
 obtain⟨M,rfl⟩: ∃ M,N=M+6:=⟨N - 6,by omega⟩
 have e: ∀ x:Int,0<=x->x<=9999->u8.wrap (i64.wrap (48+x.tmod 10))=48+x % 10:=fun x a b=>by rw[DT a,w64,w8];omega
 have d: ∀ x:Int,0<=x->x<=9999->i64.wrap (x.tdiv 10)=x / 10:=fun x a b=>by rw[DW a,w64]
 have r:QT (M+6) [] n 4=some [u8.wrap (i64.wrap (48+(i64.wrap ((i64.wrap ((i64.wrap (n.tdiv 10)).tdiv 10)).tdiv 10)).tmod 10)),u8.wrap (i64.wrap (48+(i64.wrap ((i64.wrap (n.tdiv 10)).tdiv 10)).tmod 10)),u8.wrap (i64.wrap (48+(i64.wrap (n.tdiv 10)).tmod 10)),u8.wrap (i64.wrap (48+n.tmod 10))]:=by kernel_rfl
 rw[r,d n h0 h1,d (n / 10) (by omega) (by omega),d (n / 10 / 10) (by omega) (by omega),e n h0 h1,e (n / 10) (by omega) (by omega),e (n / 10 / 10) (by omega) (by omega),e (n / 10 / 10 / 10) (by omega) (by omega)];rw[show n / 10 / 10 / 10 % 10=n / 1000 by omega,show n / 10 / 10 % 10=n / 100 % 10 by omega]
def Ang (N:Nat) (hN:16<N) (n w:Nat) (hw:w<=4:=by omega) (hn:n<10000:=by omega):Oo N (n:Int) (w:Int)=some (List.replicate (w - (dd n).length) 48++dd n):=by
 unfold Oo;try simp -zeta only[Ap]
 rw[Ayc N 3 n (by omega) (by omega) N (by omega),Jt];have h1:=(AlQ 3 n (by omega)).1
 have key: ∀(k:Nat) (F:Nat) (l:Bs),k<F->l.length+k=max w l.length->l.length<=1000->J3 (X:=Bs) (Y:=Bs) (fun t5a k1 x2=>bif decide ((t5a.length:Int)<(w:Int))then(chk (decide (1+t5a.length<=140737488355328))<|k1 (([48]:Bs)++t5a))else(x2 t5a)) F l (fun t5b=>some t5b)=some (List.replicate k 48++l):=by
  intro k
  induction k with
  | zero =>
   intro F l hF hl _;obtain⟨F,rfl⟩: ∃ G,F=G+1:=⟨F - 1,by omega⟩
   rw[L8];dsimp only;rw[A0x,cond_false];rfl
  | succ k ih =>
   intro F l hF hl h1000;obtain⟨F,rfl⟩: ∃ G,F=G+1:=⟨F - 1,by omega⟩
   rw[L8];dsimp only;rw[Dk,cond_true,Dk,Jz,ih F _ (by omega) (by rw[Dv,List.length_singleton];omega) (by rw[Dv,List.length_singleton];omega)];rw[List.replicate_succ',Ee]
 exact key _ N (dd n) (by omega) (by omega) (by have:=(AlQ 3 n (by omega)).2;omega)
def AxF (N:Nat) (hN:16<N) (n:Int) (h0:0<=n) (h1:n<=99):Oo N n 2=some (([48+n / 10,48+n % 10]:List Int).map Vm.byteOf):=by
 obtain⟨k,rfl⟩:=EL h0;rw[show(2:Int)=((2:Nat):Int)from rfl,Ang N hN k 2];have hk:k<=99:=by omega
 have: ∀ k:Fin 100,List.replicate (2 - (dd k.val).length) 48++dd k.val=([48+((k.val:Nat):Int) / 10,48+((k.val:Nat):Int) % 10]:List Int).map Vm.byteOf:=by decide +kernel
 exact congrArg some (this ⟨k,by omega⟩)
def AxG (N:Nat) (hN:16<N) (n:Int) (h0:1000<=n) (h1:n<=9999):Oo N n 4=some (([48+n / 1000,48+n / 100 % 10,48+n / 10 % 10,48+n % 10]:List Int).map Vm.byteOf):=by
 obtain⟨k,rfl⟩:=EL (show 0<=n by omega);rw[show(4:Int)=((4:Nat):Int)from rfl,Ang N hN k 4];rw[iU (n:=k),iU (n:=k / 10),iU (n:=k / 10 / 10),qR (n:=k / 10 / 10 / 10) (by omega)];have b: ∀(m:Nat) (x:Int),x=((48+m:Nat):Int)->m<10->UInt8.ofNat (48+m)=Vm.byteOf x:=fun m x hx hm=>by subst hx;rfl
 rw[b (k / 10 / 10 / 10) (48+(k:Int) / 1000) (by omega) (by omega),b (k / 10 / 10 % 10) (48+(k:Int) / 100 % 10) (by omega) (by omega),b (k / 10 % 10) (48+(k:Int) / 10 % 10) (by omega) (by omega),b (k % 10) (48+(k:Int) % 10) (by omega) (by omega)];rfl
end Go.Proofs.YtdihmdelaolelaaGreatDoor.Pl
namespace Go.Proofs.YtdihmdelaolelaaGreatDoor.Sp
def WZ:List UInt8->Bool
 | []=>true
 | [_]=>false
 | a::b::_=>(decide (a.toNat=0)&&decide (b.toNat<128))||(decide (a.toNat=255)&&decide (128<=b.toNat))
def byteOf (q:Int):UInt8:=UInt8.ofNat (q % 256).toNat
def byteOf_toNat (q:Int):((byteOf q).toNat:Int)=q % 256:=by unfold byteOf;rw[FH];omega
def MJ (v:Int):Nat->List UInt8
 | 0=>[]
 | n+1=>byteOf (v / 256 ^ n)::MJ v n
def dW (v:Int) (n:Nat):(MJ v n).length=n:=by induction n with
 | zero=>rfl
 | succ n ih=>simp [MJ,ih]
def strip:List UInt8->List UInt8
 | []=>[]
 | [a]=>[a]
 | a::b::r=>if WZ (a::b::r)then strip (b::r)else a::b::r
def fits (q:Int):Prop:= -128<=q/\q<=127
instance (q:Int):Decidable (fits q):=inferInstanceAs (Decidable (_/\_))
def Ux (v:Int):List UInt8:=strip (MJ v 8)
def jQ (v:Int) (n:Nat):v / 256 ^ (n+1)=v / 256 ^ n / 256:=by rw[Int.pow_succ,IW,IW];exact(Int.ediv_ediv_of_nonneg (IA (by omega))).symm
def Ai4 (v:Int) (n:Nat) (h:fits (v / 256 ^ (n+1))):WZ (MJ v (n+2))=decide (fits (v / 256 ^ n)):=by
 have e:=jQ v n;have h1:=byteOf_toNat (v / 256 ^ (n+1))
 have h2:=byteOf_toNat (v / 256 ^ n)
 simp only[MJ,WZ];rw[Fv,decide_eq_true_iff];unfold fits at *
 rw[e]at h h1;generalize v / 256 ^ n=q at *
 generalize byteOf q=x at *
 rw[e];generalize byteOf (q / 256)=y at *
 simp only[Ej,Dx,D6];omega
def AhA (v:Int) (n:Nat) (h:fits (v / 256 ^ n)): ∀ k,fits (v / 256 ^ (n+k)):=by
 intro k
 induction k with
 | zero=>exact h
 | succ k ih=>rw[<- EG,jQ];unfold fits at *;omega
def Asx (v:Int) (n:Nat) (h:fits (v / 256 ^ n)) (k:Nat):strip (MJ v (n+k+2))=strip (MJ v (n+k+1)):=by
 have hb:WZ (MJ v (n+k+2))=true:=by rw[Ai4 v (n+k) (AhA v n h (k+1))];simp [AhA v n h k]
 conv=>lhs;unfold MJ
 have e:MJ v (n+k+1)=byteOf (v / 256 ^ (n+k))::MJ v (n+k):=rfl;rw[show n+k+2=(n+k+1)+1 from rfl]at hb;unfold MJ at hb;rw[e]at hb ⊢;rw[strip,Du hb]
def Apu (v:Int) (n:Nat) (h:fits (v / 256 ^ n)) (hn:n=0\/ ∃ m,n=m+1/\ ¬ fits (v / 256 ^ m)) :
 ∀ k,strip (MJ v (n+k+1))=MJ v (n+1):=by
 intro k
 induction k with
 | zero =>
  rcases hn with rfl | ⟨m,rfl,hm⟩
  .rfl
  .have hb:WZ (MJ v (m+2))=false:=by rw[Ai4 v m h];simp [hm]
   have e:MJ v (m+2)=byteOf (v / 256 ^ (m+1))::byteOf (v / 256 ^ m)::MJ v m:=rfl;rw[show m+1+0+1=m+2 from rfl];rw[e]at hb ⊢;rw[strip,Dp (by rw[hb];simp)]
 | succ k ih=>rw[<- ih];exact Asx v n h k
def yE (v:Int) (n:Nat) (h8:n<=7) (h:fits (v / 256 ^ n)) (hn:n=0\/ ∃ m,n=m+1/\ ¬ fits (v / 256 ^ m)):Ux v=MJ v (n+1):=by have:=Apu v n h hn (7 - n);unfold Ux;rw[show 8=n+(7 - n)+1 from by omega];exact this
def AwL (v:Int) (h1: -9223372036854775808<=v) (h2:v<=9223372036854775807):fits (v / 256 ^ 7):=by
 have:(256:Int) ^ 7=72057594037927936:=by decide
 rw[this];unfold fits;omega
def AfF (v:Int) (n:Nat) (h:fits (v / 256 ^ n)): ∃ k,k<=n/\fits (v / 256 ^ k)/\(k=0\/ ∃ m,k=m+1/\ ¬ fits (v / 256 ^ m)):=by
 induction n with
 | zero=>exact⟨0,DK _,h,Or.inl rfl⟩
 | succ n ih =>
  by_cases hf:fits (v / 256 ^ n)
  .obtain⟨k,h1,h2⟩:=ih hf;exact⟨k,by omega,h2⟩
  .exact⟨n+1,DK _,h,Or.inr ⟨n,rfl,hf⟩⟩
end Go.Proofs.YtdihmdelaolelaaGreatDoor.Sp
