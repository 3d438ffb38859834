import Derived.Test.YtfgdgdnlglejbaaGreatDoorA10
import Derived.Test.YtfgdgdnlglejbaaGreatDoorA17
import Derived.Sort.Walk0
set_option linter.all false
namespace Go.Proofs.YtfgdgdnlglejbaaGreatDoor.Pl
open IntKind (i64 u8 u32 u64)
open Go Vm
def MW (l:Bs):Int×Bs×Bs:=((Sp.tag l:Int),Sp.content l,Sp.raw l)
def NK (l:Bs):(Int×Bs×Bs)×Bs×Int:=if Sp.err l=0 then(MW l,Sp.rest l,0)else((0,[],[]),[],Sp.err l)
def Arf {s:Bs} {p n:Nat} (hh:Sp.head s=(0,p,n)) (hp:p<=s.length):(if((s.length:Int) - p<n)then(some ((0,([]:Bs),([]:Bs)),([]:Bs),3):Option ((Int×Bs×Bs)×Bs×Int))else some ((((s.getD 0 0).toNat:Int),JB s p (p+n),JB s 0 (p+n)),JB s (p+n) s.length,0))=some (NK s):=by
 have e1: ∀ a b,(JB s a b)=(s.take b).drop a:=fun a b=>rfl;by_cases h:(s.length:Int) - p<n
 .rw[Dt h];have:Sp.rd s=(3,0,0):=by unfold Sp.rd;rw[hh,Dt ⟨rfl,by show s.length - p<n;omega⟩]
  unfold NK Sp.err;rw[this];rfl
 .rw[Du h];have hr:Sp.rd s=(0,p,n):=by unfold Sp.rd;rw[hh,Du (by intro hc;have:=hc.2;simp at this;omega)]
  have he:Sp.err s=0:=by unfold Sp.err;rw[hr]
  unfold NK;rw[Dt he];unfold MW Sp.content Sp.raw Sp.rest;rw[hr,e1,e1,e1];congr 1;refine Jc (Jc ?_ (Jc ?_ ?_)) (Jc ?_ rfl)
  .show((s.getD 0 0).toNat:Int)=((Sp.tag s:Nat):Int);unfold Sp.tag;cases s<;>rfl
  .show(s.take (p+n)).drop p=(s.drop p).take n;rw[List.drop_take];congr 1;omega
  .show(s.take (p+n)).drop 0=_;rw[Ff]
  .show(s.take s.length).drop (p+n)=_;rw[Ez]
def take_snoc {α :Type} {l:List α} {i:Nat} (h:i<l.length):l.take (i+1)=l.take i++[l[i]]:=by rw[F5,D9 h];rfl
def AjW {l:Bs} {i:Nat} (h:i<l.length):Sp.beNat (l.take (i+1))=Sp.beNat (l.take i)*256+(l[i]).toNat:=by rw[take_snoc h,Sp.AtJ]
def AhS {l:Bs} (i:Nat) (hl:l.length<=3):Sp.beNat (l.take i)<16777216:=by
 have h1:=Sp.AxL (l.take i);have h2:256 ^ (l.take i).length<=256 ^ 3:=Nat.pow_le_pow_right (by omega) (by rw[DZ];omega);have:(256:Nat) ^ 3=16777216:=by decide
 omega
def Awj {ρ :Type} (N:Nat) (l:Bs) (hl:l.length<=3) (hN:4<N) (kx:Int->Option ρ) :
 J8 (X:=Int×Int×List Int) (Y:=Int) (U3 fun t7b t52b l45568b k2 x3 =>
  if t52b<((List.map (fun(b:UInt8)=>((b.toNat:Int))) l).length:Int)then if(0:Int)<=t52b then if t52b<(l45568b.length:Int)then if t52b.toNat<l45568b.length then
   k2 (JR .or .i64 (i64.wrap (t7b*(256))) (i64.wrap (l45568b.getD t52b.toNat 0)),i64.wrap (t52b+(1:Int)),l45568b)else none else none else none
  else x3 t7b) N (0,0,List.map (fun(b:UInt8)=>((b.toNat:Int))) l) kx=kx (Sp.beNat l):=by
 refine WM (fun x=> ∃ i,i<=l.length/\x=((Sp.beNat (l.take i):Int),(i:Int),List.map (fun(b:UInt8)=>((b.toNat:Int))) l)) (fun x=>l.length - x.2.1.toNat) (fun _=>kx (Sp.beNat l)) ?_ N _ ⟨0,by omega,rfl⟩ (by show l.length - 0<N;omega);rintro x ⟨i,hi,rfl⟩ k hk;show(if(i:Int)<_ then _ else _)=_;rw[Dz];by_cases h:i<l.length
 .dsimp only;rw[Dt (by omega),Dt (by omega),Dt (by omega),Int.toNat_natCast,Dt h];have hb:=(l[i]).toNat_lt;have hs:=AhS (l:=l) i hl;rw[show(List.map (fun(b:UInt8)=>((b.toNat:Int))) l).getD i 0=((l[i].toNat:Nat):Int) by simp [Dn,h]];rw[w64 (x:=((Sp.beNat (l.take i):Nat):Int)*256) (by omega) (by omega),w64 (x:=((l[i].toNat:Nat):Int)) (by omega) (by omega),w64 (x:=(i:Int)+1) (by omega) (by omega)];rw[show((Sp.beNat (l.take i):Nat):Int)*256=((Sp.beNat (l.take i)*256:Nat):Int) by omega,or8 _ _ (by omega) hb,<- AjW h];exact hk _ ⟨i+1,h,rfl⟩ (by show l.length - ((i:Int)+1).toNat<l.length - (i:Int).toNat;omega)
 .rw[Du (by omega)];rw[EW (by omega)]
def Ay0 (N:Nat) (k:Nat) (h1:1<=k) (h3:k<=3):AgK N (k:Int)=some (Sp.leastOf k:Int):=by
 have:k=1\/k=2\/k=3:=by omega
 rcases this with rfl | rfl | rfl<;>rfl
set_option maxRecDepth 4000
def gU (N:Nat) (s:Bs) (hN:4<N) (hs:s.length<=1099511627776):YU N s=some (NK s):=by
 unfold YU;try simp -zeta only[Ap]
 cases s with
 | nil=>rfl
 | cons a r =>
  have ha:=a.toNat_lt;have h0:((a::r:Bs)==([]:Bs))=false:=rfl;simp only[h0,cond_false,EH,List.length_cons,Akl,AgP,AgQ,AjY];simp only[AsQ,Ro,EG,DK,Gw,Dw];rw[w64 (by omega) (by omega),Azx _ ha];by_cases h31:a.toNat % 32=31
  .have:Sp.err (a::r)=5:=by simp [Sp.err,Sp.rd,Sp.head,h31]
   unfold NK;rw[this,Dt (by omega),Dt (by omega)];rfl
  .rw[Dt (by omega),Du (by omega)];cases r with
   | nil =>
    have:Sp.err [a]=3:=by simp [Sp.err,Sp.rd,Sp.head,h31]
    unfold NK;rw[this,Dt (by simp)];rfl
   | cons b c =>
    have hb:=b.toNat_lt;simp only[List.length_cons]at hs;simp only[Iw,EH,List.length_cons];rw[w64 (x:=((b.toNat:Nat):Int)) (by omega) (by omega),Du (by omega),Dt (by omega)];by_cases h6:b.toNat=128\/131<b.toNat
    .have:Sp.err (a::b::c)=6:=by simp [Sp.err,Sp.rd,Sp.head,h31,h6,show ¬ b.toNat<128 by omega]
     unfold NK;rw[this,Dt (by omega)];rfl
    .rw[Du (by omega),oV]
     have hend: ∀ p n:Nat,Sp.head (a::b::c)=(0,p,n)->p<=c.length+2->n<=131072->(if i64.wrap (((c.length+1+1:Nat):Int) - (p:Int))<(n:Int)then some ((0,([]:Bs),([]:Bs)),([]:Bs),3)
      else if(0:Int)<=(p:Int)then if(p:Int)<=i64.wrap ((p:Int)+(n:Int))then if i64.wrap ((p:Int)+(n:Int))<=((c.length+1+1:Nat):Int)then if(0:Int)<=i64.wrap ((p:Int)+(n:Int))then
       if i64.wrap ((p:Int)+(n:Int))<=((c.length+1+1:Nat):Int)then if(0:Int)<=i64.wrap ((p:Int)+(n:Int))then if i64.wrap ((p:Int)+(n:Int))<=((c.length+1+1:Nat):Int)then
       some ((((a.toNat:Nat):Int),JB (a::b::c) (p:Int).toNat (i64.wrap ((p:Int)+(n:Int))).toNat,JB (a::b::c) 0 (i64.wrap ((p:Int)+(n:Int))).toNat),JB (a::b::c) (i64.wrap ((p:Int)+(n:Int))).toNat (c.length+1+1),0)
       else none else none else none else none else none else none else none:Option ((Int×Bs×Bs)×Bs×Int))=some (NK (a::b::c)):=by
      intro p n hh hp hn;have:=Arf (s:=a::b::c) hh (by simp;omega);rw[w64 (x:=((c.length+1+1:Nat):Int) - (p:Int)) (by omega) (by omega),w64 (x:=(p:Int)+(n:Int)) (by omega) (by omega)];rw[<- this];show(if((c.length+1+1:Nat):Int) - (p:Int)<(n:Int)then _ else _)=(if((c.length+1+1:Nat):Int) - (p:Int)<(n:Int)then _ else _);by_cases hlt:((c.length+1+1:Nat):Int) - (p:Int)<(n:Int)
      .rw[Dt hlt,Dt hlt]
      .rw[Du hlt,Du hlt,Dt (by omega),Dt (by omega),Dt (by omega),Dt (by omega),Dt (by omega),Dt (by omega),Dt (by omega)];rw[show((p:Int)+(n:Int)).toNat=p+n by omega,Int.toNat_natCast];rfl
     by_cases h128:b.toNat<128
     .rw[Du (by omega)];exact hend 2 b.toNat (by simp [Sp.head,h31,h128]) (by omega) (by omega)
     .rw[Dt (by omega)];obtain⟨k,hk⟩: ∃ k:Nat,b.toNat=128+k:=⟨b.toNat - 128,by omega⟩
      rw[w64 (x:=((b.toNat:Nat):Int) - 128) (by omega) (by omega),show((b.toNat:Nat):Int) - 128=(k:Int) by omega,w64 (x:=2+(k:Int)) (by omega) (by omega)];by_cases hlen:c.length<k
      .rw[Dt (by omega)];have:Sp.err (a::b::c)=3:=by simp [Sp.err,Sp.rd,Sp.head,h31,h128,h6,show b.toNat - 128=k by omega,hlen]
       unfold NK;rw[this];rfl
      .have hcut:JB (a::b::c) 2 ((2+(k:Int)).toNat)=c.take k:=by
        rw[show(2+(k:Int)).toNat=k+2 by omega];rfl
       have hlk:(c.take k).length=k:=by rw[DZ];omega
       rw[Du (by omega),Dt (by omega),Dt (by omega),hcut,Dt (by omega)];rw[Awj N (c.take k) (by omega) hN,Ay0 N k (by omega) (by omega),Jy];by_cases hbad:Sp.beNat (c.take k)<Sp.leastOf k\/131072<Sp.beNat (c.take k)
       .have:Sp.err (a::b::c)=6:=by simp [Sp.err,Sp.rd,Sp.head,h31,h128,h6,show b.toNat - 128=k by omega,hlen,hbad]
        unfold NK;rw[Dt (by omega),this];rfl
       .rw[Du (by omega)];have:=hend (2+k) (Sp.beNat (c.take k)) (by simp [Sp.head,h31,h128,h6,show b.toNat - 128=k by omega,hlen,hbad]) (by omega) (by omega);rw[show(((2+k:Nat)):Int)=2+(k:Int) by omega]at this;exact this
def ApZ {ρ :Type} (N:Nat) (s:Bs) (k:Nat) (hk:k<=3) (hl:k+2<=s.length) (hs:s.length<=1099511627776) (hN:4<N) (kx:Int->Option ρ) :
 J8 (X:=Int×Int) (Y:=Int) (U2 fun t6b t9b k2 x3 =>
  if t9b<(k:Int)then if(0:Int)<=i64.wrap ((2:Int)+t9b)then if i64.wrap ((2:Int)+t9b)<(s.length:Int)then
   k2 (i64.wrap ((i64.wrap ((256:Int)*t6b))+i64.wrap ((s.getD ((i64.wrap ((2:Int)+t9b)).toNat) 0).toNat:Int)),i64.wrap (t9b+(1:Int)))else none else none
  else x3 t6b) N (0,0) kx=kx (Sp.beNat ((s.drop 2).take k)):=by
 have hlen:((s.drop 2).take k).length=k:=by rw[DZ,Et];omega
 generalize hL:(s.drop 2).take k=l at hlen;refine WM (fun x=> ∃ i,i<=k/\x=((Sp.beNat (l.take i):Int),(i:Int))) (fun x=>k - x.2.toNat) (fun _=>kx (Sp.beNat l)) ?_ N _ ⟨0,by omega,rfl⟩ (by show k - 0<N;omega);rintro x ⟨i,hi,rfl⟩ kk hkk;show(if(i:Int)<_ then _ else _)=_;by_cases h:i<k
 .have hb:=(l[i]'(by omega)).toNat_lt;have hs':=AhS (l:=l) i (by omega);dsimp only;rw[Dt (by omega),w64 (x:=2+(i:Int)) (by omega) (by omega),Dt (by omega),Dt (by omega),show(2+(i:Int)).toNat=i+2 by omega]
  have e:s.getD (i+2) 0=l[i]'(by omega):=by
   have:l[i]? =s[i+2]? :=by rw[<- hL,FD,Dt h,Fa,Nat.add_comm]
   rw[Dn,<- this,D9 (by omega)];rfl
  rw[e,w64 (x:=256*((Sp.beNat (l.take i):Nat):Int)) (by omega) (by omega),w64 (x:=(((l[i]'(by omega)).toNat:Nat):Int)) (by omega) (by omega),w64 (x:=(i:Int)+1) (by omega) (by omega),w64 (by omega) (by omega)];have:=AjW (l:=l) (i:=i) (by omega);rw[show 256*((Sp.beNat (l.take i):Nat):Int)+(((l[i]'(by omega)).toNat:Nat):Int)=((Sp.beNat (l.take (i+1)):Nat):Int) by omega];exact hkk _ ⟨i+1,h,rfl⟩ (by show k - ((i:Int)+1).toNat<k - (i:Int).toNat;omega)
 .rw[Du (by omega),EW (by omega)]
def AwG (k:Nat) (h1:1<=k) (h3:k<=3):(([0,128,256,65536]:List Int).getD k 0)=(Sp.leastOf k:Int):=by
 have:k=1\/k=2\/k=3:=by omega
 rcases this with rfl | rfl | rfl<;>rfl
def kY (N:Nat) (s:Bs) (hN:4<N) (hs:s.length<=1099511627776):aG N s=some (NK s):=by
 unfold aG;try simp -zeta only[Ap]
 cases s with
 | nil=>rfl
 | cons a r =>
  have ha:=a.toNat_lt;simp only[EH,List.length_cons,Akl,AgP,AgQ,AjY];simp only[AsQ,Ro,EG,DK,Gw,Dw];rw[Du (by omega),Dt (by omega)];have ht:((a.toNat:Nat):Int).tmod 32=((a.toNat % 32:Nat):Int):=by rw[F9 (by omega)];omega
  rw[ht];by_cases h31:a.toNat % 32=31
  .have:Sp.err (a::r)=5:=by simp [Sp.err,Sp.rd,Sp.head,h31]
   unfold NK;rw[this,Dt (by omega)];rfl
  .rw[Du (by omega)];cases r with
   | nil =>
    have:Sp.err [a]=3:=by simp [Sp.err,Sp.rd,Sp.head,h31]
    unfold NK;rw[this];rfl
   | cons b c =>
    have hb:=b.toNat_lt;simp only[List.length_cons]at hs;simp only[Iw,EH,List.length_cons];rw[w64 (x:=((b.toNat:Nat):Int)) (by omega) (by omega),Du (by omega),Dt (by omega)];by_cases h6:b.toNat=128\/131<b.toNat
    .have:Sp.err (a::b::c)=6:=by simp [Sp.err,Sp.rd,Sp.head,h31,h6,show ¬ b.toNat<128 by omega]
     unfold NK;rw[this,Dt (by omega)];rfl
    .rw[Du (by omega),oV]
     have hend: ∀ p n:Nat,Sp.head (a::b::c)=(0,p,n)->p<=c.length+2->n<=131072->(if i64.wrap (((c.length+1+1:Nat):Int) - (p:Int))<(n:Int)then some ((0,([]:Bs),([]:Bs)),([]:Bs),3)
      else if(0:Int)<((c.length+1+1:Nat):Int)then if(0:Int)<=(p:Int)then if(p:Int)<=i64.wrap ((p:Int)+(n:Int))then if i64.wrap ((p:Int)+(n:Int))<=((c.length+1+1:Nat):Int)then if(0:Int)<=i64.wrap ((p:Int)+(n:Int))then
       if i64.wrap ((p:Int)+(n:Int))<=((c.length+1+1:Nat):Int)then if(0:Int)<=i64.wrap ((p:Int)+(n:Int))then if i64.wrap ((p:Int)+(n:Int))<=((c.length+1+1:Nat):Int)then
       some ((i64.wrap ((a.toNat:Nat):Int),JB (a::b::c) (p:Int).toNat (i64.wrap ((p:Int)+(n:Int))).toNat,JB (a::b::c) 0 (i64.wrap ((p:Int)+(n:Int))).toNat),JB (a::b::c) (i64.wrap ((p:Int)+(n:Int))).toNat (c.length+1+1),0)
       else none else none else none else none else none else none else none else none:Option ((Int×Bs×Bs)×Bs×Int))=some (NK (a::b::c)):=by
      intro p n hh hp hn;have:=Arf (s:=a::b::c) hh (by simp;omega);rw[w64 (x:=((c.length+1+1:Nat):Int) - (p:Int)) (by omega) (by omega),w64 (x:=(p:Int)+(n:Int)) (by omega) (by omega),w64 (x:=((a.toNat:Nat):Int)) (by omega) (by omega)];rw[<- this];show(if((c.length+1+1:Nat):Int) - (p:Int)<(n:Int)then _ else _)=(if((c.length+1+1:Nat):Int) - (p:Int)<(n:Int)then _ else _);by_cases hlt:((c.length+1+1:Nat):Int) - (p:Int)<(n:Int)
      .rw[Dt hlt,Dt hlt]
      .rw[Du hlt,Du hlt,Dt (by omega),Dt (by omega),Dt (by omega),Dt (by omega),Dt (by omega),Dt (by omega),Dt (by omega),Dt (by omega)];rw[show((p:Int)+(n:Int)).toNat=p+n by omega,Int.toNat_natCast];rfl
     by_cases h128:b.toNat<128
     .rw[Du (by omega)];exact hend 2 b.toNat (by simp [Sp.head,h31,h128]) (by omega) (by omega)
     .rw[Dt (by omega)];obtain⟨k,hk⟩: ∃ k:Nat,b.toNat=128+k:=⟨b.toNat - 128,by omega⟩
      rw[w64 (x:=((b.toNat:Nat):Int) - 128) (by omega) (by omega),show((b.toNat:Nat):Int) - 128=(k:Int) by omega,w64 (x:=2+(k:Int)) (by omega) (by omega)];by_cases hlen:c.length<k
      .rw[Dt (by omega)];have:Sp.err (a::b::c)=3:=by simp [Sp.err,Sp.rd,Sp.head,h31,h128,h6,show b.toNat - 128=k by omega,hlen]
       unfold NK;rw[this];rfl
      .rw[Du (by omega)];have hd:=fun kx=>ApZ (ρ :=(Int×Bs×Bs)×Bs×Int) N (a::b::c) k (by omega) (by simp;omega) (by simp;omega) hN kx;refine Gu (hd _) ?_;show(if(0:Int)<=(k:Int)then _ else _)=_;have hdr:((a::b::c).drop 2).take k=c.take k:=rfl;rw[hdr,Dt (by omega),Dt (by omega),Int.toNat_natCast,Dt (by omega),AwG k (by omega) (by omega)];by_cases hbad:Sp.beNat (c.take k)<Sp.leastOf k\/131072<Sp.beNat (c.take k)
       .have:Sp.err (a::b::c)=6:=by simp [Sp.err,Sp.rd,Sp.head,h31,h128,h6,show b.toNat - 128=k by omega,hlen,hbad]
        unfold NK;rw[Dt (by omega),this];rfl
       .rw[Du (by omega)];have:=hend (2+k) (Sp.beNat (c.take k)) (by simp [Sp.head,h31,h128,h6,show b.toNat - 128=k by omega,hlen,hbad]) (by omega) (by omega);rw[show(((2+k:Nat)):Int)=2+(k:Int) by omega]at this;exact this
def dY (s:Bs):(Int×Bs×Bs)×Int:=if Sp.QS s=0 then(MW s,0)else((0,[],[]),Sp.QS s)
def AfR {s:Bs} (h:Sp.QS s=0):Sp.err s=0/\Sp.rest s=[]:=by
 unfold Sp.QS at h;by_cases he:Sp.err s=0
 .rw[Du (by simp [he])]at h;by_cases hr:Sp.rest s=[]
  .exact⟨he,hr⟩
  .rw[Du hr]at h;cases h
 .rw[Dt he]at h;exact absurd h he
def XC (N:Nat) (s:Bs) (hN:4<N) (hs:s.length<=1099511627776):SV N s=some (dY s):=by
 unfold SV;rw[gU N s hN hs,Jy];unfold NK dY Sp.QS;by_cases he:Sp.err s=0
 .rw[Dt he];by_cases hr:Sp.rest s=[]
  .simp [he,hr,Ro]
  .simp [he,hr,Ro]
 .rw[Du he];simp [he,Ro]
def Ari (N:Nat) (s:Bs) (hN:4<N) (hs:s.length<=1099511627776):xN N s=some (dY s):=by
 unfold xN;rw[kY N s hN hs,Jy];unfold NK dY Sp.QS;by_cases he:Sp.err s=0
 .rw[Dt he];by_cases hr:Sp.rest s=[]
  .simp [he,hr]
  .have:0<(Sp.rest s).length:=by cases h:Sp.rest s with | nil=>exact absurd h hr | cons _ _=>simp
   simp [he,hr,this,Ro]
 .rw[Du he];simp [he,Ro]
def AgF (s:Bs):Sp.tag s<256:=UInt8.toNat_lt _
def Vr (e:Int×Bs×Bs) (d:Nat):Int:=if e.1 / 32 % 2=1 then Sp.within (e.2.1.length+1) d e.2.1 else 0
def Xy: ∀(f g d:Nat) (l:Bs),l.length<f->l.length<g->Sp.within f d l=Sp.within g d l:=by
 intro f
 induction f with
 | zero=>intro g d l h;omega
 | succ f ih =>
  intro g d l hf hg;cases g with
  | zero=>omega
  | succ g =>
   show(if l=[]then _ else _)=if l=[]then _ else _;by_cases hl:l=[]
   .rw[Dt hl,Dt hl]
   .rw[Du hl,Du hl];by_cases he:Sp.err l=0
    .have h1:=Sp.UG l he;have h2:=Sp.Ahn l he;rw[ih g (d+1) (Sp.content l) (by omega) (by omega),ih g d (Sp.rest l) (by omega) (by omega)]
    .rw[Dt he,Dt he]
def gW {B:Bs->(Bs->Option Int)->(Unit->Option Int)->Option Int} {kx:Unit->Option Int} (d L:Nat)
 (hB: ∀ x k,x≠ []->x.length<=L->B x k kx=if Sp.err x≠0 then some (Sp.err x)else if 16<=d then some 8 else if Vr (MW x) (d+1)≠0 then some (Vr (MW x) (d+1))else k (Sp.rest x))
 (hend: ∀ k,B [] k kx=some 0) (N:Nat) (x:Bs) (hx:x.length<=L) (hN:x.length<N):J8 B N x kx=some (Sp.within (x.length+1) d x):=by
 refine WM (fun x=>x.length<=L) (fun x=>x.length) (fun x=>some (Sp.within (x.length+1) d x)) ?_ N x hx hN;intro x hx k hk;by_cases h0:x=[]
 .subst h0;rw[hend];rfl
 .rw[hB x k h0 hx];by_cases he:Sp.err x=0
  .rw[Du (by simp [he])];by_cases hd:16<=d
   .rw[Dt hd,Sp.AsF _ _ _ h0 he hd]
   .rw[Du hd];have h1:=Sp.UG x he;have h2:=Sp.Ahn x he
    have hin:Vr (MW x) (d+1)=Sp.inner x.length (d+1) (Sp.tag x) (Sp.content x):=by
     unfold Vr Sp.inner Sp.cons MW;rw[Xy _ x.length (d+1) (Sp.content x) (Hy _) h1];have:(((Sp.tag x:Nat):Int) / 32 % 2=1)↔(Sp.tag x / 32 % 2=1):=by omega
     simp [this]
    rw[hin];by_cases hi:Sp.inner x.length (d+1) (Sp.tag x) (Sp.content x)=0
    .rw[Du (by simp [hi]),hk _ (by show(Sp.rest x).length<=L;omega) h2,Sp.Ai9 _ _ _ h0 he hd hi];rw[Xy _ x.length d (Sp.rest x) (Hy _) h2]
    .rw[Dt hi,Sp.Av8 _ _ _ h0 he hd hi]
  .rw[Dt he,Sp.Av9 _ _ _ h0 he]
def Ax2 (N:Nat) (hN:4<N): ∀(m n:Nat),m<n-> ∀(e:Int×Bs×Bs) (d:Nat),d+m=16->0<=e.1->e.1<256->e.2.1.length<N->e.2.1.length<=1099511627776 ->
 Vj N n e (d:Int)=some (Vr e d):=by
 intro m
 induction m with
 | zero =>
  intro n hn e d hd h0 h1 h2 h3;obtain⟨n,rfl⟩: ∃ k,n=k+1:=⟨n - 1,by omega⟩
  show TC N (Vj N n) e d=_;unfold TC Vr;obtain⟨t,ht⟩: ∃ t:Nat,e.1=(t:Int):=⟨e.1.toNat,by omega⟩
  rw[ht,Azy t (by omega)];by_cases hc:t / 32 % 2=1
  .rw[Dt hc,Dt (by omega)];refine gW d e.2.1.length (fun x k hx hl=> ?_) (fun k=>rfl) N _ (DW _) h2;have:(x==([]:Bs))=false:=by cases x with | nil=>exact absurd rfl hx | cons _ _=>rfl
   dsimp only;rw[this,gU N x hN (by omega),Jy];unfold NK;simp only[Ro,Gl,DK,EY];by_cases he:Sp.err x=0
   .rw[Dt he];simp only[he,ne_eq,GG,FZ,HY];rw[Dt (by omega),Dt (by omega)]
   .rw[Du he];simp [he]
  .rw[Du hc,Du (by omega)];rfl
 | succ m ih =>
  intro n hn e d hd h0 h1 h2 h3;obtain⟨n,rfl⟩: ∃ k,n=k+1:=⟨n - 1,by omega⟩
  show TC N (Vj N n) e d=_;unfold TC Vr;obtain⟨t,ht⟩: ∃ t:Nat,e.1=(t:Int):=⟨e.1.toNat,by omega⟩
  rw[ht,Azy t (by omega)];by_cases hc:t / 32 % 2=1
  .rw[Dt hc,Dt (by omega)];refine gW d e.2.1.length (fun x k hx hl=> ?_) (fun k=>rfl) N _ (DW _) h2;have:(x==([]:Bs))=false:=by cases x with | nil=>exact absurd rfl hx | cons _ _=>rfl
   dsimp only;rw[this,gU N x hN (by omega),Jy];unfold NK;simp only[Ro,Gl,DK,EY];by_cases he:Sp.err x=0
   .rw[Dt he];simp only[he,ne_eq,GG,FZ,HY];have hcl:=Sp.UG x he;have htl:=AgF x;rw[Du (by omega),Du (by omega),w64 (by omega) (by omega),show(d:Int)+1=((d+1:Nat):Int) by omega,ih n (by omega) (MW x) (d+1) (by omega) (by show(0:Int)<=((Sp.tag x:Nat):Int);omega) (by show((Sp.tag x:Nat):Int)<256;omega) (by show(Sp.content x).length<N;omega) (by show(Sp.content x).length<=_;omega),Jy]
   .rw[Du he];simp [he]
  .rw[Du hc,Du (by omega)];rfl
def AxV (N:Nat) (hN:4<N): ∀(m n:Nat),m<n-> ∀(e:Int×Bs×Bs) (d:Nat),d+1+m=16->0<=e.1->e.1<256->e.2.1.length<N->e.2.1.length<=1099511627776 ->
 TQ N n e (d:Int)=some (Vr e (d+1)):=by
 intro m
 induction m with
 | zero =>
  intro n hn e d hd h0 h1 h2 h3;obtain⟨n,rfl⟩: ∃ k,n=k+1:=⟨n - 1,by omega⟩
  show Sj N (TQ N n) e d=_;unfold Sj Vr;rw[Hf h0,w64 (by omega) (by omega),F9 (by omega)];by_cases hc:e.1 / 32 % 2=1
  .rw[Dt hc,hc];refine gW (d+1) e.2.1.length (fun x k hx hl=> ?_) (fun k=>rfl) N _ (DW _) h2;have:0<x.length:=by cases x with | nil=>exact absurd rfl hx | cons _ _=>simp
   dsimp only;rw[kY N x hN (by omega),Jy];unfold NK;simp only[Ro,Gl,DK];rw[Dt (by omega),w64 (by omega) (by omega)];by_cases he:Sp.err x=0
   .rw[Dt he];simp only[he,ne_eq,GG,FZ];rw[Dt (by omega),Dt (by omega)]
   .rw[Du he];simp [he]
  .rw[Du hc,show e.1 / 32 % 2=0 by omega];rfl
 | succ m ih =>
  intro n hn e d hd h0 h1 h2 h3;obtain⟨n,rfl⟩: ∃ k,n=k+1:=⟨n - 1,by omega⟩
  show Sj N (TQ N n) e d=_;unfold Sj Vr;rw[Hf h0,w64 (by omega) (by omega),F9 (by omega)];by_cases hc:e.1 / 32 % 2=1
  .rw[Dt hc,hc];refine gW (d+1) e.2.1.length (fun x k hx hl=> ?_) (fun k=>rfl) N _ (DW _) h2;have:0<x.length:=by cases x with | nil=>exact absurd rfl hx | cons _ _=>simp
   dsimp only;rw[kY N x hN (by omega),Jy];unfold NK;simp only[Ro,Gl,DK];rw[Dt (by omega),w64 (by omega) (by omega)];by_cases he:Sp.err x=0
   .rw[Dt he];simp only[he,ne_eq,GG,FZ];have hcl:=Sp.UG x he;have htl:=AgF x;rw[Du (by omega),Du (by omega),show(d:Int)+1=((d+1:Nat):Int) by omega,ih n (by omega) (MW x) (d+1) (by omega) (by show(0:Int)<=((Sp.tag x:Nat):Int);omega) (by show((Sp.tag x:Nat):Int)<256;omega) (by show(Sp.content x).length<N;omega) (by show(Sp.content x).length<=_;omega),Jy]
   .rw[Du he];simp [he]
  .rw[Du hc,show e.1 / 32 % 2=0 by omega];rfl
def AkQ {s:Bs} (h:Sp.QS s=0):Vr (MW s) 1=Sp.chk s:=by
 unfold Sp.chk;rw[Du (by simp [h])];unfold Vr Sp.inner Sp.cons MW;have h1:=Sp.UG s (AfR h).1;rw[Xy _ (s.length+1) 1 (Sp.content s) (Hy _) (by omega)];have:(((Sp.tag s:Nat):Int) / 32 % 2=1)↔(Sp.tag s / 32 % 2=1):=by omega
 simp [this]
def AgJ (N:Nat) (s:Bs) (hN:16<N) (hs:s.length<=1099511627776) (hl:s.length<N):TB N s=some (Sp.chk s):=by
 unfold TB;rw[XC N s (by omega) hs,Jy];unfold dY;by_cases h:Sp.QS s=0
 .have h1:=Sp.UG s (AfR h).1;have h2:=AgF s;rw[Dt h,<- AkQ h];have:=Ax2 N (by omega) 15 N (by omega) (MW s) 1 rfl (by show(0:Int)<=((Sp.tag s:Nat):Int);omega) (by show((Sp.tag s:Nat):Int)<256;omega) (by show(Sp.content s).length<N;omega) (by show(Sp.content s).length<=_;omega);show Jt (Vj N N (MW s) 1) _=_;rw[show(1:Int)=((1:Nat):Int)from rfl,this,Jy]
 .rw[Du h];have:Sp.chk s=Sp.QS s:=by unfold Sp.chk;rw[Dt h]
  simp [Ro,h,this]
def Anb (N:Nat) (s:Bs) (hN:16<N) (hs:s.length<=1099511627776) (hl:s.length<N):V6 N s=some (Sp.chk s):=by
 unfold V6;rw[Ari N s (by omega) hs,Jy];unfold dY;by_cases h:Sp.QS s=0
 .have h1:=Sp.UG s (AfR h).1;have h2:=AgF s;rw[Dt h,<- AkQ h];have:=AxV N (by omega) 15 N (by omega) (MW s) 0 rfl (by show(0:Int)<=((Sp.tag s:Nat):Int);omega) (by show((Sp.tag s:Nat):Int)<256;omega) (by show(Sp.content s).length<N;omega) (by show(Sp.content s).length<=_;omega);show Jt (TQ N N (MW s) 0) _=_;rw[show(0:Int)=((0:Nat):Int)from rfl,this,Jy]
 .rw[Du h];have:Sp.chk s=Sp.QS s:=by unfold Sp.chk;rw[Dt h]
  simp [Ro,h,this]
end Go.Proofs.YtfgdgdnlglejbaaGreatDoor.Pl
namespace Go.Proofs.YtfgdgdnlglejbaaGreatDoor.Vm
open IntKind (i64 u8 u32 u64)
def KD {ρ :Type} {c:Bool} (k:Option ρ) (h:c=true):chk c k=k:=by rw[h];rfl
def AzR (c:UInt8):c.toNat<256:=UInt8.toNat_lt c
def getD_lt {α :Type} (l:List α) (i:Nat) (d: α) (h:i<l.length):l.getD i d=l[i]:=by rw[Dn,D9 h];rfl
open Go
def Az7 {a b:Int} {q:Decidable (a<b)} (h:a<b): @decide (a<b) q=true:= @Dp _ q h
def AgT {a b:Int} {q:Decidable (a<b)} (h:b<=a): @decide (a<b) q=false:= @DN _ q (by omega)
def Az6 {a b:Int} {q:Decidable (a<=b)} (h:a<=b): @decide (a<=b) q=true:= @Dp _ q h
def A2B {a b:Int} {q:Decidable (a<=b)} (h:b<a): @decide (a<=b) q=false:= @DN _ q (by omega)
def Az5 {a b:Int} {q:Decidable (a>b)} (h:b<a): @decide (a>b) q=true:= @Dp _ q h
def Auh {a b:Int} {q:Decidable (a>b)} (h:a<=b): @decide (a>b) q=false:= @DN _ q (by omega)
def A29 {a b:Int} {q:Decidable (a>=b)} (h:b<=a): @decide (a>=b) q=true:= @Dp _ q h
def A28 {a b:Int} {q:Decidable (a>=b)} (h:a<b): @decide (a>=b) q=false:= @DN _ q (by omega)
def AzG {a b:Nat} {q:Decidable (a<b)} (h:a<b): @decide (a<b) q=true:= @Dp _ q h
def A2L {a b:Nat} {q:Decidable (a<b)} (h:b<=a): @decide (a<b) q=false:= @DN _ q (by omega)
def UU {a b:Nat} {q:Decidable (a<=b)} (h:a<=b): @decide (a<=b) q=true:= @Dp _ q h
def A2K {a b:Nat} {q:Decidable (a<=b)} (h:b<a): @decide (a<=b) q=false:= @DN _ q (by omega)
def AvR {a b:Int} (h:a=b):(a==b)=true:=by subst h;exact Em _
def Uc {a b:Int} (h:a≠b):(a==b)=false:=FI h
def Aaj {a b:Int} (h:a≠b):(a != b)=true:=by unfold bne;rw[Uc h];rfl
def Zz {a b:Int} (h:a=b):(a != b)=false:=by unfold bne;rw[AvR h];rfl
def toNat_add (a b:Nat):((a:Int)+(b:Int)).toNat=a+b:=by omega
def toNat_sub (a b:Nat):((a:Int) - (b:Int)).toNat=a - b:=by omega
def Av5 (a:Nat):((a:Int)+1).toNat=a+1:=by omega
def Av6 (a:Nat):((a:Int) - 1).toNat=a - 1:=by omega
def KI (a:Nat):((a:Int)+1)=((a+1:Nat):Int):=rfl
def getD_mem {α :Type} {l:List α} {i:Nat} (d: α) (h:i<l.length):l.getD i d∈l:=by rw[getD_lt l i d h];exact EU h
def Xr {R S ρ :Type} (x:R ⊕ S) (ret:R->Option ρ) (k:S->Option ρ):Option ρ :=match x with
 | .inl r=>ret r
 | .inr s=>k s
def A0f {R S ρ :Type} (r:R) (ret:R->Option ρ) (k:S->Option ρ):Xr (.inl r) ret k=ret r:=rfl
def AsW {R S ρ :Type} (s:S) (ret:R->Option ρ) (k:S->Option ρ):Xr (.inr s) ret k=k s:=rfl
def Ti {R S ρ :Type} (b:Bool) (x y:R ⊕ S) (ret:R->Option ρ) (k:S->Option ρ):Xr (bif b then x else y) ret k=bif b then Xr x ret k else Xr y ret k:=by cases b<;>rfl
def Awe {R S ρ :Type} (b:Prop) [Decidable b] (x y:R ⊕ S) (ret:R->Option ρ) (k:S->Option ρ):Xr (if b then x else y) ret k=if b then Xr x ret k else Xr y ret k:=by split<;>rfl
def VT {E R S:Type} (step:E->S->R ⊕ S):List E->S->R ⊕ S
 | [],s=>.inr s
 | e::r,s=>match step e s with
  | .inl x=>.inl x
  | .inr s'=>VT step r s'
def AwK {E R S:Type} (step:E->S->R ⊕ S) (s:S):VT step [] s= .inr s:=rfl
def X3 {E R S:Type} (step:E->S->R ⊕ S) (e:E) (l:List E) (s:S):VT step (e::l) s=(step e s).elim Sum.inl (fun s'=>VT step l s'):=by simp only[VT];cases step e s<;>rfl
def xI {X Y S E R ρ :Type} {B:X->(X->Option ρ)->(Y->Option ρ)->Option ρ} {kx:Y->Option ρ} (mk:Nat->S->X) (l:List E) (d:E) (I:Nat->S->Prop) (step:E->S->R ⊕ S) (ret:R->Option ρ) (fin:S->Option ρ)
 (h: ∀(i:Nat) (s:S),i<l.length->I i s-> ∀ k,B (mk i s) k kx=Xr (step (l.getD i d) s) ret fun s'=>k (mk (i+1) s'))
 (hI: ∀(i:Nat) (s s':S),i<l.length->I i s->step (l.getD i d) s= .inr s'->I (i+1) s')
 (hend: ∀(s:S) (k:X->Option ρ),I l.length s->B (mk l.length s) k kx=fin s) (N:Nat) (s:S) (h0:I 0 s) (hN:l.length<N):J8 B N (mk 0 s) kx=Xr (VT step l s) ret fin:=by
 have key: ∀(n i:Nat) (s:S),I i s->i<=l.length->l.length - i<n->J8 B n (mk i s) kx=Xr (VT step (l.drop i) s) ret fin:=by
  intro n
  induction n with
  | zero=>intro i s _ _ h;omega
  | succ n ih =>
   intro i s hi hil hn;rw[Nu];by_cases hl:i<l.length
   .rw[h i s hl hi,EI hl];have hs:=hI i s;rw[show l.getD i d=l[i]from getD_lt l i d hl]at *
    rw[X3];cases hst:step l[i] s with
    | inl x=>rfl
    | inr s'=>exact ih (i+1) _ (hs _ hl hi hst) (by omega) (by omega)
   .have:i=l.length:=by omega
    subst this;rw[hend s _ hi,FC];rfl
 exact key N 0 s h0 (by omega) (by omega)
def Aoj {X Y S E R ρ :Type} {B:X->(X->Option ρ)->(Y->Option ρ)->Option ρ} {kx:Y->Option ρ} (mk:Nat->S->X) (l:List E) (d:E) (step:E->S->R ⊕ S) (ret:R->Option ρ) (fin:S->Option ρ)
 (h: ∀(i:Nat) (s:S),i<l.length-> ∀ k,B (mk i s) k kx=Xr (step (l.getD i d) s) ret fun s'=>k (mk (i+1) s'))
 (hend: ∀(s:S) (k:X->Option ρ),B (mk l.length s) k kx=fin s) (N:Nat) (s:S) (hN:l.length<N):J8 B N (mk 0 s) kx=Xr (VT step l s) ret fin :=
 xI mk l d (fun _ _=>True) step ret fin (fun i s hi _=>h i s hi) (fun _ _ _ _ _ _=>trivial) (fun s k _=>hend s k) N s trivial hN
def AyY {X Y E ρ :Type} {B:X->(X->Option ρ)->(Y->Option ρ)->Option ρ} {kx:Y->Option ρ} (mk:Nat->X) (out:Nat->Y) (l:List E) (d:E) (p:E->Bool)
 (h: ∀(i:Nat) (k:X->Option ρ),i<l.length->B (mk i) k kx=bif p (l.getD i d)then kx (out i)else k (mk (i+1)))
 (hend: ∀ k:X->Option ρ,B (mk l.length) k kx=kx (out l.length)) (N:Nat) (hN:l.length<N):J8 B N (mk 0) kx=kx (out (l.findIdx p)):=by
 have key: ∀(n i:Nat),i<=l.length->l.length - i<n->J8 B n (mk i) kx=kx (out (i+(l.drop i).findIdx p)):=by
  intro n
  induction n with
  | zero=>intro i _ h;omega
  | succ n ih =>
   intro i hi hn;rw[Nu];by_cases hl:i<l.length
   .rw[h i _ hl,EI hl,IV,show l.getD i d=l[i]from getD_lt l i d hl];cases p l[i]with
    | true=>rfl
    | false =>rw[cond_false,cond_false,ih (i+1) (by omega) (by omega)];congr 2;omega
   .have:i=l.length:=by omega
    subst this;rw[hend,FC];rfl
 have:=key N 0 (Es _) (by omega);rwa [DT,Ff]at this
def AwJ {E R:Type} (p:E->Bool) (r:R): ∀ l:List E,VT (fun e (_:Unit)=>bif p e then .inl r else .inr ()) l ()=bif l.any p then .inl r else .inr ():=by
 intro l
 induction l with
 | nil=>rfl
 | cons e t ih =>
  rw[X3,List.any_cons];cases p e with
  | true=>rfl
  | false=>exact ih
def Asl {E:Type} (f:E->Int): ∀ l:List E,VT (fun e (_:Unit)=>bif f e != 0 then .inl (f e)else .inr ()) l ()=bif Om f l != 0 then .inl (Om f l)else .inr ():=by
 intro l
 induction l with
 | nil=>rfl
 | cons e t ih =>
  rw[X3];unfold Om;by_cases h:f e=0
  .rw[h,show((0:Int) != 0)=false from rfl];exact ih
  .rw[Dt h,show(f e != 0)=true from Gl.2 h];rfl
def AyM {n i:Nat} (h:i<n):(List.range n).getD i 0=i:=by rw[getD_lt _ _ _ (by rw[FK];exact h),List.getElem_range]
section
variable {X Y E ρ :Type} {B:X->(X->Option ρ)->(Y->Option ρ)->Option ρ} {kx:Y->Option ρ}
def Awx (mk:Nat->X) (l:List E) (d:E) (f:E->Int) (ret:Int->Option ρ) (fin:Option ρ)
 (h: ∀ i,i<l.length-> ∀ k,B (mk i) k kx=bif f (l.getD i d) != 0 then ret (f (l.getD i d))else k (mk (i+1)))
 (hend: ∀ k,B (mk l.length) k kx=fin) (N:Nat) (hN:l.length<N):J8 B N (mk 0) kx=bif Om f l != 0 then ret (Om f l)else fin:=by
 refine Gu (Aoj (S:=Unit) (R:=Int) (mk:=fun i _=>mk i) l d (fun e _=>bif f e != 0 then .inl (f e)else .inr ()) ret (fun _=>fin) ?_ (fun _ k=>hend k) N () hN) ?_
 .intro i _ hi k;rw[h i hi,Ti];rfl
 .rw[Asl,Ti];rfl
def Aux (mk:Nat->X) (n:Nat) (f:Nat->Int) (ret:Int->Option ρ) (fin:Option ρ)
 (h: ∀ i,i<n-> ∀ k,B (mk i) k kx=bif f i != 0 then ret (f i)else k (mk (i+1)))
 (hend: ∀ k,B (mk n) k kx=fin) (N:Nat) (hN:n<N):J8 B N (mk 0) kx=bif Om f (List.range n) != 0 then ret (Om f (List.range n))else fin:=by
 refine Awx mk (List.range n) 0 f ret fin ?_ ?_ N (by rw[FK];exact hN)
 .intro i hi k;rw[FK]at hi;rw[AyM hi];exact h i hi k
 .intro k;rw[FK];exact hend k
def AsM (mk:Nat->X) (l:List E) (d:E) (p:E->Bool) (x fin:Option ρ)
 (h: ∀ i,i<l.length-> ∀ k,B (mk i) k kx=bif p (l.getD i d)then x else k (mk (i+1)))
 (hend: ∀ k,B (mk l.length) k kx=fin) (N:Nat) (hN:l.length<N):J8 B N (mk 0) kx=bif l.any p then x else fin:=by
 refine Gu (Aoj (S:=Unit) (R:=Unit) (mk:=fun i _=>mk i) l d (fun e _=>bif p e then .inl ()else .inr ()) (fun _=>x) (fun _=>fin) ?_ (fun _ k=>hend k) N () hN) ?_
 .intro i _ hi k;rw[h i hi,Ti];rfl
 .rw[AwJ,Ti];rfl
end
def AiE {α :Type} (b:Bool) (x y: α):(bif b then some x else some y)=some (bif b then x else y):=by cases b<;>rfl
def yZ {E:Type} (f:E->Int) (x:E) (r:List E):Om f (x::r)=bif f x != 0 then f x else Om f r:=by
 show(if f x≠0 then f x else Om f r)=_;by_cases h:f x=0
 .rw[Du (fun hn=>hn h),h];rfl
 .rw[Dt h,show(f x != 0)=true from Gl.2 h];rfl
def Axz {α :Type} (l:List α) (d: α) {i j:Nat} (h:j<i):(l.take i).getD j d=l.getD j d:=by rw[Dn,FD,Dt h,<- Dn]
def AnE {α :Type} (l:List α) (i:Nat):JB l 0 i=l.take i:=rfl
section
variable {X Y E A ρ :Type} {B:X->(X->Option ρ)->(Y->Option ρ)->Option ρ} {kx:Y->Option ρ}
def AuN (er:E->Int) (g:E->A): ∀(l:List E) (acc:List A),VT (fun e (acc:List A)=>bif er e != 0 then Sum.inl (er e)else Sum.inr (acc++[g e])) l acc=bif Om er l != 0 then .inl (Om er l)else .inr (acc++l.map g):=by
 intro l
 induction l with
 | nil=>intro acc;rw[EN,DL];rfl
 | cons e r ih =>
  intro acc;rw[X3,yZ];cases h:er e != 0 with
  | true=>rw[cond_true,cond_true,h];rfl
  | false =>rw[cond_false,cond_false];show VT _ r (acc++[g e])=_;rw[ih,Ed];rfl
def Ayr (mk:Nat->List A->X) (l:List E) (d:E) (er:E->Int) (g:E->A) (ret:Int->Option ρ) (fin:List A->Option ρ)
 (h: ∀(i:Nat) (acc:List A),i<l.length->acc.length=i-> ∀ k,B (mk i acc) k kx=bif er (l.getD i d) != 0 then ret (er (l.getD i d))else k (mk (i+1) (acc++[g (l.getD i d)])))
 (hend: ∀(acc:List A) (k:X->Option ρ),acc.length=l.length->B (mk l.length acc) k kx=fin acc) (N:Nat) (hN:l.length<N):J8 B N (mk 0 []) kx=bif Om er l != 0 then ret (Om er l)else fin (l.map g):=by
 refine(xI (S:=List A) (R:=Int) mk l d (fun i acc=>acc.length=i) (fun e acc=>bif er e != 0 then .inl (er e)else .inr (acc++[g e])) ret fin ?_ ?_ (fun acc k ha=>hend acc k ha) N [] rfl hN).trans ?_
 .intro i acc hi ha k;rw[h i acc hi ha,Ti];rfl
 .intro i acc acc' hi ha he;cases hb:er (l.getD i d) != 0 with
  | true=>rw[hb]at he;cases he
  | false =>rw[hb]at he;injection he with he;subst he;rw[Dv,ha];rfl
 .rw[AuN,Ti,List.nil_append];rfl
def Aje: ∀ l:List E,Om (fun _=>(0:Int)) l=0:=by
 intro l
 induction l with
 | nil=>rfl
 | cons e r ih=>rw[yZ];exact ih
def dR (mk:Nat->List A->X) (l:List E) (d:E) (g:E->A) (fin:List A->Option ρ)
 (h: ∀(i:Nat) (acc:List A),i<l.length->acc.length=i-> ∀ k,B (mk i acc) k kx=k (mk (i+1) (acc++[g (l.getD i d)])))
 (hend: ∀(acc:List A) (k:X->Option ρ),acc.length=l.length->B (mk l.length acc) k kx=fin acc) (N:Nat) (hN:l.length<N):J8 B N (mk 0 []) kx=fin (l.map g):=by
 refine(Ayr mk l d (fun _=>0) g (fun _=>none) fin (fun i acc hi ha k=>h i acc hi ha k) hend N hN).trans ?_;rw[Aje];rfl
def AnL (g:E->Bs) (l:List E) (d:E) {i:Nat} (h:i<l.length):((l.take i).map g).flatten++g (l.getD i d)=((l.take (i+1)).map g).flatten:=by rw[getD_lt l i d h,F5,D9 h,ET,Gg];simp
def A0s (g:E->Bs) (l:List E) (i:Nat):((l.take i).map g).flatten.length<=(l.map g).flatten.length:=by
 conv=>rhs;rw[<- GN i l,ET,Gg,Dv]
 omega
def AxT (mk:Nat->Bs->X) (l:List E) (d:E) (er:E->Int) (g:E->Bs) (ret:Int->Option ρ) (fin:Bs->Option ρ)
 (h: ∀(i:Nat) (t:Bs),i<l.length->t.length+(g (l.getD i d)).length<=(l.map g).flatten.length-> ∀ k,B (mk i t) k kx=bif er (l.getD i d) != 0 then ret (er (l.getD i d))else k (mk (i+1) (t++g (l.getD i d))))
 (hend: ∀(t:Bs) (k:X->Option ρ),B (mk l.length t) k kx=fin t) (N:Nat) (hN:l.length<N):J8 B N (mk 0 []) kx=bif Om er l != 0 then ret (Om er l)else fin (l.map g).flatten:=by
 refine(xI (S:=Bs) (R:=Int) mk l d (fun i t=>t=((l.take i).map g).flatten) (fun e t=>bif er e != 0 then .inl (er e)else .inr (t++g e)) ret fin ?_ ?_ (fun t k _=>hend t k) N [] rfl hN).trans ?_
 .intro i t hi ht k;rw[h i t hi ?_,Ti]
  .rfl
  .rw[ht,<- Dv,AnL g l d hi];exact A0s g l (i+1)
 .intro i t t' hi ht he;cases hb:er (l.getD i d) != 0 with
  | true=>rw[hb]at he;cases he
  | false =>rw[hb]at he;injection he with he;rw[<- he,ht,AnL g l d hi]
 .have: ∀(l:List E) (t:Bs),VT (fun e (t:Bs)=>bif er e != 0 then Sum.inl (er e)else Sum.inr (t++g e)) l t=bif Om er l != 0 then .inl (Om er l)else .inr (t++(l.map g).flatten):=by
   intro l
   induction l with
   | nil=>intro t;simp [AwK,Om]
   | cons e r ih =>
    intro t;rw[X3,yZ];cases h:er e != 0 with
    | true=>rw[cond_true,cond_true,h];rfl
    | false=>rw[cond_false,cond_false,Ee,List.flatten_cons,<- Ed,<- ih];rfl
  rw[this,Ti,List.nil_append];rfl
def Xm (mk:Nat->Bs->X) (l:List E) (d:E) (g:E->Bs) (fin:Bs->Option ρ)
 (h: ∀(i:Nat) (t:Bs),i<l.length->t.length+(g (l.getD i d)).length<=(l.map g).flatten.length-> ∀ k,B (mk i t) k kx=k (mk (i+1) (t++g (l.getD i d))))
 (hend: ∀(t:Bs) (k:X->Option ρ),B (mk l.length t) k kx=fin t) (N:Nat) (hN:l.length<N):J8 B N (mk 0 []) kx=fin (l.map g).flatten:=by
 refine(AxT mk l d (fun _=>0) g (fun _=>none) fin (fun i t hi ht k=>h i t hi ht k) hend N hN).trans ?_;rw[Aje];rfl
def Nc {g:E->Bs} {M:Nat}: ∀ {l:List E},(∀ e∈l,(g e).length<=M)->(l.map g).flatten.length<=M*l.length:=by
 intro l
 induction l with
 | nil=>intro _;simp
 | cons e r ih =>intro h;have h1:=h e Dy;have h2:=ih fun e he=>h e (D5 _ he);rw[Ee,List.flatten_cons,Dv,List.length_cons,Nat.mul_succ];omega
end
def Ap8 (x y:Bool):(x|| !y&& !x||y)=true:=by cases x<;>cases y<;>rfl
set_option linter.defProp false in
def JO:=And.intro @oU (And.intro @oV (And.intro @L8 (And.intro @Jy (And.intro @cond_true.{1} (And.intro @cond_false.{1} (And.intro @Az7 (And.intro @AgT (And.intro @Az6 (And.intro @A2B (And.intro @Az5 (And.intro @Auh (And.intro @A29 (And.intro @A28 (And.intro @AzG (And.intro @A2L (And.intro @UU (And.intro @A2K (And.intro @AvR (And.intro @Uc (And.intro @Aaj (And.intro @Zz (And.intro @w64 (And.intro @Int.toNat_natCast (And.intro @toNat_add (And.intro @toNat_sub (And.intro @Av5 (And.intro @Av6 (And.intro @EO (And.intro @F8 (And.intro @GL (And.intro @FM (And.intro @GK (And.intro @Gh (And.intro @G5 (And.intro @Bool.and_false (And.intro @EK (And.intro @EY (And.intro @Bool.not_not (And.intro @Hw (And.intro @Jb (And.intro @Ie.{1} (And.intro @Iu (And.intro @Il (And.intro @Io (And.intro @Ic (And.intro @IK (And.intro @Ip (And.intro @A0f (And.intro @AsW (And.intro @Ti (And.intro @Awe (And.intro @U2.eq_1 (And.intro @U3.eq_1 (And.intro @U4.eq_1 (And.intro @U5.eq_1 (And.intro @U6.eq_1 (And.intro @U7.eq_1 (And.intro @U8.eq_1 (And.intro @U9.eq_1 (@U10.eq_1))))))))))))))))))))))))))))))))))))))))))))))))))))))))))))
end Go.Proofs.YtfgdgdnlglejbaaGreatDoor.Vm
namespace Go.Proofs.YtfgdgdnlglejbaaGreatDoor.Pl
open IntKind (i64 u8 u32 u64)
open Go Vm
def Aur (s:Bs):(s==([]:Bs))=decide (s=[]):=by cases s<;>rfl
def Axk {α :Type} {s:List α} (h:s≠ []):0<s.length:=by cases s with | nil=>exact absurd rfl h | cons _ _=>simp
def SA (t:Nat) (c:Bs):Option Bs:=if c.length<=131072 then some (Sp.elem t c)else none
def AnP: ∀(l:List Bs),([]:Bs).intercalate l=l.flatten
 | []=>rfl
 | [a]=>by simp [List.intercalate]
 | a::b::r=>by have:=AnP (b::r);simp only[List.intercalate,List.intersperse,List.flatten_cons]at this ⊢;simp [this]
def vX (n:Nat):Vm.byteOf (u8.wrap (n:Int))=UInt8.ofNat n:=by rw[w8];unfold Vm.byteOf;rw[show((n:Int) % 256).toNat=n % 256 by omega];apply UInt8.toNat.inj;simp
def Aqn (n k:Nat):(n:Int).fdiv (k:Int)=((n / k:Nat):Int):=by rw[Hg _ (by omega)];rfl
def head_eq {ρ :Type} (t n:Nat) (ht:t<256) (K:List Int->Option ρ) (K':Bs->Option ρ) (hK: ∀ l,List.all l isByte=true->l.length<=5->K l=K' (List.map Vm.byteOf l)) :
 (bif decide ((n:Int)<(128:Int))then K ([u8.wrap (t:Int),u8.wrap (n:Int)]:List Int)
   else bif decide ((n:Int)<(256:Int))then K ([u8.wrap (t:Int),129,u8.wrap (n:Int)]:List Int)
   else bif decide ((n:Int)<(65536:Int))then K ([u8.wrap (t:Int),130,u8.wrap ((n:Int).fdiv (256)),u8.wrap (n:Int)]:List Int)
   else K ([u8.wrap (t:Int),131,u8.wrap ((n:Int).fdiv (65536)),u8.wrap ((n:Int).fdiv (256)),u8.wrap (n:Int)]:List Int))=K' (UInt8.ofNat t::Sp.Qb n):=by
 have f1:=Aqn n 256;have f2:=Aqn n 65536;have g1: ∀ k:Nat,isByte (k:Int)=decide (k<256):=fun k=>by unfold isByte;simp;omega
 rw[show((256:Nat):Int)=256 from rfl]at f1;rw[show((65536:Nat):Int)=65536 from rfl]at f2;rw[f1,f2];unfold Sp.Qb;simp only[Wq];by_cases h1:n<128
 .rw[Dt (by omega),Dt h1,hK _ (by simp [Tj]) (by simp)];simp only[Ee,EN,vX]
 .rw[Du (by omega),Du h1];by_cases h2:n<256
  .rw[Dt (by omega),Dt h2,hK _ (by simp [Tj];decide) (by simp)];simp only[Ee,EN,vX];rfl
  .rw[Du (by omega),Du h2];by_cases h3:n<65536
   .rw[Dt (by omega),Dt h3,hK _ (by simp [Tj];decide) (by simp)];simp only[Ee,EN,vX];rfl
   .rw[Du (by omega),Du h3,hK _ (by simp [Tj];decide) (by simp)];simp only[Ee,EN,vX];rfl
def Azn {ρ :Type} (bad:Option ρ) (fin:Nat->Option ρ): ∀(l:List Bs) (s: {n:Nat // n<=131072}),
 AgU (fun(e:Bs) (s: {n:Nat // n<=131072}) (k: {n:Nat // n<=131072}->Option ρ)=>if h:s.1+e.length<=131072 then k ⟨s.1+e.length,h⟩else bad) (fun s=>fin s.1) l s=if s.1+l.flatten.length<=131072 then fin (s.1+l.flatten.length)else bad:=by
 intro l
 induction l with
 | nil=>intro s;have:=s.2;simp [AgU,this]
 | cons e r ih =>
  intro s;show(if h:s.1+e.length<=131072 then _ else bad)=_;rw[List.flatten_cons,Dv];by_cases h:s.1+e.length<=131072
  .rw[GM h,ih];dsimp only;rw[EJ]
  .rw[Jk h,Du (by omega)]
def Azf {ρ :Type} (N:Nat) (l:List Bs) (hN:l.length<N) (hl:l.length<=1099511627776) (bad:Option ρ) (kx:Int->Option ρ) :
 J8 (X:=Int×Int) (Y:=Int) (U2 fun t6a t23a k1 x2 =>
  bif decide (t23a<(l.length:Int))then(Vm.chk (decide ((0:Int)<=t23a)) <|
  Vm.chk (decide (t23a<(l.length:Int))) <|
  let x31:Bool:=decide (((l.getD t23a.toNat ([]:Bs)).length:Int)>(i64.wrap ((131072:Int) - t6a)))
  bif x31 then bad
  else(k1 (i64.wrap (t6a+((l.getD t23a.toNat ([]:Bs)).length:Int)),i64.wrap (t23a+(1:Int)))))
  else(x2 t6a)) N (0,0) kx=if l.flatten.length<=131072 then kx (l.flatten.length:Int)else bad:=by
 refine Gu (AuA (S:= {n:Nat // n<=131072}) (fun i s=>((s.1:Int),i)) l ([]:Bs) (fun e s k=>if h:s.1+e.length<=131072 then k ⟨s.1+e.length,h⟩else bad) (fun s=>(fun n:Nat=>kx (n:Int)) s.1) ?_ ?_ N ⟨0,by omega⟩ hN) ?_
 .intro i s k hi;have hs:=s.2;show(bif decide ((i:Int)<(l.length:Int))then _ else _)=_;simp only[Wq,qL,Int.toNat_natCast];rw[Dt (by omega),Dt (by omega),Dt (by omega),w64 (x:=131072 - ((s.1:Nat):Int)) (by omega) (by omega)];by_cases h:s.1+(l.getD i []).length<=131072
  .rw[Du (by omega),GM h,w64 (by omega) (by omega),w64 (by omega) (by omega)];rfl
  .rw[Dt (by omega),Jk h]
 .intro s k;show(bif decide ((l.length:Int)<(l.length:Int))then _ else _)=_;simp only[Wq];rw[Du (by omega)]
 .refine(Azn bad (fun n:Nat=>kx (n:Int)) l ⟨0,by omega⟩).trans ?_;dsimp only;rw[DT]
def Ai5 (N t:Nat) (l:List Bs) (ht:t<256) (h31:t % 32≠31) (hN:l.length<N) (hl:l.length<=1099511627776):KP N (t:Int) l=some ((SA t l.flatten).getD [],if(SA t l.flatten).isNone then 6 else 0):=by
 unfold KP;try simp -zeta only[Ap]
 simp only[Akl,AgP,AgQ,AsP,ApU,AjY,Azx t ht];rw[show(decide ((t:Int)<0)||decide ((t:Int)>255)||((t % 32:Nat):Int)==31)=false by simp;omega,cond_false];refine Gu (Azf N l hN hl _ _) ?_;unfold SA;by_cases h:l.flatten.length<=131072
 .rw[Dt h,Dt h,oV];refine Gu (head_eq t l.flatten.length ht (fun l1:List Int=>Vm.chk (List.all l1 isByte)<|Jt (strings_Join N l ([]:Bs)) fun r81=>Vm.chk (decide ((List.map Vm.byteOf l1).length+r81.length<=140737488355328))<|some ((List.map Vm.byteOf l1)++r81,(0:Int))) (fun h=>some (h++l.flatten,0)) (fun l' hl' hl5=> ?_)) rfl;rw[hl',L8];unfold strings_Join;rw[AnP,Dp (show l.length<=140737488355328 by omega),Dp (show l.flatten.length<=140737488355328 by omega)];show Vm.chk (decide ((List.map Vm.byteOf l').length+l.flatten.length<=140737488355328)) _=_;rw[qL,Dt (by rw[Dz];omega)];rfl
 .rw[Du h,Du h];rfl
def Ad3 (N t:Nat) (l:List Bs) (ht:t<256) (h31:t % 32≠31) (hN:l.length<N) (hl:l.length<=1099511627776) (hs:l.flatten.length<=140737488355328):Vb N (t:Int) l=some ((SA t l.flatten).getD [],if(SA t l.flatten).isNone then 6 else 0):=by
 unfold Vb;try simp -zeta only[Ap]
 simp only[Akl,AgP,AgQ,AsP,ApU,AjY];rw[show(decide ((t:Int)<0)||decide ((t:Int)>255)||(t:Int).tmod 32==31)=false by rw[F9 (by omega)];simp;omega,cond_false];refine Gu (WM (fun x=> ∃ i,i<=l.length/\x=((l.take i).flatten,(i:Int))) (fun x=>l.length - x.2.toNat) (fun _=>some ((SA t l.flatten).getD [],if(SA t l.flatten).isNone then 6 else 0)) ?_ N _ ⟨0,by omega,rfl⟩ (by show l.length - 0<N;omega)) rfl;rintro x ⟨i,hi,rfl⟩ k hk;show(bif decide ((i:Int)<(l.length:Int))then _ else _)=_;by_cases h:i<l.length
 .simp only[Wq,qL,Int.toNat_natCast];have e:(l.take i).flatten++l.getD i []=(l.take (i+1)).flatten:=by rw[take_snoc h,Gg,show l.getD i []=l[i] by simp [Dn,h]];simp
  have hle:(l.take (i+1)).flatten.length<=l.flatten.length:=by
   conv=>rhs;rw[<- GN (i+1) l,Gg,Dv]
   omega
  have e2:(l.take i).flatten.length+(l.getD i []).length<=140737488355328:=by rw[<- Dv,e];omega
  rw[Dt (by omega),Dt (by omega),Dt (by omega),Dt e2,e,w64 (by omega) (by omega)];exact hk _ ⟨i+1,h,rfl⟩ (by show l.length - ((i:Int)+1).toNat<l.length - (i:Int).toNat;omega)
 .have hil:i=l.length:=by omega
  subst hil;rw[Wq,Du (by omega)];dsimp only;rw[Ez];unfold SA;by_cases h:l.flatten.length<=131072
  .rw[Dt h,Wq,Du (by omega),oV];have:=head_eq t l.flatten.length ht (fun l':List Int=>Vm.chk (List.all l' isByte)<|Vm.chk (decide ((List.map Vm.byteOf l').length+l.flatten.length<=140737488355328))<|some ((List.map Vm.byteOf l')++l.flatten,(0:Int))) (fun h=>some (h++l.flatten,0)) (fun l' hl' hl5=>by rw[hl',L8,qL,Dt (by rw[Dz];omega)]);refine Gu ?_ this;simp only[Wq];by_cases h1:l.flatten.length<128
   .rw[Du (by omega),Du (by omega),Du (by omega),Dt (by omega)]
   .by_cases h2:l.flatten.length<256
    .rw[Du (by omega),Du (by omega),Dt (by omega),Du (by omega),Dt (by omega)]
    .by_cases h3:l.flatten.length<65536
     .rw[Du (by omega),Dt (by omega),Du (by omega),Du (by omega),Dt (by omega)]
     .rw[Dt (by omega),Du (by omega),Du (by omega),Du (by omega)]
  .rw[Du h,Wq,Dt (by omega)];rfl
def A1c (N t:Nat) (l:List Bs) (ht:t<256) (h31:t % 32≠31) (hN:l.length<N) (hl:l.length<=1099511627776) (hs:l.flatten.length<=140737488355328):Lm N (t:Int) l=some ((SA t l.flatten).getD [],if(SA t l.flatten).isNone then 2 else 0):=by unfold Lm;rw[Ad3 N t l ht h31 hN hl hs,Jy];cases SA t l.flatten<;>rfl
def AsI (N:Nat) (b:Bool) (s:Bs) (e:Int):Kt N b s e=some (s,b||decide (e≠0)):=by
 unfold Kt;try simp -zeta only[Ap]
 cases b<;>simp [Vm.chk,bne,BEq.beq,decide_not]
def AsJ (N t:Nat) (b:Bool) (l:List Bs) (ht:t<256) (h31:t % 32≠31) (hN:l.length<N) (hl:l.length<=1099511627776):KA N b (t:Int) l=some ((SA t l.flatten).getD [],b||(SA t l.flatten).isNone):=by unfold KA;rw[Ai5 N t l ht h31 hN hl,Jy,AsI,Jy];cases SA t l.flatten<;>simp
def A1i (N:Nat) (b:Bool) (l:List Bs) (hN:l.length<N) (hl:l.length<=1099511627776):KR N b l=some ((SA 48 l.flatten).getD [],b||(SA 48 l.flatten).isNone):=by unfold KR;rw[show(48:Int)=((48:Nat):Int)from rfl,AsJ N 48 b l (by omega) (by omega) hN hl,Jy]
abbrev El:=Int×Bs×Bs
def Sz:Nat->Bs->List El->List El×Int
 | 0,_,a=>(a,0)
 | f+1,s,a=>if s=[]then(a,0)else if Sp.err s≠0 then([],Sp.err s)else Sz f (Sp.rest s) (a++[MW s])
def X0 (s:Bs):List El×Int:=Sz (s.length+1) s []
def Alc: ∀(f g:Nat) (s:Bs) (a:List El),s.length<f->s.length<g->Sz f s a=Sz g s a:=by
 intro f
 induction f with
 | zero=>intro g s a h;omega
 | succ f ih =>
  intro g s a hf hg;cases g with
  | zero=>omega
  | succ g =>
   show(if s=[]then(a,(0:Int))else if Sp.err s≠0 then([],Sp.err s)else Sz f (Sp.rest s) (a++[MW s]))=(if s=[]then(a,0)else if Sp.err s≠0 then([],Sp.err s)else Sz g (Sp.rest s) (a++[MW s]));by_cases h:s=[]
   .rw[Dt h,Dt h]
   .rw[Du h,Du h];by_cases he:Sp.err s=0
    .have:=Sp.Ahn s he;rw[Du (by simp [he]),Du (by simp [he])];exact ih g _ _ (by omega) (by omega)
    .rw[Dt he,Dt he]
def AgX (M:Nat) (e:El):Prop:= ∃ t:Bs,Sp.err t=0/\e=MW t/\t.length<=M
structure Good (M:Nat) (l:List El):Prop where
 len:l.length<=M
 all: ∀ e∈l,AgX M e
 A1X:(l.map (·.2.2)).flatten.length<=M
def AgX.mono {M K:Nat} {e:El} (h:AgX M e) (hk:M<=K):AgX K e:=by obtain⟨t,h1,h2,h3⟩:=h;exact⟨t,h1,h2,by omega⟩
def AgX.content {M:Nat} {e:El} (h:AgX M e):e.2.1.length+2<=e.2.2.length/\e.2.2.length<=M/\0<=e.1/\e.1<256:=by obtain⟨t,h1,rfl,h3⟩:=h;have:=Sp.Al6 t h1;have hr:=Sp.Avj t h1;have hc:=Sp.Amo t h1;have ht:=AgF t;show(Sp.content t).length+2<=(Sp.raw t).length/\(Sp.raw t).length<=M/\0<=((Sp.tag t:Nat):Int)/\((Sp.tag t:Nat):Int)<256;omega
def Good.mono {M K:Nat} {l:List El} (h:Good M l) (hk:M<=K):Good K l:=⟨by have:=h.len;omega,fun e he=>(h.all e he).mono hk,by have:=h.A1X;omega⟩
def Good.tail {M:Nat} {e:El} {l:List El} (h:Good M (e::l)):Good M l:=⟨by have:=h.len;simp at this;omega,fun e he=>h.all e (D5 _ he),by have:=h.A1X;rw[Ee,List.flatten_cons,Dv]at this;omega⟩
def Ou (N:Nat) (s:Bs) (hN:4<N) (hs:s.length<=1099511627776) (hl:s.length<N):NT N s=some (X0 s):=by
 unfold NT X0;try simp -zeta only[Ap]
 refine WM (F:=fun x=>some (Sz (x.1.length+1) x.1 x.2)) (fun x=>x.1.length+x.2.length<=s.length) (fun x=>x.1.length) ?_ N (s,[]) (by simp) hl;rintro ⟨t,a⟩ hI k hk;dsimp only at hI hk;dsimp only[U2];by_cases h:t=[]
 .subst h;rfl
 .have hp:=Axk h;rw[Aur,DN h,EY,cond_true];show(Jt (YU N t) _:Option (List El×Int))=some (if t=[]then(a,0)else if Sp.err t≠0 then([],Sp.err t)else Sz t.length (Sp.rest t) (a++[MW t]));rw[Du h,gU N t hN (by omega),Jy];by_cases he:Sp.err t=0
  .have hr:NK t=(MW t,Sp.rest t,0):=by unfold NK;rw[Dt he]
   have hlt:=Sp.Ahn t he;rw[hr,Du (by simp [he])];show Vm.chk (decide ((a.length+1)*41<=140737488355328)) (k (Sp.rest t,a++[MW t]))=_;rw[qL,Dt (by omega),hk (Sp.rest t,a++[MW t]) (by simp;omega) hlt];exact congrArg some (Alc _ _ _ _ (by show(Sp.rest t).length<(Sp.rest t).length+1;omega) hlt)
  .have hr:NK t=((0,[],[]),[],Sp.err t):=by unfold NK;rw[Du he]
   rw[hr,Dt he];show(bif Sp.err t != 0 then some (([]:List El),Sp.err t)else _)=_;rw[show(Sp.err t != 0)=true by simp [he]];rfl
def AmB (l:List El) (t:Int):El×Bool×List El:=match l with
 | []=>((0,[],[]),false,[])
 | e::r=>if e.1=t then(e,true,r)else((0,[],[]),false,e::r)
def A0x {e:El} {r:List El} {t:Int} (h:e.1=t):AmB (e::r) t=(e,true,r):=by show(if e.1=t then(e,true,r)else((0,[],[]),false,e::r))=_;rw[Dt h]
def A0w {e:El} {r:List El} {t:Int} (h: ¬ e.1=t):AmB (e::r) t=((0,[],[]),false,e::r):=by show(if e.1=t then(e,true,r)else((0,[],[]),false,e::r))=_;rw[Du h]
def Ae3 (N:Nat) (l:List El) (t:Int):MM N l t=some (AmB l t):=by
 cases l with
 | nil=>rfl
 | cons e r =>
  have h0:(((e::r).length:Int)==(0:Int))=false:=by simp;omega
  have h1:decide ((0:Int)<((e::r).length:Int))=true:=Dp (by simp only[List.length_cons];omega);have h2:decide ((1:Int)<=((e::r).length:Int))=true:=Dp (by simp only[List.length_cons];omega);unfold MM;try simp -zeta only[Ap]
  rw[h0,h1,h2];show(bif (e.1 != t)then some (((0,[],[]):El),false,e::r)else some (e,true,JB (e::r) 1 (e::r).length))=some (if e.1=t then(e,true,r)else((0,[],[]),false,e::r));have hc:JB (e::r) 1 (e::r).length=r:=by show((e::r).take (e::r).length).drop 1=r;rw[Ez];rfl
  rw[hc];by_cases h:e.1=t
  .rw[Dt h,show(e.1 != t)=false by simp [h]];rfl
  .rw[Du h,show(e.1 != t)=true by simp [h]];rfl
def TY (N:Nat) (l:List El):KQ N l=some (if l=[]then 0 else 4,l):=by
 cases l with
 | nil=>rfl
 | cons e r =>unfold KQ;rw[Wq,Dt (by simp only[List.length_cons];omega),Du (by simp)]
def AuZ (s:Bs) (t:Int):El×Int:=bif (dY s).2 != 0 then((0,[],[]),(dY s).2)else bif (dY s).1.1 != t then((0,[],[]),5)else((dY s).1,0)
def AbU (N:Nat) (s:Bs) (t:Int) (hN:1048578<N) (hs:s.length<=1048576):OD N s t=some (AuZ s t):=by
 unfold OD AuZ;try simp only[clR]
 rw[XC N s (by omega) (by omega),Jy];simp only[AiE]
def u8n {n:Nat} (h:n<256):(UInt8.ofNat n).toNat=n:=by rw[Ha];omega
def u8m (n:Nat):(UInt8.ofNat n).toNat=n % 256:=Ha
def Aw3 (t n:Nat) (s:Bs) (ht:t<256) (h31:t % 32≠31) (hn:n<=131072):Sp.head (UInt8.ofNat t::(Sp.Qb n++s))=(0,1+(Sp.Qb n).length,n):=by
 have h1: ¬(UInt8.ofNat t).toNat % 32=31:=by rw[u8n ht];exact h31
 unfold Sp.Qb;by_cases a1:n<128
 .rw[Dt a1];have e:=u8n (show n<256 by omega);unfold Sp.head;dsimp only[List.cons_append,List.nil_append];rw[Du h1,e,Dt a1];rfl
 .rw[Du a1];by_cases a2:n<256
  .rw[Dt a2];have e:=u8n a2;have hb:Sp.beNat (((UInt8.ofNat n)::s).take 1)=n:=by show 0*256+(UInt8.ofNat n).toNat=n;omega
   unfold Sp.head;dsimp only[List.cons_append,List.nil_append];rw[Du h1,Du (by decide),Du (by decide),show(129:UInt8).toNat - 128=1 from rfl];rw[hb,Du (by simp),Du (by rw[show Sp.leastOf 1=128 from rfl];omega)];rfl
  .rw[Du a2];by_cases a3:n<65536
   .rw[Dt a3];have e1:=u8m (n / 256);have e2:=u8m n;have hb:Sp.beNat (((UInt8.ofNat (n / 256))::UInt8.ofNat n::s).take 2)=n:=by show(0*256+(UInt8.ofNat (n / 256)).toNat)*256+(UInt8.ofNat n).toNat=n;omega
    unfold Sp.head;dsimp only[List.cons_append,List.nil_append];rw[Du h1,Du (by decide),Du (by decide),show(130:UInt8).toNat - 128=2 from rfl];rw[hb,Du (by simp),Du (by rw[show Sp.leastOf 2=256 from rfl];omega)];rfl
   .rw[Du a3];have e0:=u8m (n / 65536);have e1:=u8m (n / 256);have e2:=u8m n;have hb:Sp.beNat (((UInt8.ofNat (n / 65536))::(UInt8.ofNat (n / 256))::UInt8.ofNat n::s).take 3)=n:=by show((0*256+(UInt8.ofNat (n / 65536)).toNat)*256+(UInt8.ofNat (n / 256)).toNat)*256+(UInt8.ofNat n).toNat=n;omega
    unfold Sp.head;dsimp only[List.cons_append,List.nil_append];rw[Du h1,Du (by decide),Du (by decide),show(131:UInt8).toNat - 128=3 from rfl];rw[hb,Du (by simp),Du (by rw[show Sp.leastOf 3=65536 from rfl];omega)];rfl
section
variable (t:Nat) (c r:Bs) (ht:t<256) (h31:t % 32≠31) (hc:c.length<=131072)
include ht h31 hc
theorem A0J:Sp.rd (Sp.elem t c++r)=(0,1+(Sp.Qb c.length).length,c.length):=by
 have h:Sp.elem t c++r=UInt8.ofNat t::(Sp.Qb c.length++(c++r)):=by unfold Sp.elem;simp
 unfold Sp.rd;rw[h,Aw3 t c.length (c++r) ht h31 hc];rw[Du];rintro ⟨_,h2⟩;simp only[List.length_cons,Dv]at h2;omega
theorem Agc:Sp.err (Sp.elem t c++r)=0/\MW (Sp.elem t c++r)=((t:Int),c,Sp.elem t c)/\Sp.rest (Sp.elem t c++r)=r:=by
 have h:=A0J t c r ht h31 hc;have hl:(Sp.elem t c).length=1+(Sp.Qb c.length).length+c.length:=by unfold Sp.elem;simp;omega
 have hd:(Sp.elem t c++r).drop (1+(Sp.Qb c.length).length)=c++r:=by
  have h2:Sp.elem t c++r=(UInt8.ofNat t::Sp.Qb c.length)++(c++r):=by unfold Sp.elem;simp
  rw[h2];exact H6 (by simp;omega)
 refine⟨by unfold Sp.err;rw[h],?_,?_⟩
 .unfold MW Sp.content Sp.raw;rw[h];dsimp only;rw[hd,List.take_left,<- hl,List.take_left];rw[show Sp.tag (Sp.elem t c++r)=t from u8n ht]
 .unfold Sp.rest;rw[h];dsimp only;rw[<- hl,List.drop_left]
end
def JX (t:Nat) (c:Bs):El:=((t:Int),c,Sp.elem t c)
def rY (t:Nat) (c:Bs) (ht:t<256) (h31:t % 32≠31) (hc:c.length<=131072):dY (Sp.elem t c)=(JX t c,0):=by obtain⟨h1,h2,h3⟩:=Agc t c [] ht h31 hc;rw[DL]at h1 h2 h3;unfold dY Sp.QS;rw[h1,h3,Dt (show(if(0:Int)≠0 then(0:Int)else if([]:Bs)=[]then 0 else 4)=0 from rfl),h2];rfl
def AfS (t:Nat) (c:Bs) (ht:t<256) (h31:t % 32≠31) (hc:c.length<=131072):AuZ (Sp.elem t c) t=(JX t c,0):=by unfold AuZ;rw[rY t c ht h31 hc];show(bif ((t:Int) != (t:Int))then((0,[],[]),(5:Int))else(JX t c,0))=_;rw[show((t:Int) != (t:Int))=false by simp];rfl
structure Fine (p:Nat×Bs):Prop where
 lt:p.1<256
 low:p.1 % 32≠31
 len:p.2.length<=131072
def MN {t:Nat} {c:Bs} (ht:t<256) (h31:t % 32≠31) (hc:c.length<=131072):Fine (t,c):=⟨ht,h31,hc⟩
def XK (d:Nat) (s:Bs):Prop:=Sp.within (s.length+1) d s=0
def AyC (d:Nat):XK d []:=Sp.AvA _ _
def AsG: ∀(f d:Nat) (l:Bs),Sp.within f (d+1) l=0->Sp.within f d l=0:=by
 intro f
 induction f with
 | zero=>intro d l _;rfl
 | succ f ih =>
  intro d l h;unfold Sp.within at h ⊢;by_cases h1:l=[]
  .rw[Dt h1]
  .rw[Du h1]at h ⊢;by_cases h2:Sp.err l≠0
   .rw[Dt h2]at h;exact absurd h h2
   .rw[Du h2]at h ⊢;by_cases h3:16<=d+1
    .rw[Dt h3]at h;cases h
    .rw[Du h3]at h;rw[Du (by omega)];by_cases h4:(if Sp.cons (Sp.tag l)=true then Sp.within f (d+1+1) (Sp.content l)else 0)=0
     .have h5:(if Sp.cons (Sp.tag l)=true then Sp.within f (d+1) (Sp.content l)else 0)=0:=by
       by_cases hc:Sp.cons (Sp.tag l)=true
       .rw[Dt hc]at h4 ⊢;exact ih _ _ h4
       .rw[Du hc]
      rw[Du (by simp [h4])]at h;rw[Du (by simp [h5])];exact ih _ _ h
     .rw[Dt h4]at h;exact absurd h h4
def Ath {d e:Nat} (h:d<=e) {s:Bs} (hs:XK e s):XK d s:=by
 obtain⟨k,rfl⟩: ∃ k,e=d+k:=⟨e - d,by omega⟩
 clear h
 induction k with
 | zero=>exact hs
 | succ k ih=>exact ih (AsG _ _ _ hs)
def Aqb (t:Nat) (c r:Bs):Sp.elem t c++r≠ []:=by unfold Sp.elem;simp
def oP (t:Nat) (c:Bs):c.length<(Sp.elem t c).length:=by unfold Sp.elem;simp;omega
def Arh {t:Nat} {c r:Bs} (h:Fine (t,c)):Sp.err (Sp.elem t c++r)=0/\Sp.tag (Sp.elem t c++r)=t/\Sp.content (Sp.elem t c++r)=c/\Sp.rest (Sp.elem t c++r)=r:=by obtain⟨h1,h2,h3⟩:=Agc t c r h.lt h.low h.len;unfold MW at h2;injection h2 with h4 h5;injection h5 with h5 h6;exact⟨h1,by exact_mod_cast h4,h5,h3⟩
def AwQ {d t:Nat} {c r:Bs} (h:Fine (t,c)) (hd:d<16) (hc:Sp.cons t=true->XK (d+1) c) (hr:XK d r):XK d (Sp.elem t c++r):=by
 obtain⟨h1,h2,h3,h4⟩:=Arh (r:=r) h;have hl:=oP t c;have hlen:(Sp.elem t c++r).length=(Sp.elem t c).length+r.length:=Dv;unfold XK;rw[Sp.Ai9 _ d _ (Aqb t c r) h1 (by omega),h4]
 .rw[Xy _ (r.length+1) d r (by omega) (by omega)];exact hr
 .rw[h2,h3];unfold Sp.inner;by_cases hq:Sp.cons t=true
  .rw[Dt hq,Xy _ (c.length+1) (d+1) c (by omega) (by omega)];exact hc hq
  .rw[Du hq]
def AiV {t:Nat} {c:Bs} (h:Fine (t,c)) (hc:Sp.cons t=true->XK 1 c):Sp.chk (Sp.elem t c)=0:=by
 obtain⟨h1,h2,h3,h4⟩:=Arh (r:=[]) h;rw[DL]at h1 h2 h3 h4;have hl:=oP t c;have ho:Sp.QS (Sp.elem t c)=0:=by unfold Sp.QS;rw[h1,h4,Du (by decide),Dt rfl]
 unfold Sp.chk;rw[ho,Du (by decide),h2,h3];unfold Sp.inner;by_cases hq:Sp.cons t=true
 .rw[Dt hq,Xy _ (c.length+1) 1 c (by omega) (by omega)];exact hc hq
 .rw[Du hq]
def AwH: ∀(f:Nat) (s:Bs) (a:List El),Sz f s a=if(Sz f s []).2=0 then(a++(Sz f s []).1,0)else([],(Sz f s []).2):=by
 intro f
 induction f with
 | zero=>intro s a;show(a,(0:Int))=if(0:Int)=0 then(a++[],0)else _;rw[Dt rfl,DL]
 | succ f ih =>
  intro s a;show(if s=[]then(a,(0:Int))else if Sp.err s≠0 then([],Sp.err s)else Sz f (Sp.rest s) (a++[MW s]))=if(if s=[]then(([]:List El),(0:Int))else if Sp.err s≠0 then([],Sp.err s)else Sz f (Sp.rest s) ([]++[MW s])).2=0 then(a++(if s=[]then(([]:List El),(0:Int))else if Sp.err s≠0 then([],Sp.err s)else Sz f (Sp.rest s) ([]++[MW s])).1,0)else([],(if s=[]then(([]:List El),(0:Int))else if Sp.err s≠0 then([],Sp.err s)else Sz f (Sp.rest s) ([]++[MW s])).2);by_cases h1:s=[]
  .simp only[Dt h1];rw[Dt trivial,DL]
  .simp only[Du h1];by_cases h2:Sp.err s=0
   .have h2': ¬ Sp.err s≠0:=fun h=>h h2;simp only[Du h2'];rw[ih _ (a++[MW s]),ih _ ([]++[MW s])];by_cases h3:(Sz f (Sp.rest s) []).2=0
    .simp only[Dt h3];simp
    .simp only[Du h3]
   .have h2':Sp.err s≠0:=h2;simp only[Dt h2',Du h2]
structure Par (d:Nat) (x:Bs) (es:List El):Prop where
 rd: ∀ r fs,X0 r=(fs,0)->X0 (x++r)=(es++fs,0)
 ns: ∀ r,XK d r->XK d (x++r)
def Ay5:X0 []=([],0):=rfl
def Par.list {d:Nat} {x:Bs} {es:List El} (h:Par d x es):X0 x=(es,0):=by have:=h.rd [] [] Ay5;rwa [DL,DL]at this
def Par.nest {d:Nat} {x:Bs} {es:List El} (h:Par d x es):XK d x:=by have:=h.ns [] (AyC d);rwa [DL]at this
def Ahj (d:Nat):Par d [] []:=⟨fun _ _ h=>h,fun _ h=>h⟩
def N7 {d:Nat} {x y:Bs} {es fs:List El} (h:Par d x es) (g:Par d y fs):Par d (x++y) (es++fs):=by
 refine⟨fun r gs hr=> ?_,fun r hr=> ?_⟩
 .rw[Ed,Ed];exact h.rd _ _ (g.rd _ _ hr)
 .rw[Ed];exact h.ns _ (g.ns _ hr)
def AqW {d t:Nat} {c:Bs} (h:Fine (t,c)) (hd:d<16) (hc:Sp.cons t=true->XK (d+1) c):Par d (Sp.elem t c) [JX t c]:=by refine⟨fun r fs hr=> ?_,fun r hr=>AwQ h hd hc hr⟩;obtain⟨h1,h2,h3⟩:=Agc t c r h.lt h.low h.len;have hl:=oP t c;have hlen:(Sp.elem t c++r).length=(Sp.elem t c).length+r.length:=Dv;unfold X0 at hr ⊢;show(if Sp.elem t c++r=[]then(([]:List El),(0:Int))else if Sp.err (Sp.elem t c++r)≠0 then([],Sp.err (Sp.elem t c++r))else Sz (Sp.elem t c++r).length (Sp.rest (Sp.elem t c++r)) ([]++[MW (Sp.elem t c++r)]))=_;rw[Du (Aqb t c r),h1,Du (by decide),h2,h3,AwH,Alc _ (r.length+1) r [] (by omega) (by omega),hr,Dt rfl];rfl
def N8 {d t:Nat} {c:Bs} (h:Fine (t,c)) (hd:d<16) (hc:XK (d+1) c):Par d (Sp.elem t c) [JX t c]:=AqW h hd fun _=>hc
def Qd {d t:Nat} {c:Bs} (h:Fine (t,c)) (hd:d<16) (hc:Sp.cons t=false):Par d (Sp.elem t c) [JX t c]:=AqW h hd fun h=>by rw[hc]at h;cases h
def AmY {d:Nat} {x:Bs} {es:List El} (b:Bool) (h:b=true->Par d x es):Par d (bif b then x else []) (bif b then es else []):=by
 cases b with
 | true=>exact h rfl
 | false=>exact Ahj d
def Zj {α :Type} {d:Nat} {f: α ->Bs} {g: α ->El}: ∀ {l:List α},(∀ a∈l,Par d (f a) [g a])->Par d (l.map f).flatten (l.map g):=by
 intro l
 induction l with
 | nil=>intro _;exact Ahj d
 | cons a l ih =>intro h;rw[Ee,Ee,List.flatten_cons];exact N7 (h a Dy) (ih fun b hb=>h b (D5 _ hb))
def Aq0 {t:Nat} {c:Bs} {r:List El} {k:Int} (h:(t:Int)=k):AmB (JX t c::r) k=(JX t c,true,r):=A0x h
def Au5 {t:Nat} {c:Bs} {r:List El} {k:Int} (h: ¬(t:Int)=k):AmB (JX t c::r) k=((0,[],[]),false,JX t c::r):=A0w h
def Aqz (k:Int):AmB [] k=((0,[],[]),false,[]):=rfl
def el1 (t:Nat) (c:Bs):(JX t c).1=(t:Int):=rfl
def el2 (t:Nat) (c:Bs):(JX t c).2.1=c:=rfl
def el3 (t:Nat) (c:Bs):(JX t c).2.2=Sp.elem t c:=rfl
section
variable {X Y ρ :Type} {B:X->(X->Option ρ)->(Y->Option ρ)->Option ρ} {kx:Y->Option ρ}
def MR (mk:Nat->X) (n:Nat) (fin:Option ρ) (h: ∀ i,i<n-> ∀ k,B (mk i) k kx=k (mk (i+1))) (hend: ∀ k,B (mk n) k kx=fin) (N:Nat) (hN:n<N):J8 B N (mk 0) kx=fin:=by refine(Aux mk n (fun _=>0) (fun _=>none) fin (fun i hi k=>h i hi k) hend N hN).trans ?_;rw[Aje];rfl
end
def leB (a b:Bs):Bool:=Vm.bytesLess a b||a==b
def AwF (a b:Bs):leB a b=decide (a<=b):=by
 unfold leB Vm.bytesLess;rw[bytesLess_eq];by_cases h:a=b
 .subst h;rw[Em,F8];exact(Dp (List.le_refl a)).symm
 .rw[FI h,FM];by_cases h2:a<b
  .rw[Dp h2,Dp (List.le_of_lt h2)]
  .rw[DN h2,DN];intro h3;exact h (Jd h3 (by simpa using h2))
def WJ (x:Bs):List Bs->List Bs
 | []=>[x]
 | y::r=>bif leB y x then y::WJ x r else x::y::r
def Acp (x:Bs): ∀ s:List Bs,(WJ x s).Perm (x::s):=by
 intro s
 induction s with
 | nil=>exact Ig _
 | cons y r ih =>
  show(bif leB y x then y::WJ x r else x::y::r).Perm _;cases leB y x with
  | true=>exact(List.Perm.cons y ih).trans (List.Perm.swap x y r)
  | false=>exact Ig _
def Ayv (x:Bs): ∀ s:List Bs,s.Pairwise (fun a b=>a<=b)->(WJ x s).Pairwise (fun a b=>a<=b):=by
 intro s
 induction s with
 | nil=>intro _;exact G8 _ _
 | cons y r ih =>
  intro h;rw[EE]at h;show(bif leB y x then y::WJ x r else x::y::r).Pairwise _;cases hl:leB y x with
  | true =>
   rw[AwF,DK]at hl;rw[cond_true,EE];refine⟨fun z hz=> ?_,ih h.2⟩;rcases D8.1 ((Acp x r).mem_iff.1 hz)with rfl | hz
   .exact hl
   .exact h.1 z hz
  | false =>
   rw[AwF,decide_eq_false_iff_not]at hl
   have hxy:x<=y:=by
    rcases List.le_total x y with h | h
    .exact h
    .exact absurd h hl
   rw[cond_false,EE,EE];refine⟨fun z hz=> ?_,h⟩;rcases D8.1 hz with rfl | hz
   .exact hxy
   .exact List.le_trans hxy (h.1 z hz)
def Aqr: ∀(l s:List Bs),s.Pairwise (fun a b=>a<=b)->(l.foldl (fun s x=>WJ x s) s).Pairwise (fun a b=>a<=b)/\(l.foldl (fun s x=>WJ x s) s).Perm (l++s):=by
 intro l
 induction l with
 | nil=>intro s h;exact⟨h,Ig _⟩
 | cons x r ih =>intro s h;obtain⟨h1,h2⟩:=ih (WJ x s) (Ayv x s h);refine⟨h1,h2.trans ?_⟩;exact((Acp x s).append_left r).trans List.perm_middle
def Ajy (l:List Bs):(l.foldl (fun s x=>WJ x s) []).flatten=Yf l:=by
 unfold Yf;congr 1;obtain⟨h1,h2⟩:=Aqr l [] List.Pairwise.nil;rw[DL]at h2;refine List.Perm.eq_of_pairwise (le:=fun a b=>a<=b) (fun a b _ _ h3 h4=>Jd h3 h4) h1 ?_ (h2.trans (Ir l _).symm)
 have:=List.pairwise_mergeSort (le:=fun x y:Bs=>decide (x<=y)) (fun a b c h3 h4=>by
  rw[DK]at *
  exact List.le_trans h3 h4) (fun a b=>by
  rw[Gw,DK,DK];exact List.le_total a b) l
 exact this.imp (fun h=>by simpa using h)
def A02 (x:Bs): ∀ s:List Bs,s.take (s.findIdx fun y=> !leB y x)++x::s.drop (s.findIdx fun y=> !leB y x)=WJ x s:=by
 intro s
 induction s with
 | nil=>rfl
 | cons y r ih =>
  rw[IV];show _=bif leB y x then y::WJ x r else x::y::r;cases leB y x with
  | true=>rw[EK,cond_false,cond_true,List.take_succ_cons,FN,List.cons_append,ih]
  | false=>rfl
def Ang (N:Nat) (l:List Bs) (hN:1048578<N) (hl:l.length<=1048576) (hf:l.flatten.length<=1099511627776):gG N l=some (Yf l):=by
 unfold gG;try simp only[clR]
 refine(xI (S:=List Bs) (R:=Unit) (mk:=fun i s=>((i:Int),s)) l [] (fun i s=>s.length=i/\s=(l.take i).foldl (fun s x=>WJ x s) []) (fun x s=>.inr (WJ x s)) (fun _=>none) (fun s=>some s.flatten) ?_ ?_ ?_ N [] ⟨rfl,rfl⟩ (by omega)).trans ?_
 .intro i s hi hI k;obtain⟨hs,_⟩:=hI;have hp:(WJ (l.getD i []) s).length=i+1:=by rw[(Acp _ s).length_eq,List.length_cons,hs]
  simp (disch:=first | assumption | omega) only[JO];refine(AyY (mk:=fun j=>((j:Int),s)) (out:=fun j=>((j:Int),s)) s [] (fun y=> !leB y (l.getD i [])) ?_ ?_ N (by omega)).trans ?_
  .intro j k hj;simp (disch:=first | assumption | omega) only[JO,KI];unfold leB;cases (Vm.bytesLess (s.getD j []) (l.getD i [])||s.getD j []==l.getD i [])<;>rfl
  .intro k;simp (disch:=first | assumption | omega) only[JO]
  .have hc:=A02 (l.getD i []) s;have hle:(s.findIdx fun y=> !leB y (l.getD i []))<=s.length:=List.findIdx_le_length;generalize (s.findIdx fun y=> !leB y (l.getD i []))=m at hc hle;have hc1:JB s 0 m=s.take m:=rfl;have hc2:JB s m s.length=s.drop m:=by unfold JB;rw[Ez]
   have hl1:(s.take m).length=m:=by rw[DZ];omega
   have hl2:(s.drop m).length=s.length - m:=Et ..;have hl3:(s.take m++[l.getD i []]).length=m+1:=by rw[Dv,hl1];rfl
   simp (disch:=first | assumption | omega) only[JO,hc1,hc2,hl1,hl2,hl3,KI];rw[Ed,List.singleton_append,hc]
 .intro i s s' hi hI he;injection he with he;subst he;refine⟨by rw[(Acp _ s).length_eq,List.length_cons,hI.1],?_⟩;rw[hI.2,F5,D9 hi,IU,getD_lt l i _ hi];rfl
 .intro s k hI
  have hp:s.flatten.length<=1099511627776:=by
   have:=(Aqr l [] List.Pairwise.nil).2;rw[DL]at this;have h2:=hI.2;rw[Ez]at h2;rw[<- h2]at this;have h3:=(this.map List.length).sum_nat
   rw[GY]at hf ⊢;omega
  have hsl:=hI.1;simp (disch:=first | assumption | omega) only[JO];refine(Xm (mk:=fun i t=>(t,(i:Int),s)) s [] id some ?_ ?_ N (by omega)).trans ?_
  .intro i t hi ht k;rw[FY]at ht;have ht:t.length+(s.getD i []).length<=s.flatten.length:=ht;simp (disch:=first | assumption | omega) only[JO,KI];rfl
  .intro t k;simp (disch:=first | assumption | omega) only[JO]
  .rw[FY]
 .have: ∀(l s:List Bs),VT (R:=Unit) (fun x (s:List Bs)=>.inr (WJ x s)) l s= .inr (l.foldl (fun s x=>WJ x s) s):=by
   intro l
   induction l with
   | nil=>intro s;rfl
   | cons x r ih=>intro s;rw[X3];exact ih _
  rw[this,AsW,Ajy]
abbrev Att:Type:=Bs×Int×Bs
def uO {t:Nat} {c:Bs} (h:c.length<=131072):SA t c=some (Sp.elem t c):=by unfold SA;rw[Dt h]
def Av1 (N t:Nat) (l:List Bs) (ht:t<256) (h31:t % 32≠31) (hN:1048578<N) (hl:l.length<=1000) (hs:l.flatten.length<=131072):KP N (t:Int) l=some (Sp.elem t l.flatten,0):=by rw[Ai5 N t l ht h31 (by omega) (by omega),uO hs];rfl
def TS (N t:Nat) (l:List Bs) (ht:t<256) (h31:t % 32≠31) (hN:1048578<N) (hl:l.length<=1000) (hs:l.flatten.length<=131072):JG N (t:Int) l=some (Sp.elem t l.flatten):=by unfold JG;rw[Ad3 N t l ht h31 (by omega) (by omega) (by omega),Jy,uO hs];rfl
def AcX (N t:Nat) (l:List Bs) (ht:t<256) (h31:t % 32≠31) (hN:1048578<N) (hl:l.length<=1000) (hs:l.flatten.length<=131072):Lm N (t:Int) l=some (Sp.elem t l.flatten,0):=by rw[A1c N t l ht h31 (by omega) (by omega) (by omega),uO hs];rfl
def A3m (N t:Nat) (b:Bool) (l:List Bs) (ht:t<256) (h31:t % 32≠31) (hN:1048578<N) (hl:l.length<=1000) (hs:l.flatten.length<=131072):KA N b (t:Int) l=some (Sp.elem t l.flatten,b):=by rw[AsJ N t b l ht h31 (by omega) (by omega),uO hs];simp
def Kw (a:Bs): [a].flatten=a:=by simp
def wL (a b:Bs): [a,b].flatten=a++b:=by simp
def flat3 (a b c:Bs): [a,b,c].flatten=a++(b++c):=by simp
def ofM {N:Nat} (hN:1048578<N): ∃ M,N=M+300:=⟨N - 300,by omega⟩
def fE:List Att:=[([50,46,53,46,52,46,51],12,[65,110,110]),([50,46,53,46,52,46,51],19,[32,97,110,110]),([50,46,53,46,52,46,51],12,[103,114,195,182,195,159,101]),([50,46,53,46,52,46,54],19,[85,83]),([50,46,53,46,52,46,49,48],19,[69,120,97,109,112,108,101,32,32,67,111,114,112]),([50,46,53,46,52,46,49,48],12,[101,120,97,109,112,108,101,32,99,111,114,112]),([50,46,53,46,52,46,49,49],22,[97,44,98,43,99,61,100,92,101]),([48,46,57,46,50,51,52,50,46,49,57,50,48,48,51,48,48,46,49,48,48,46,49,46,50,53],22,[111,114,103]),([49,46,50,46,56,52,48,46,49,49,51,53,52,57,46,49,46,57,46,49],22,[97,110,110,64,101,120,97,109,112,108,101,46,111,114,103]),([49,46,50,46,56,52,48,46,49,49,51,53,52,57,46,49,46,57,46,49],22,[110,111,32,97,100,100,114,101,115,115]),([50,46,53,46,52,46,57,57],19,[120]),([50,46,53,46,52,46,55],12,[76])]
def A3e:List Att:=[[48],[49],[50],[51]].flatMap fun k=>[([50,46,53,46,52,46,49,48],19,[67,65,32]++k),([50,46,53,46,52,46,49,48],19,[32,99,97,32,32]++k)]
def A2R:Att:=([50,46,53,46,52,46,49,49],12,[85,110,105,116])
def NJ:List (List Att):=fE.map (fun a=>[a])++(fE.flatMap fun a=>(fE.filter fun b=>a.1 != b.1).map fun b=>[a,b])++(A2R::A3e).map fun a=>[a]
def A1R (l:List Bs):Bs:=(l.foldl (fun s x=>WJ x s) []).flatten
def cZ (a:Att):Bs:=((OG 300 a).getD default).1
def PH (r:List Att):Bs:=A1R (r.map cZ)
def sO (r:List Att):Bs:=Sp.elem 49 (PH r)
def eY (r:List Att):List Att:=((LW 300 (JX 49 (PH r))).getD default).1
structure A22 (N:Nat) (r:List Att):Prop where
 chk:Su N r=some 0
 Arc:QH N r=some 0
 A3j:Ve N r=some (r.map cZ)
 att: ∀ a∈r,OG N a=some (cZ a,0)
 dec:LW N (JX 49 (PH r))=some (eY r,0)
 inC:eY r∈NJ
 enc:PH (eY r)=PH r
 len:(PH r).length<=200
 lens:(r.map cZ).flatten.length<=200
 p0:0<r.length
 p2:r.length<=2
 nest:XK 9 (PH r)
def aT (M:Nat) (r:List Att):Bool :=
 Su (M+300) r==some 0&&(QH (M+300) r==some 0&&(Ve (M+300) r==some (r.map cZ)&&(r.all (fun a=>OG (M+300) a==some (cZ a,0)) &&
 (LW (M+300) (JX 49 (PH r))==some (eY r,0)&&(NJ.contains (eY r)&&(PH (eY r)==PH r&&(decide ((PH r).length<=200)&&(decide ((r.map cZ).flatten.length<=200)&&(decide (0<r.length)&&(decide (r.length<=2)&&(Sp.within ((PH r).length+1) 9 (PH r)==0)))))))))))
def At8 {α :Type} (p: α ->Bool) (l:List α) (n:Nat) (h: ∀ i,i<n->((l.drop (12*i)).take 12).all p=true) (hl:l.length<=12*n):l.all p=true:=by rw[D7];intro x hx;obtain⟨j,hj,rfl⟩:=List.getElem_of_mem hx;refine D7.1 (h (j / 12) (by omega)) _ ?_;rw[FH];refine⟨j % 12,by rw[DZ,Et];omega,?_⟩;rw[IW,List.getElem_drop];congr 1;omega
def ck0 (M:Nat):((NJ.drop (12*0)).take 12).all (aT M)=true:=by kernel_rfl
def ck1 (M:Nat):((NJ.drop (12*1)).take 12).all (aT M)=true:=by kernel_rfl
def ck2 (M:Nat):((NJ.drop (12*2)).take 12).all (aT M)=true:=by kernel_rfl
def ck3 (M:Nat):((NJ.drop (12*3)).take 12).all (aT M)=true:=by kernel_rfl
def ck4 (M:Nat):((NJ.drop (12*4)).take 12).all (aT M)=true:=by kernel_rfl
def ck5 (M:Nat):((NJ.drop (12*5)).take 12).all (aT M)=true:=by kernel_rfl
def ck6 (M:Nat):((NJ.drop (12*6)).take 12).all (aT M)=true:=by kernel_rfl
def ck7 (M:Nat):((NJ.drop (12*7)).take 12).all (aT M)=true:=by kernel_rfl
def ck8 (M:Nat):((NJ.drop (12*8)).take 12).all (aT M)=true:=by kernel_rfl
def ck9 (M:Nat):((NJ.drop (12*9)).take 12).all (aT M)=true:=by kernel_rfl
def A3f (M:Nat):((NJ.drop (12*10)).take 12).all (aT M)=true:=by kernel_rfl
def A3g (M:Nat):((NJ.drop (12*11)).take 12).all (aT M)=true:=by kernel_rfl
def AyO:NJ.length<=144:=of_decide_eq_true (by kernel_rfl)
def A0K (M:Nat):NJ.all (aT M)=true:=by
 refine At8 _ _ 12 (fun i hi=> ?_) AyO
 match i,hi with
 | 0,_=>exact ck0 M
 | 1,_=>exact ck1 M
 | 2,_=>exact ck2 M
 | 3,_=>exact ck3 M
 | 4,_=>exact ck4 M
 | 5,_=>exact ck5 M
 | 6,_=>exact ck6 M
 | 7,_=>exact ck7 M
 | 8,_=>exact ck8 M
 | 9,_=>exact ck9 M
 | 10,_=>exact A3f M
 | 11,_=>exact A3g M
def Vw {N:Nat} (hN:1048578<N) {r:List Att} (h:r∈NJ):A22 N r:=by obtain⟨M,rfl⟩:=ofM hN;have h:=D7.1 (A0K M) r h;unfold aT at h;simp only[Dw,EG,D7,DK,FT]at h;obtain⟨h1,h2,h3,h4,h5,h6,h7,h8,h9,h10,h11,h12⟩:=h;exact⟨h1,h2,h3,h4,h5,h6,h7,h8,h9,h10,h11,h12⟩
def AyN {N:Nat} (hN:1048578<N) {r:List Att} (h:r∈NJ):(sO r).length<=205:=by have:=(Vw hN h).len;have:=Sp.JL 49 (PH r);unfold sO;omega
def okN (n:List (List Att)):Prop:=n.length<=3/\ ∀ r∈n,r∈NJ
def nmC (n:List (List Att)):List (List Att):=n.map eY
def nmB (n:List (List Att)):Bs:=(n.map sO).flatten
def nmT (n:List (List Att)):Bs:=Sp.elem 48 (nmB n)
section
variable {N:Nat} (hN:1048578<N) {n:List (List Att)} (hn:okN n)
include hN hn
theorem Ahe:okN (nmC n):=⟨by unfold nmC;rw[Dz];exact hn.1,fun r hr=>by obtain⟨x,hx,rfl⟩:=DJ.1 hr;exact(Vw hN (hn.2 x hx)).inC⟩
theorem AzH:nmB (nmC n)=nmB n:=by unfold nmB nmC;rw[EC];congr 1;exact Ea fun r hr=>by show Sp.elem 49 _=Sp.elem 49 _;rw[(Vw hN (hn.2 r hr)).enc]
theorem Abd:(nmB n).length<=615:=by have:=Nc (g:=sO) (M:=205) (l:=n) fun r hr=>AyN hN (hn.2 r hr);have:=hn.1;unfold nmB;omega
theorem Abe:(nmT n).length<=620:=by have:=Abd hN hn;have:=Sp.JL 48 (nmB n);unfold nmT;omega
theorem AwU:Par 8 (nmB n) (n.map fun r=>JX 49 (PH r)):=Zj fun r hr=>N8 (MN (by decide) (by decide) (by have:=(Vw hN (hn.2 r hr)).len;omega)) (by decide) (Vw hN (hn.2 r hr)).nest
theorem Ati:Fine (48,nmB n):=(MN (by decide) (by decide) (by have:=Abd hN hn;omega))
theorem QX:NH N n=some 0:=by
 have h3:=hn.1;unfold NH;try simp only[clR]
 simp (disch:=first | assumption | omega) only[JO];refine MR (fun i=>(i:Int)) n.length _ ?_ ?_ N (by omega)
 .intro i hi k;have h:=(Vw hN (hn.2 _ (getD_mem [] hi))).chk;simp (disch:=first | assumption | omega) only[JO,h,KI];try rfl
 .intro k;simp (disch:=first | assumption | omega) only[JO]
theorem V5:NZ N n=some 0:=by
 have h3:=hn.1;unfold NZ;try simp only[clR]
 simp (disch:=first | assumption | omega) only[JO];refine MR (fun i=>(i:Int)) n.length _ ?_ ?_ N (by omega)
 .intro i hi k;have h:=Vw hN (hn.2 _ (getD_mem [] hi));have h1:=h.Arc;have h2:=h.p0;have h3:=h.p2;simp (disch:=first | assumption | omega) only[JO,h1,KI];try rfl
 .intro k;simp (disch:=first | assumption | omega) only[JO]
theorem Aiq:Ui N n=some (nmT n,0):=by
 have h3:=hn.1;have hl:=Abd hN hn;unfold Ui;try simp only[clR]
 rw[QX hN hn,Jy,show((0:Int) != 0)=false from rfl,cond_false];refine(dR (mk:=fun i acc=>((i:Int),acc)) n [] sO (fun l=>Jt (KP N 48 l) fun r62=>some (r62.fst,r62.snd)) ?_ ?_ N (by omega)).trans ?_
 .intro i acc hi hacc k;have h:=Vw hN (hn.2 _ (getD_mem [] hi));dsimp only[U2];rw[Int.toNat_natCast];generalize n.getD i []=r at *
  have p0:=h.p0;have p2:=h.p2;simp (disch:=first | assumption | omega) only[JO];refine(dR (mk:=fun j a=>((j:Int),a,acc)) r ([],0,[]) cZ (fun l=>Jt (Xh N l) fun r48=>Jt (KP N 49 [r48]) fun r50=>bif r50.snd != 0 then some ([],r50.snd)else chk (decide ((acc.length+1)*17<=140737488355328)) (k ((i:Int)+1,acc++[r50.fst]))) ?_ ?_ N (by omega)).trans ?_
  .intro j a hj ha k;have he:=h.att _ (getD_mem ([],0,[]) hj);simp (disch:=first | assumption | omega) only[JO,he,KI]
  .intro a k ha;simp (disch:=first | assumption | omega) only[JO]
  .have hlen:=h.len;have hlens:=h.lens;have e:Yf (r.map cZ)=PH r:=(Ajy _).symm;have w:KP N 49 [Yf (r.map cZ)]=_:=Av1 N 49 [Yf (r.map cZ)] (by omega) (by omega) hN (by simp) (by rw[Kw,e];omega);rw[Kw,e]at w;unfold Xh;rw[AzG (by rw[Dz];omega),UU (by rw[Dz];omega),UU (by omega)];simp only[Ip,cond_true,Jy];rw[e,w,Jy];simp (disch:=first | assumption | omega) only[JO,KI];try rfl
 .intro acc k ha;simp (disch:=first | assumption | omega) only[JO]
 .have w:KP N 48 (n.map sO)=_:=Av1 N 48 (n.map sO) (by omega) (by omega) hN (by rw[Dz];omega) (by unfold nmB at hl;omega);rw[w,Jy];rfl
theorem ZR:Qi N n=some (nmT n,0):=by
 have h3:=hn.1;have hl:=Abd hN hn;unfold Qi;try simp only[clR]
 rw[V5 hN hn,Jy,show((0:Int) != 0)=false from rfl,cond_false];refine(Xm (mk:=fun i t=>(t,(i:Int))) n [] sO (fun t=>Jt (JG N 48 [t]) fun r30=>some (r30,0)) ?_ ?_ N (by omega)).trans ?_
 .intro i t hi ht k;have h:=Vw hN (hn.2 _ (getD_mem [] hi));have hlen:=h.len;have hlens:=h.lens;have p2:=h.p2;have hat:=h.A3j;have e:Yf ((n.getD i []).map cZ)=PH (n.getD i []):=(Ajy _).symm;have hor:=Ang N ((n.getD i []).map cZ) hN (by rw[Dz];omega) (by omega);rw[e]at hor;have w:JG N 49 [PH (n.getD i [])]=_:=TS N 49 [PH (n.getD i [])] (by omega) (by omega) hN (by simp) (by rw[Kw];omega);rw[Kw]at w;have hw:Sp.elem 49 (PH (n.getD i []))=sO (n.getD i []):=rfl;unfold nmB at hl;simp (disch:=first | assumption | omega) only[JO,hat,hor,w,hw,KI]
 .intro t k;simp (disch:=first | assumption | omega) only[JO]
 .have w:JG N 48 [(n.map sO).flatten]=_:=TS N 48 [(n.map sO).flatten] (by omega) (by omega) hN (by simp) (by rw[Kw];unfold nmB at hl;omega);rw[w,Jy,Kw];rfl
theorem zL:WB N (nmT n)=some (nmC n,0):=by
 have h3:=hn.1;have hl:=Abd hN hn;have hT:=Abe hN hn;have hF:=Ati hN hn;have h1:=rY 48 (nmB n) (by decide) (by decide) hF.len;have h2:=(AwU hN hn).list;have hC:=Ahe hN hn;unfold WB;try simp only[clR]
 rw[XC N _ (by omega) (by omega),show dY (nmT n)=_ from h1,Jy];have h4:=Ou N (nmB n) (by omega) (by omega) (by omega);rw[h2]at h4;dsimp only[JX];simp (disch:=first | assumption | omega) only[JO,h4];refine(dR (mk:=fun i acc=>((i:Int),acc)) (n.map fun r=>JX 49 (PH r)) (0,[],[]) (fun e=>((LW N e).getD default).1) (fun acc=>Jt (NH N acc) fun r60=>bif r60 != 0 then some ([],r60)else some (acc,0)) ?_ ?_ N (by rw[Dz];omega)).trans ?_
 .intro i acc hi ha k;rw[Dz]at hi;have hr:=(Vw hN (hn.2 _ (getD_mem [] hi))).dec;have hg:(n.map fun r=>JX 49 (PH r)).getD i (0,[],[])=JX 49 (PH (n.getD i [])):=by rw[getD_lt _ _ _ (by rw[Dz];exact hi),Fb,getD_lt n i [] hi]
  have hlm:(n.map fun r=>JX 49 (PH r)).length=n.length:=Dz _;simp (disch:=first | assumption | omega) only[JO,hg,hlm,hr,KI,Option.getD_some];try rfl
 .intro acc k ha;simp (disch:=first | assumption | omega) only[JO]
 .have e:(n.map fun r=>JX 49 (PH r)).map (fun e=>((LW N e).getD default).1)=nmC n:=by
   rw[EC];exact Ea fun r hr=>by show((LW N _).getD default).1=_;rw[(Vw hN (hn.2 r hr)).dec];rfl
  rw[e,QX hN hC];rfl
end
end Go.Proofs.YtfgdgdnlglejbaaGreatDoor.Pl
