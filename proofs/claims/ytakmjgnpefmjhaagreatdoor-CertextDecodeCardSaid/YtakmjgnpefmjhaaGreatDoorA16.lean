import Derived.Test.YtakmjgnpefmjhaaGreatDoorA15
set_option linter.all false
namespace Go.Proofs.YtakmjgnpefmjhaaGreatDoor.Pl
open IntKind (i64 u8 u32 u64)
open Go Vm
def MO (l:Bs):Int×Bs×Bs:=((Sp.tag l:Int),Sp.content l,Sp.raw l)
def Nk (l:Bs):(Int×Bs×Bs)×Bs×Int:=if Sp.err l=0 then(MO l,Sp.rest l,0)else((0,[],[]),[],Sp.err l)
def Aqk {s:Bs} {p n:Nat} (hh:Sp.head s=(0,p,n)) (hp:p<=s.length):(if((s.length:Int) - p<n)then(some ((0,([]:Bs),([]:Bs)),([]:Bs),3):Option ((Int×Bs×Bs)×Bs×Int))else some ((((s.getD 0 0).toNat:Int),J9 s p (p+n),J9 s 0 (p+n)),J9 s (p+n) s.length,0))=some (Nk s):=by
 have e1: ∀ a b,(J9 s a b)=(s.take b).drop a:=fun a b=>rfl;by_cases h:(s.length:Int) - p<n
 .rw[Dq h];have:Sp.rd s=(3,0,0):=by unfold Sp.rd;rw[hh,Dq ⟨rfl,by show s.length - p<n;omega⟩]
  unfold Nk Sp.err;rw[this];rfl
 .rw[Dt h];have hr:Sp.rd s=(0,p,n):=by unfold Sp.rd;rw[hh,Dt (by intro hc;have:=hc.2;simp at this;omega)]
  have he:Sp.err s=0:=by unfold Sp.err;rw[hr]
  unfold Nk;rw[Dq he];unfold MO Sp.content Sp.raw Sp.rest;rw[hr,e1,e1,e1];congr 1;refine IB (IB ?_ (IB ?_ ?_)) (IB ?_ rfl)
  .show((s.getD 0 0).toNat:Int)=((Sp.tag s:Nat):Int);unfold Sp.tag;cases s<;>rfl
  .show(s.take (p+n)).drop p=(s.drop p).take n;rw[List.drop_take];congr 1;omega
  .show(s.take (p+n)).drop 0=_;rw[Gl]
  .show(s.take s.length).drop (p+n)=_;rw[Ez]
def take_snoc {α :Type} {l:List α} {i:Nat} (h:i<l.length):l.take (i+1)=l.take i++[l[i]]:=by rw[Fv,D9 h];rfl
def AiY {l:Bs} {i:Nat} (h:i<l.length):Sp.beNat (l.take (i+1))=Sp.beNat (l.take i)*256+(l[i]).toNat:=by rw[take_snoc h,Sp.As7]
def Ahu {l:Bs} (i:Nat) (hl:l.length<=3):Sp.beNat (l.take i)<16777216:=by
 have h1:=Sp.AwF (l.take i);have h2:256 ^ (l.take i).length<=256 ^ 3:=FQ (by omega) (by rw[DL];omega);have:(256:Nat) ^ 3=16777216:=by decide
 omega
def Ave {ρ :Type} (N:Nat) (l:Bs) (hl:l.length<=3) (hN:4<N) (kx:Int->Option ρ) :
 J6 (X:=Int×Int×List Int) (Y:=Int) (U3 fun t7b t52b l45568b k2 x3 =>
  if t52b<((List.map (fun(b:UInt8)=>((b.toNat:Int))) l).length:Int)then if(0:Int)<=t52b then if t52b<(l45568b.length:Int)then if t52b.toNat<l45568b.length then
   k2 (JY .or .i64 (i64.wrap (t7b*(256))) (i64.wrap (l45568b.getD t52b.toNat 0)),i64.wrap (t52b+(1:Int)),l45568b)else none else none else none
  else x3 t7b) N (0,0,List.map (fun(b:UInt8)=>((b.toNat:Int))) l) kx=kx (Sp.beNat l):=by
 refine Ox (fun x=> ∃ i,i<=l.length/\x=((Sp.beNat (l.take i):Int),(i:Int),List.map (fun(b:UInt8)=>((b.toNat:Int))) l)) (fun x=>l.length - x.2.1.toNat) (fun _=>kx (Sp.beNat l)) ?_ N _ ⟨0,by omega,rfl⟩ (by show l.length - 0<N;omega);rintro x ⟨i,hi,rfl⟩ k hk;show(if(i:Int)<_ then _ else _)=_;rw[D7];by_cases h:i<l.length
 .dsimp only;rw[Dq (by omega),Dq (by omega),Dq (by omega),Int.toNat_natCast,Dq h];have hb:=(l[i]).toNat_lt;have hs:=Ahu (l:=l) i hl;rw[show(List.map (fun(b:UInt8)=>((b.toNat:Int))) l).getD i 0=((l[i].toNat:Nat):Int) by simp [Dp,h]];rw[w64 (x:=((Sp.beNat (l.take i):Nat):Int)*256) (by omega) (by omega),w64 (x:=((l[i].toNat:Nat):Int)) (by omega) (by omega),w64 (x:=(i:Int)+1) (by omega) (by omega)];rw[show((Sp.beNat (l.take i):Nat):Int)*256=((Sp.beNat (l.take i)*256:Nat):Int) by omega,or8 _ _ (by omega) hb,<- AiY h];exact hk _ ⟨i+1,h,rfl⟩ (by show l.length - ((i:Int)+1).toNat<l.length - (i:Int).toNat;omega)
 .rw[Dt (by omega)];rw[GX (by omega)]
def Axv (N:Nat) (k:Nat) (h1:1<=k) (h3:k<=3):Agn N (k:Int)=some (Sp.leastOf k:Int):=by
 have:k=1\/k=2\/k=3:=by omega
 rcases this with rfl | rfl | rfl<;>rfl
set_option maxRecDepth 4000
def jR (N:Nat) (s:Bs) (hN:4<N) (hs:s.length<=1099511627776):ZB N s=some (Nk s):=by
 unfold ZB;try simp -zeta only[Ap]
 cases s with
 | nil=>rfl
 | cons a r =>
  have ha:=a.toNat_lt;have h0:((a::r:Bs)==([]:Bs))=false:=rfl;simp only[h0,cond_false,Eb,List.length_cons,Aji,AkU,AkV,AoI];simp only[ArM,Q3,EU,D6,E5,Dv];rw[w64 (by omega) (by omega),Ayo _ ha];by_cases h31:a.toNat % 32=31
  .have:Sp.err (a::r)=5:=by simp [Sp.err,Sp.rd,Sp.head,h31]
   unfold Nk;rw[this,Dq (by omega),Dq (by omega)];rfl
  .rw[Dq (by omega),Dt (by omega)];cases r with
   | nil =>
    have:Sp.err [a]=3:=by simp [Sp.err,Sp.rd,Sp.head,h31]
    unfold Nk;rw[this,Dq (by simp)];rfl
   | cons b c =>
    have hb:=b.toNat_lt;simp only[List.length_cons]at hs;simp only[FI,Eb,List.length_cons];rw[w64 (x:=((b.toNat:Nat):Int)) (by omega) (by omega),Dt (by omega),Dq (by omega)];by_cases h6:b.toNat=128\/131<b.toNat
    .have:Sp.err (a::b::c)=6:=by simp [Sp.err,Sp.rd,Sp.head,h31,h6,show ¬ b.toNat<128 by omega]
     unfold Nk;rw[this,Dq (by omega)];rfl
    .rw[Dt (by omega),Pz]
     have hend: ∀ p n:Nat,Sp.head (a::b::c)=(0,p,n)->p<=c.length+2->n<=131072->(if i64.wrap (((c.length+1+1:Nat):Int) - (p:Int))<(n:Int)then some ((0,([]:Bs),([]:Bs)),([]:Bs),3)
      else if(0:Int)<=(p:Int)then if(p:Int)<=i64.wrap ((p:Int)+(n:Int))then if i64.wrap ((p:Int)+(n:Int))<=((c.length+1+1:Nat):Int)then if(0:Int)<=i64.wrap ((p:Int)+(n:Int))then
       if i64.wrap ((p:Int)+(n:Int))<=((c.length+1+1:Nat):Int)then if(0:Int)<=i64.wrap ((p:Int)+(n:Int))then if i64.wrap ((p:Int)+(n:Int))<=((c.length+1+1:Nat):Int)then
       some ((((a.toNat:Nat):Int),J9 (a::b::c) (p:Int).toNat (i64.wrap ((p:Int)+(n:Int))).toNat,J9 (a::b::c) 0 (i64.wrap ((p:Int)+(n:Int))).toNat),J9 (a::b::c) (i64.wrap ((p:Int)+(n:Int))).toNat (c.length+1+1),0)
       else none else none else none else none else none else none else none:Option ((Int×Bs×Bs)×Bs×Int))=some (Nk (a::b::c)):=by
      intro p n hh hp hn;have:=Aqk (s:=a::b::c) hh (by simp;omega);rw[w64 (x:=((c.length+1+1:Nat):Int) - (p:Int)) (by omega) (by omega),w64 (x:=(p:Int)+(n:Int)) (by omega) (by omega)];rw[<- this];show(if((c.length+1+1:Nat):Int) - (p:Int)<(n:Int)then _ else _)=(if((c.length+1+1:Nat):Int) - (p:Int)<(n:Int)then _ else _);by_cases hlt:((c.length+1+1:Nat):Int) - (p:Int)<(n:Int)
      .rw[Dq hlt,Dq hlt]
      .rw[Dt hlt,Dt hlt,Dq (by omega),Dq (by omega),Dq (by omega),Dq (by omega),Dq (by omega),Dq (by omega),Dq (by omega)];rw[show((p:Int)+(n:Int)).toNat=p+n by omega,Int.toNat_natCast];rfl
     by_cases h128:b.toNat<128
     .rw[Dt (by omega)];exact hend 2 b.toNat (by simp [Sp.head,h31,h128]) (by omega) (by omega)
     .rw[Dq (by omega)];obtain⟨k,hk⟩: ∃ k:Nat,b.toNat=128+k:=⟨b.toNat - 128,by omega⟩
      rw[w64 (x:=((b.toNat:Nat):Int) - 128) (by omega) (by omega),show((b.toNat:Nat):Int) - 128=(k:Int) by omega,w64 (x:=2+(k:Int)) (by omega) (by omega)];by_cases hlen:c.length<k
      .rw[Dq (by omega)];have:Sp.err (a::b::c)=3:=by simp [Sp.err,Sp.rd,Sp.head,h31,h128,h6,show b.toNat - 128=k by omega,hlen]
       unfold Nk;rw[this];rfl
      .have hcut:J9 (a::b::c) 2 ((2+(k:Int)).toNat)=c.take k:=by
        rw[show(2+(k:Int)).toNat=k+2 by omega];rfl
       have hlk:(c.take k).length=k:=by rw[DL];omega
       rw[Dt (by omega),Dq (by omega),Dq (by omega),hcut,Dq (by omega)];rw[Ave N (c.take k) (by omega) hN,Axv N k (by omega) (by omega),Js];by_cases hbad:Sp.beNat (c.take k)<Sp.leastOf k\/131072<Sp.beNat (c.take k)
       .have:Sp.err (a::b::c)=6:=by simp [Sp.err,Sp.rd,Sp.head,h31,h128,h6,show b.toNat - 128=k by omega,hlen,hbad]
        unfold Nk;rw[Dq (by omega),this];rfl
       .rw[Dt (by omega)];have:=hend (2+k) (Sp.beNat (c.take k)) (by simp [Sp.head,h31,h128,h6,show b.toNat - 128=k by omega,hlen,hbad]) (by omega) (by omega);rw[show(((2+k:Nat)):Int)=2+(k:Int) by omega]at this;exact this
def AoX {ρ :Type} (N:Nat) (s:Bs) (k:Nat) (hk:k<=3) (hl:k+2<=s.length) (hs:s.length<=1099511627776) (hN:4<N) (kx:Int->Option ρ) :
 J6 (X:=Int×Int) (Y:=Int) (U2 fun t6b t9b k2 x3 =>
  if t9b<(k:Int)then if(0:Int)<=i64.wrap ((2:Int)+t9b)then if i64.wrap ((2:Int)+t9b)<(s.length:Int)then
   k2 (i64.wrap ((i64.wrap ((256:Int)*t6b))+i64.wrap ((s.getD ((i64.wrap ((2:Int)+t9b)).toNat) 0).toNat:Int)),i64.wrap (t9b+(1:Int)))else none else none
  else x3 t6b) N (0,0) kx=kx (Sp.beNat ((s.drop 2).take k)):=by
 have hlen:((s.drop 2).take k).length=k:=by rw[DL,ED];omega
 generalize hL:(s.drop 2).take k=l at hlen;refine Ox (fun x=> ∃ i,i<=k/\x=((Sp.beNat (l.take i):Int),(i:Int))) (fun x=>k - x.2.toNat) (fun _=>kx (Sp.beNat l)) ?_ N _ ⟨0,by omega,rfl⟩ (by show k - 0<N;omega);rintro x ⟨i,hi,rfl⟩ kk hkk;show(if(i:Int)<_ then _ else _)=_;by_cases h:i<k
 .have hb:=(l[i]'(by omega)).toNat_lt;have hs':=Ahu (l:=l) i (by omega);dsimp only;rw[Dq (by omega),w64 (x:=2+(i:Int)) (by omega) (by omega),Dq (by omega),Dq (by omega),show(2+(i:Int)).toNat=i+2 by omega]
  have e:s.getD (i+2) 0=l[i]'(by omega):=by
   have:l[i]? =s[i+2]? :=by rw[<- hL,F5,Dq h,Ff,Nat.add_comm]
   rw[Dp,<- this,D9 (by omega)];rfl
  rw[e,w64 (x:=256*((Sp.beNat (l.take i):Nat):Int)) (by omega) (by omega),w64 (x:=(((l[i]'(by omega)).toNat:Nat):Int)) (by omega) (by omega),w64 (x:=(i:Int)+1) (by omega) (by omega),w64 (by omega) (by omega)];have:=AiY (l:=l) (i:=i) (by omega);rw[show 256*((Sp.beNat (l.take i):Nat):Int)+(((l[i]'(by omega)).toNat:Nat):Int)=((Sp.beNat (l.take (i+1)):Nat):Int) by omega];exact hkk _ ⟨i+1,h,rfl⟩ (by show k - ((i:Int)+1).toNat<k - (i:Int).toNat;omega)
 .rw[Dt (by omega),GX (by omega)]
def AvD (k:Nat) (h1:1<=k) (h3:k<=3):(([0,128,256,65536]:List Int).getD k 0)=(Sp.leastOf k:Int):=by
 have:k=1\/k=2\/k=3:=by omega
 rcases this with rfl | rfl | rfl<;>rfl
def Zb (N:Nat) (s:Bs) (hN:4<N) (hs:s.length<=1099511627776):VB N s=some (Nk s):=by
 unfold VB;try simp -zeta only[Ap]
 cases s with
 | nil=>rfl
 | cons a r =>
  have ha:=a.toNat_lt;simp only[Eb,List.length_cons,Aji,AkU,AkV,AoI];simp only[ArM,Q3,EU,D6,E5,Dv];rw[Dt (by omega),Dq (by omega)];have ht:((a.toNat:Nat):Int).tmod 32=((a.toNat % 32:Nat):Int):=by rw[Gg (by omega)];omega
  rw[ht];by_cases h31:a.toNat % 32=31
  .have:Sp.err (a::r)=5:=by simp [Sp.err,Sp.rd,Sp.head,h31]
   unfold Nk;rw[this,Dq (by omega)];rfl
  .rw[Dt (by omega)];cases r with
   | nil =>
    have:Sp.err [a]=3:=by simp [Sp.err,Sp.rd,Sp.head,h31]
    unfold Nk;rw[this];rfl
   | cons b c =>
    have hb:=b.toNat_lt;simp only[List.length_cons]at hs;simp only[FI,Eb,List.length_cons];rw[w64 (x:=((b.toNat:Nat):Int)) (by omega) (by omega),Dt (by omega),Dq (by omega)];by_cases h6:b.toNat=128\/131<b.toNat
    .have:Sp.err (a::b::c)=6:=by simp [Sp.err,Sp.rd,Sp.head,h31,h6,show ¬ b.toNat<128 by omega]
     unfold Nk;rw[this,Dq (by omega)];rfl
    .rw[Dt (by omega),Pz]
     have hend: ∀ p n:Nat,Sp.head (a::b::c)=(0,p,n)->p<=c.length+2->n<=131072->(if i64.wrap (((c.length+1+1:Nat):Int) - (p:Int))<(n:Int)then some ((0,([]:Bs),([]:Bs)),([]:Bs),3)
      else if(0:Int)<((c.length+1+1:Nat):Int)then if(0:Int)<=(p:Int)then if(p:Int)<=i64.wrap ((p:Int)+(n:Int))then if i64.wrap ((p:Int)+(n:Int))<=((c.length+1+1:Nat):Int)then if(0:Int)<=i64.wrap ((p:Int)+(n:Int))then
       if i64.wrap ((p:Int)+(n:Int))<=((c.length+1+1:Nat):Int)then if(0:Int)<=i64.wrap ((p:Int)+(n:Int))then if i64.wrap ((p:Int)+(n:Int))<=((c.length+1+1:Nat):Int)then
       some ((i64.wrap ((a.toNat:Nat):Int),J9 (a::b::c) (p:Int).toNat (i64.wrap ((p:Int)+(n:Int))).toNat,J9 (a::b::c) 0 (i64.wrap ((p:Int)+(n:Int))).toNat),J9 (a::b::c) (i64.wrap ((p:Int)+(n:Int))).toNat (c.length+1+1),0)
       else none else none else none else none else none else none else none else none:Option ((Int×Bs×Bs)×Bs×Int))=some (Nk (a::b::c)):=by
      intro p n hh hp hn;have:=Aqk (s:=a::b::c) hh (by simp;omega);rw[w64 (x:=((c.length+1+1:Nat):Int) - (p:Int)) (by omega) (by omega),w64 (x:=(p:Int)+(n:Int)) (by omega) (by omega),w64 (x:=((a.toNat:Nat):Int)) (by omega) (by omega)];rw[<- this];show(if((c.length+1+1:Nat):Int) - (p:Int)<(n:Int)then _ else _)=(if((c.length+1+1:Nat):Int) - (p:Int)<(n:Int)then _ else _);by_cases hlt:((c.length+1+1:Nat):Int) - (p:Int)<(n:Int)
      .rw[Dq hlt,Dq hlt]
      .rw[Dt hlt,Dt hlt,Dq (by omega),Dq (by omega),Dq (by omega),Dq (by omega),Dq (by omega),Dq (by omega),Dq (by omega),Dq (by omega)];rw[show((p:Int)+(n:Int)).toNat=p+n by omega,Int.toNat_natCast];rfl
     by_cases h128:b.toNat<128
     .rw[Dt (by omega)];exact hend 2 b.toNat (by simp [Sp.head,h31,h128]) (by omega) (by omega)
     .rw[Dq (by omega)];obtain⟨k,hk⟩: ∃ k:Nat,b.toNat=128+k:=⟨b.toNat - 128,by omega⟩
      rw[w64 (x:=((b.toNat:Nat):Int) - 128) (by omega) (by omega),show((b.toNat:Nat):Int) - 128=(k:Int) by omega,w64 (x:=2+(k:Int)) (by omega) (by omega)];by_cases hlen:c.length<k
      .rw[Dq (by omega)];have:Sp.err (a::b::c)=3:=by simp [Sp.err,Sp.rd,Sp.head,h31,h128,h6,show b.toNat - 128=k by omega,hlen]
       unfold Nk;rw[this];rfl
      .rw[Dt (by omega)];have hd:=fun kx=>AoX (ρ :=(Int×Bs×Bs)×Bs×Int) N (a::b::c) k (by omega) (by simp;omega) (by simp;omega) hN kx;refine Ey (hd _) ?_;show(if(0:Int)<=(k:Int)then _ else _)=_;have hdr:((a::b::c).drop 2).take k=c.take k:=rfl;rw[hdr,Dq (by omega),Dq (by omega),Int.toNat_natCast,Dq (by omega),AvD k (by omega) (by omega)];by_cases hbad:Sp.beNat (c.take k)<Sp.leastOf k\/131072<Sp.beNat (c.take k)
       .have:Sp.err (a::b::c)=6:=by simp [Sp.err,Sp.rd,Sp.head,h31,h128,h6,show b.toNat - 128=k by omega,hlen,hbad]
        unfold Nk;rw[Dq (by omega),this];rfl
       .rw[Dt (by omega)];have:=hend (2+k) (Sp.beNat (c.take k)) (by simp [Sp.head,h31,h128,h6,show b.toNat - 128=k by omega,hlen,hbad]) (by omega) (by omega);rw[show(((2+k:Nat)):Int)=2+(k:Int) by omega]at this;exact this
def KG (s:Bs):(Int×Bs×Bs)×Int:=if Sp.S9 s=0 then(MO s,0)else((0,[],[]),Sp.S9 s)
def kR {s:Bs} (h:Sp.S9 s=0):Sp.err s=0/\Sp.rest s=[]:=by
 unfold Sp.S9 at h;by_cases he:Sp.err s=0
 .rw[Dt (by simp [he])]at h;by_cases hr:Sp.rest s=[]
  .exact⟨he,hr⟩
  .rw[Dt hr]at h;cases h
 .rw[Dq he]at h;exact absurd h he
def eU (N:Nat) (s:Bs) (hN:4<N) (hs:s.length<=1099511627776):aH N s=some (KG s):=by
 unfold aH;rw[jR N s hN hs,Js];unfold Nk KG Sp.S9;by_cases he:Sp.err s=0
 .rw[Dq he];by_cases hr:Sp.rest s=[]
  .simp [he,hr,Q3]
  .simp [he,hr,Q3]
 .rw[Dt he];simp [he,Q3]
def Xx (N:Nat) (s:Bs) (hN:4<N) (hs:s.length<=1099511627776):TF N s=some (KG s):=by
 unfold TF;rw[Zb N s hN hs,Js];unfold Nk KG Sp.S9;by_cases he:Sp.err s=0
 .rw[Dq he];by_cases hr:Sp.rest s=[]
  .simp [he,hr]
  .have:0<(Sp.rest s).length:=by cases h:Sp.rest s with | nil=>exact absurd h hr | cons _ _=>simp
   simp [he,hr,this,Q3]
 .rw[Dt he];simp [he,Q3]
def Ab0 (s:Bs):Sp.tag s<256:=Hm _
def VV (e:Int×Bs×Bs) (d:Nat):Int:=if e.1 / 32 % 2=1 then Sp.within (e.2.1.length+1) d e.2.1 else 0
def Ach: ∀(f g d:Nat) (l:Bs),l.length<f->l.length<g->Sp.within f d l=Sp.within g d l:=by
 intro f
 induction f with
 | zero=>intro g d l h;omega
 | succ f ih =>
  intro g d l hf hg;cases g with
  | zero=>omega
  | succ g =>
   show(if l=[]then _ else _)=if l=[]then _ else _;by_cases hl:l=[]
   .rw[Dq hl,Dq hl]
   .rw[Dt hl,Dt hl];by_cases he:Sp.err l=0
    .have h1:=Sp.TB l he;have h2:=Sp.qH l he;rw[ih g (d+1) (Sp.content l) (by omega) (by omega),ih g d (Sp.rest l) (by omega) (by omega)]
    .rw[Dq he,Dq he]
def jS {B:Bs->(Bs->Option Int)->(Unit->Option Int)->Option Int} {kx:Unit->Option Int} (d L:Nat)
 (hB: ∀ x k,x≠ []->x.length<=L->B x k kx=if Sp.err x≠0 then some (Sp.err x)else if 16<=d then some 8 else if VV (MO x) (d+1)≠0 then some (VV (MO x) (d+1))else k (Sp.rest x))
 (hend: ∀ k,B [] k kx=some 0) (N:Nat) (x:Bs) (hx:x.length<=L) (hN:x.length<N):J6 B N x kx=some (Sp.within (x.length+1) d x):=by
 refine Ox (fun x=>x.length<=L) (fun x=>x.length) (fun x=>some (Sp.within (x.length+1) d x)) ?_ N x hx hN;intro x hx k hk;by_cases h0:x=[]
 .subst h0;rw[hend];rfl
 .rw[hB x k h0 hx];by_cases he:Sp.err x=0
  .rw[Dt (by simp [he])];by_cases hd:16<=d
   .rw[Dq hd,Sp.ArB _ _ _ h0 he hd]
   .rw[Dt hd];have h1:=Sp.TB x he;have h2:=Sp.qH x he
    have hin:VV (MO x) (d+1)=Sp.inner x.length (d+1) (Sp.tag x) (Sp.content x):=by
     unfold VV Sp.inner Sp.cons MO;rw[Ach _ x.length (d+1) (Sp.content x) (Ig _) h1];have:(((Sp.tag x:Nat):Int) / 32 % 2=1)↔(Sp.tag x / 32 % 2=1):=by omega
     simp [this]
    rw[hin];by_cases hi:Sp.inner x.length (d+1) (Sp.tag x) (Sp.content x)=0
    .rw[Dt (by simp [hi]),hk _ (by show(Sp.rest x).length<=L;omega) h2,Sp.ArC _ _ _ h0 he hd hi];rw[Ach _ x.length d (Sp.rest x) (Ig _) h2]
    .rw[Dq hi,Sp.Au6 _ _ _ h0 he hd hi]
  .rw[Dq he,Sp.Au7 _ _ _ h0 he]
def Aw0 (N:Nat) (hN:4<N): ∀(m n:Nat),m<n-> ∀(e:Int×Bs×Bs) (d:Nat),d+m=16->0<=e.1->e.1<256->e.2.1.length<N->e.2.1.length<=1099511627776 ->
 VL N n e (d:Int)=some (VV e d):=by
 intro m
 induction m with
 | zero =>
  intro n hn e d hd h0 h1 h2 h3;obtain⟨n,rfl⟩: ∃ k,n=k+1:=⟨n - 1,by omega⟩
  show TR N (VL N n) e d=_;unfold TR VV;obtain⟨t,ht⟩: ∃ t:Nat,e.1=(t:Int):=⟨e.1.toNat,by omega⟩
  rw[ht,Ayp t (by omega)];by_cases hc:t / 32 % 2=1
  .rw[Dq hc,Dq (by omega)];refine jS d e.2.1.length (fun x k hx hl=> ?_) (fun k=>rfl) N _ (DK _) h2;have:(x==([]:Bs))=false:=by cases x with | nil=>exact absurd rfl hx | cons _ _=>rfl
   dsimp only;rw[this,jR N x hN (by omega),Js];unfold Nk;simp only[Q3,EO,D6,Ee];by_cases he:Sp.err x=0
   .rw[Dq he];simp only[he,ne_eq,GU,Gf,Ir];rw[Dq (by omega),Dq (by omega)]
   .rw[Dt he];simp [he]
  .rw[Dt hc,Dt (by omega)];rfl
 | succ m ih =>
  intro n hn e d hd h0 h1 h2 h3;obtain⟨n,rfl⟩: ∃ k,n=k+1:=⟨n - 1,by omega⟩
  show TR N (VL N n) e d=_;unfold TR VV;obtain⟨t,ht⟩: ∃ t:Nat,e.1=(t:Int):=⟨e.1.toNat,by omega⟩
  rw[ht,Ayp t (by omega)];by_cases hc:t / 32 % 2=1
  .rw[Dq hc,Dq (by omega)];refine jS d e.2.1.length (fun x k hx hl=> ?_) (fun k=>rfl) N _ (DK _) h2;have:(x==([]:Bs))=false:=by cases x with | nil=>exact absurd rfl hx | cons _ _=>rfl
   dsimp only;rw[this,jR N x hN (by omega),Js];unfold Nk;simp only[Q3,EO,D6,Ee];by_cases he:Sp.err x=0
   .rw[Dq he];simp only[he,ne_eq,GU,Gf,Ir];have hcl:=Sp.TB x he;have htl:=Ab0 x;rw[Dt (by omega),Dt (by omega),w64 (by omega) (by omega),show(d:Int)+1=((d+1:Nat):Int) by omega,ih n (by omega) (MO x) (d+1) (by omega) (by show(0:Int)<=((Sp.tag x:Nat):Int);omega) (by show((Sp.tag x:Nat):Int)<256;omega) (by show(Sp.content x).length<N;omega) (by show(Sp.content x).length<=_;omega),Js]
   .rw[Dt he];simp [he]
  .rw[Dt hc,Dt (by omega)];rfl
def AwQ (N:Nat) (hN:4<N): ∀(m n:Nat),m<n-> ∀(e:Int×Bs×Bs) (d:Nat),d+1+m=16->0<=e.1->e.1<256->e.2.1.length<N->e.2.1.length<=1099511627776 ->
 Uf N n e (d:Int)=some (VV e (d+1)):=by
 intro m
 induction m with
 | zero =>
  intro n hn e d hd h0 h1 h2 h3;obtain⟨n,rfl⟩: ∃ k,n=k+1:=⟨n - 1,by omega⟩
  show SB N (Uf N n) e d=_;unfold SB VV;rw[Hw h0,w64 (by omega) (by omega),Gg (by omega)];by_cases hc:e.1 / 32 % 2=1
  .rw[Dq hc,hc];refine jS (d+1) e.2.1.length (fun x k hx hl=> ?_) (fun k=>rfl) N _ (DK _) h2;have:0<x.length:=by cases x with | nil=>exact absurd rfl hx | cons _ _=>simp
   dsimp only;rw[Zb N x hN (by omega),Js];unfold Nk;simp only[Q3,EO,D6];rw[Dq (by omega),w64 (by omega) (by omega)];by_cases he:Sp.err x=0
   .rw[Dq he];simp only[he,ne_eq,GU,Gf];rw[Dq (by omega),Dq (by omega)]
   .rw[Dt he];simp [he]
  .rw[Dt hc,show e.1 / 32 % 2=0 by omega];rfl
 | succ m ih =>
  intro n hn e d hd h0 h1 h2 h3;obtain⟨n,rfl⟩: ∃ k,n=k+1:=⟨n - 1,by omega⟩
  show SB N (Uf N n) e d=_;unfold SB VV;rw[Hw h0,w64 (by omega) (by omega),Gg (by omega)];by_cases hc:e.1 / 32 % 2=1
  .rw[Dq hc,hc];refine jS (d+1) e.2.1.length (fun x k hx hl=> ?_) (fun k=>rfl) N _ (DK _) h2;have:0<x.length:=by cases x with | nil=>exact absurd rfl hx | cons _ _=>simp
   dsimp only;rw[Zb N x hN (by omega),Js];unfold Nk;simp only[Q3,EO,D6];rw[Dq (by omega),w64 (by omega) (by omega)];by_cases he:Sp.err x=0
   .rw[Dq he];simp only[he,ne_eq,GU,Gf];have hcl:=Sp.TB x he;have htl:=Ab0 x;rw[Dt (by omega),Dt (by omega),show(d:Int)+1=((d+1:Nat):Int) by omega,ih n (by omega) (MO x) (d+1) (by omega) (by show(0:Int)<=((Sp.tag x:Nat):Int);omega) (by show((Sp.tag x:Nat):Int)<256;omega) (by show(Sp.content x).length<N;omega) (by show(Sp.content x).length<=_;omega),Js]
   .rw[Dt he];simp [he]
  .rw[Dt hc,show e.1 / 32 % 2=0 by omega];rfl
def AjB {s:Bs} (h:Sp.S9 s=0):VV (MO s) 1=Sp.chk s:=by
 unfold Sp.chk;rw[Dt (by simp [h])];unfold VV Sp.inner Sp.cons MO;have h1:=Sp.TB s (kR h).1;rw[Ach _ (s.length+1) 1 (Sp.content s) (Ig _) (by omega)];have:(((Sp.tag s:Nat):Int) / 32 % 2=1)↔(Sp.tag s / 32 % 2=1):=by omega
 simp [this]
def Agm (N:Nat) (s:Bs) (hN:16<N) (hs:s.length<=1099511627776) (hl:s.length<N):lF N s=some (Sp.chk s):=by
 unfold lF;rw[eU N s (by omega) hs,Js];unfold KG;by_cases h:Sp.S9 s=0
 .have h1:=Sp.TB s (kR h).1;have h2:=Ab0 s;rw[Dq h,<- AjB h];have:=Aw0 N (by omega) 15 N (by omega) (MO s) 1 rfl (by show(0:Int)<=((Sp.tag s:Nat):Int);omega) (by show((Sp.tag s:Nat):Int)<256;omega) (by show(Sp.content s).length<N;omega) (by show(Sp.content s).length<=_;omega);show Jq (VL N N (MO s) 1) _=_;rw[show(1:Int)=((1:Nat):Int)from rfl,this,Js]
 .rw[Dt h];have:Sp.chk s=Sp.S9 s:=by unfold Sp.chk;rw[Dq h]
  simp [Q3,h,this]
def AaW (N:Nat) (s:Bs) (hN:16<N) (hs:s.length<=1099511627776) (hl:s.length<N):YB N s=some (Sp.chk s):=by
 unfold YB;rw[Xx N s (by omega) hs,Js];unfold KG;by_cases h:Sp.S9 s=0
 .have h1:=Sp.TB s (kR h).1;have h2:=Ab0 s;rw[Dq h,<- AjB h];have:=AwQ N (by omega) 15 N (by omega) (MO s) 0 rfl (by show(0:Int)<=((Sp.tag s:Nat):Int);omega) (by show((Sp.tag s:Nat):Int)<256;omega) (by show(Sp.content s).length<N;omega) (by show(Sp.content s).length<=_;omega);show Jq (Uf N N (MO s) 0) _=_;rw[show(0:Int)=((0:Nat):Int)from rfl,this,Js]
 .rw[Dt h];have:Sp.chk s=Sp.S9 s:=by unfold Sp.chk;rw[Dq h]
  simp [Q3,h,this]
def Ajq (s:Bs):(s==([]:Bs))=decide (s=[]):=by cases s<;>rfl
def xI {α :Type} {s:List α} (h:s≠ []):0<s.length:=by cases s with | nil=>exact absurd rfl h | cons _ _=>simp
def TS (t:Nat) (c:Bs):Option Bs:=if c.length<=131072 then some (Sp.elem t c)else none
def Aw1 {t:Nat} {c:Bs}:((TS t c).getD []).length<=131077:=by
 unfold TS;by_cases h:c.length<=131072
 .rw[Dq h];have:=Sp.Kw t c;show(Sp.elem t c).length<=_;omega
 .rw[Dt h];simp
def wM (n:Nat):Vm.byteOf (u8.wrap (n:Int))=UInt8.ofNat n:=by rw[w8];unfold Vm.byteOf;rw[show((n:Int) % 256).toNat=n % 256 by omega];apply Jo;simp
def Apg (n k:Nat):(n:Int).fdiv (k:Int)=((n / k:Nat):Int):=by rw[Int.fdiv_eq_ediv_of_nonneg _ (by omega)];rfl
def head_eq {ρ :Type} (t n:Nat) (ht:t<256) (K:List Int->Option ρ) (K':Bs->Option ρ) (hK: ∀ l,List.all l isByte=true->l.length<=5->K l=K' (List.map Vm.byteOf l)) :
 (bif decide ((n:Int)<(128:Int))then K ([u8.wrap (t:Int),u8.wrap (n:Int)]:List Int)
   else bif decide ((n:Int)<(256:Int))then K ([u8.wrap (t:Int),129,u8.wrap (n:Int)]:List Int)
   else bif decide ((n:Int)<(65536:Int))then K ([u8.wrap (t:Int),130,u8.wrap ((n:Int).fdiv (256)),u8.wrap (n:Int)]:List Int)
   else K ([u8.wrap (t:Int),131,u8.wrap ((n:Int).fdiv (65536)),u8.wrap ((n:Int).fdiv (256)),u8.wrap (n:Int)]:List Int))=K' (UInt8.ofNat t::Sp.sK n):=by
 have f1:=Apg n 256;have f2:=Apg n 65536;have g1: ∀ k:Nat,isByte (k:Int)=decide (k<256):=fun k=>by unfold isByte;simp;omega
 rw[show((256:Nat):Int)=256 from rfl]at f1;rw[show((65536:Nat):Int)=65536 from rfl]at f2;rw[f1,f2];unfold Sp.sK;simp only[OJ];by_cases h1:n<128
 .rw[Dq (by omega),Dq h1,hK _ (by simp [kL]) (by simp)];simp only[Ej,Fq,wM]
 .rw[Dt (by omega),Dt h1];by_cases h2:n<256
  .rw[Dq (by omega),Dq h2,hK _ (by simp [kL];decide) (by simp)];simp only[Ej,Fq,wM];rfl
  .rw[Dt (by omega),Dt h2];by_cases h3:n<65536
   .rw[Dq (by omega),Dq h3,hK _ (by simp [kL];decide) (by simp)];simp only[Ej,Fq,wM];rfl
   .rw[Dt (by omega),Dt h3,hK _ (by simp [kL];decide) (by simp)];simp only[Ej,Fq,wM];rfl
def mQ (N t:Nat) (l:List Bs) (ht:t<256) (h31:t % 32≠31) (hN:l.length<N) (hl:l.length<=1099511627776) (hs:l.flatten.length<=140737488355328):dG N (t:Int) l=some ((TS t l.flatten).getD [],if(TS t l.flatten).isNone then 6 else 0):=by
 unfold dG;try simp -zeta only[Ap]
 simp only[Aji,AkU,AkV,ArL,AoN,AoI];rw[show(decide ((t:Int)<0)||decide ((t:Int)>255)||(t:Int).tmod 32==31)=false by rw[Gg (by omega)];simp;omega,cond_false];refine Ey (Ox (fun x=> ∃ i,i<=l.length/\x=((l.take i).flatten,(i:Int))) (fun x=>l.length - x.2.toNat) (fun _=>some ((TS t l.flatten).getD [],if(TS t l.flatten).isNone then 6 else 0)) ?_ N _ ⟨0,by omega,rfl⟩ (by show l.length - 0<N;omega)) rfl;rintro x ⟨i,hi,rfl⟩ k hk;show(bif decide ((i:Int)<(l.length:Int))then _ else _)=_;by_cases h:i<l.length
 .simp only[OJ,Xf,Int.toNat_natCast];have e:(l.take i).flatten++l.getD i []=(l.take (i+1)).flatten:=by rw[take_snoc h,FH,show l.getD i []=l[i] by simp [Dp,h]];simp
  have hle:(l.take (i+1)).flatten.length<=l.flatten.length:=by
   conv=>rhs;rw[<- FZ (i+1) l,FH,Dx]
   omega
  have e2:(l.take i).flatten.length+(l.getD i []).length<=140737488355328:=by rw[<- Dx,e];omega
  rw[Dq (by omega),Dq (by omega),Dq (by omega),Dq e2,e,w64 (by omega) (by omega)];exact hk _ ⟨i+1,h,rfl⟩ (by show l.length - ((i:Int)+1).toNat<l.length - (i:Int).toNat;omega)
 .have hil:i=l.length:=by omega
  subst hil;rw[OJ,Dt (by omega)];dsimp only;rw[Ez];unfold TS;by_cases h:l.flatten.length<=131072
  .rw[Dq h,OJ,Dt (by omega),Pz];have:=head_eq t l.flatten.length ht (fun l':List Int=>Vm.chk (List.all l' isByte)<|Vm.chk (decide ((List.map Vm.byteOf l').length+l.flatten.length<=140737488355328))<|some ((List.map Vm.byteOf l')++l.flatten,(0:Int))) (fun h=>some (h++l.flatten,0)) (fun l' hl' hl5=>by rw[hl',J8,Xf,Dq (by rw[D7];omega)]);refine Ey ?_ this;simp only[OJ];by_cases h1:l.flatten.length<128
   .rw[Dt (by omega),Dt (by omega),Dt (by omega),Dq (by omega)]
   .by_cases h2:l.flatten.length<256
    .rw[Dt (by omega),Dt (by omega),Dq (by omega),Dt (by omega),Dq (by omega)]
    .by_cases h3:l.flatten.length<65536
     .rw[Dt (by omega),Dq (by omega),Dt (by omega),Dt (by omega),Dq (by omega)]
     .rw[Dq (by omega),Dt (by omega),Dt (by omega),Dt (by omega)]
  .rw[Dt h,OJ,Dq (by omega)];rfl
def Aoz (N t:Nat) (l:List Bs) (ht:t<256) (h31:t % 32≠31) (hN:l.length<N) (hl:l.length<=1099511627776) (hs:l.flatten.length<=140737488355328):Ru N (t:Int) l=some ((TS t l.flatten).getD [],if(TS t l.flatten).isNone then 2 else 0):=by unfold Ru;rw[mQ N t l ht h31 hN hl hs,Js];cases TS t l.flatten<;>rfl
abbrev El:=Int×Bs×Bs
def YS:Nat->Bs->List El->List El×Int
 | 0,_,a=>(a,0)
 | f+1,s,a=>if s=[]then(a,0)else if Sp.err s≠0 then([],Sp.err s)else YS f (Sp.rest s) (a++[MO s])
def JG (s:Bs):List El×Int:=YS (s.length+1) s []
def AjO: ∀(f g:Nat) (s:Bs) (a:List El),s.length<f->s.length<g->YS f s a=YS g s a:=by
 intro f
 induction f with
 | zero=>intro g s a h;omega
 | succ f ih =>
  intro g s a hf hg;cases g with
  | zero=>omega
  | succ g =>
   show(if s=[]then(a,(0:Int))else if Sp.err s≠0 then([],Sp.err s)else YS f (Sp.rest s) (a++[MO s]))=(if s=[]then(a,0)else if Sp.err s≠0 then([],Sp.err s)else YS g (Sp.rest s) (a++[MO s]));by_cases h:s=[]
   .rw[Dq h,Dq h]
   .rw[Dt h,Dt h];by_cases he:Sp.err s=0
    .have:=Sp.qH s he;rw[Dt (by simp [he]),Dt (by simp [he])];exact ih g _ _ (by omega) (by omega)
    .rw[Dq he,Dq he]
def YQ (M:Nat) (e:El):Prop:= ∃ t:Bs,Sp.err t=0/\e=MO t/\t.length<=M
structure Good (M:Nat) (l:List El):Prop where
 len:l.length<=M
 all: ∀ e∈l,YQ M e
 AxJ:(l.map (·.2.2)).flatten.length<=M
def YQ.mono {M K:Nat} {e:El} (h:YQ M e) (hk:M<=K):YQ K e:=by obtain⟨t,h1,h2,h3⟩:=h;exact⟨t,h1,h2,by omega⟩
def YQ.content {M:Nat} {e:El} (h:YQ M e):e.2.1.length+2<=e.2.2.length/\e.2.2.length<=M/\0<=e.1/\e.1<256:=by obtain⟨t,h1,rfl,h3⟩:=h;have:=Sp.Ac3 t h1;have hr:=Sp.Aks t h1;have hc:=Sp.Aa8 t h1;have ht:=Ab0 t;show(Sp.content t).length+2<=(Sp.raw t).length/\(Sp.raw t).length<=M/\0<=((Sp.tag t:Nat):Int)/\((Sp.tag t:Nat):Int)<256;omega
def AxI {s:Bs}:Sp.raw s++Sp.rest s=s:=FZ _ _
def Atz (M:Nat): ∀(f:Nat) (s:Bs) (a:List El),s.length<=M->Good M a->(a.map (·.2.2)).flatten.length+s.length<=M->a.length+s.length<=M->Good M (YS f s a).1:=by
 intro f
 induction f with
 | zero=>intro s a _ h _ _;exact h
 | succ f ih =>
  intro s a hs ha hr hl;show Good M (if s=[]then(a,(0:Int))else if Sp.err s≠0 then([],Sp.err s)else YS f (Sp.rest s) (a++[MO s])).1;by_cases h:s=[]
  .rw[Dq h];exact ha
  .rw[Dt h];by_cases he:Sp.err s=0
   .rw[Dt (by simp [he])];have h1:=Sp.qH s he;have h2:(Sp.raw s).length+(Sp.rest s).length=s.length:=by rw[<- Dx,AxI]
    have hq:((a++[MO s]).map (·.2.2)).flatten.length=(a.map (·.2.2)).flatten.length+(Sp.raw s).length:=by rw[FC,FH,Dx];congr 1;show(Sp.raw s++[]).length=_;rw[DW]
    refine ih _ _ (by omega) ⟨by simp;omega,?_,by omega⟩ (by omega) (by simp;omega);intro e he';rcases DR.1 he' with h' | h'
    .exact ha.all e h'
    .rw[DY.1 h'];exact⟨s,he,rfl,hs⟩
   .rw[Dq he];exact⟨by simp,by simp,by simp⟩
def KC (s:Bs):Good s.length (JG s).1:=Atz _ _ _ _ (DK _) ⟨by simp,by simp,by simp⟩ (by simp) (by simp)
def Good.mono {M K:Nat} {l:List El} (h:Good M l) (hk:M<=K):Good K l:=⟨by have:=h.len;omega,fun e he=>(h.all e he).mono hk,by have:=h.AxJ;omega⟩
def Good.tail {M:Nat} {e:El} {l:List El} (h:Good M (e::l)):Good M l:=⟨by have:=h.len;simp at this;omega,fun e he=>h.all e (Dz _ he),by have:=h.AxJ;rw[Ej,List.flatten_cons,Dx]at this;omega⟩
theorem NP (N:Nat) (s:Bs) (hN:4<N) (hs:s.length<=1099511627776) (hl:s.length<N):QN N s=some (JG s):=by
 unfold QN JG;try simp -zeta only[Ap]
 refine Ox (F:=fun x=>some (YS (x.1.length+1) x.1 x.2)) (fun x=>x.1.length+x.2.length<=s.length) (fun x=>x.1.length) ?_ N (s,[]) (by simp) hl;rintro ⟨t,a⟩ hI k hk;dsimp only at hI hk;dsimp only[U2];by_cases h:t=[]
 .subst h;rfl
 .have hp:=xI h;rw[Ajq,Du h,Ee,cond_true];show(Jq (ZB N t) _:Option (List El×Int))=some (if t=[]then(a,0)else if Sp.err t≠0 then([],Sp.err t)else YS t.length (Sp.rest t) (a++[MO t]));rw[Dt h,jR N t hN (by omega),Js];by_cases he:Sp.err t=0
  .have hr:Nk t=(MO t,Sp.rest t,0):=by unfold Nk;rw[Dq he]
   have hlt:=Sp.qH t he;rw[hr,Dt (by simp [he])];show Vm.chk (decide ((a.length+1)*41<=140737488355328)) (k (Sp.rest t,a++[MO t]))=_;rw[Xf,Dq (by omega),hk (Sp.rest t,a++[MO t]) (by simp;omega) hlt];exact congrArg some (AjO _ _ _ _ (by show(Sp.rest t).length<(Sp.rest t).length+1;omega) hlt)
  .have hr:Nk t=((0,[],[]),[],Sp.err t):=by unfold Nk;rw[Dt he]
   rw[hr,Dq he];show(bif Sp.err t != 0 then some (([]:List El),Sp.err t)else _)=_;rw[show(Sp.err t != 0)=true by simp [he]];rfl
theorem QL (N:Nat) (s:Bs) (hN:4<N) (hs:s.length<=1099511627776) (hl:s.length<N):V9 N s=some (JG s):=by
 unfold V9 JG;try simp -zeta only[Ap]
 refine Ox (F:=fun x=>some (YS (x.1.length+1) x.1 x.2)) (fun x=>x.1.length+x.2.length<=s.length) (fun x=>x.1.length) ?_ N (s,[]) (by simp) hl;rintro ⟨t,a⟩ hI k hk;dsimp only at hI hk;dsimp only[U2];by_cases h:t=[]
 .subst h;rfl
 .have hp:=xI h;rw[OJ,Dq (show(t.length:Int)>0 by omega)];show(Jq (VB N t) _:Option (List El×Int))=some (if t=[]then(a,0)else if Sp.err t≠0 then([],Sp.err t)else YS t.length (Sp.rest t) (a++[MO t]));rw[Dt h,Zb N t hN (by omega),Js];by_cases he:Sp.err t=0
  .have hr:Nk t=(MO t,Sp.rest t,0):=by unfold Nk;rw[Dq he]
   have hlt:=Sp.qH t he;rw[hr,Dt (by simp [he])];show Vm.chk (decide ((a.length+1)*41<=140737488355328)) (k (Sp.rest t,a++[MO t]))=_;rw[Xf,Dq (by omega),hk (Sp.rest t,a++[MO t]) (by simp;omega) hlt];exact congrArg some (AjO _ _ _ _ (by show(Sp.rest t).length<(Sp.rest t).length+1;omega) hlt)
  .have hr:Nk t=((0,[],[]),[],Sp.err t):=by unfold Nk;rw[Dt he]
   rw[hr,Dq he];show(bif Sp.err t != 0 then some (([]:List El),Sp.err t)else _)=_;rw[show(Sp.err t != 0)=true by simp [he]];rfl
def JU (l:List El) (t:Int):El×Bool×List El:=match l with
 | []=>((0,[],[]),false,[])
 | e::r=>if e.1=t then(e,true,r)else((0,[],[]),false,e::r)
def ZP {e:El} {r:List El} {t:Int} (h:e.1=t):JU (e::r) t=(e,true,r):=by show(if e.1=t then(e,true,r)else((0,[],[]),false,e::r))=_;rw[Dq h]
def ZO {e:El} {r:List El} {t:Int} (h: ¬ e.1=t):JU (e::r) t=((0,[],[]),false,e::r):=by show(if e.1=t then(e,true,r)else((0,[],[]),false,e::r))=_;rw[Dt h]
def Aab (N:Nat) (l:List El) (t:Int):L6 N l t=some (JU l t):=by
 cases l with
 | nil=>rfl
 | cons e r =>
  have h0:(((e::r).length:Int)==(0:Int))=false:=by simp;omega
  have h1:decide ((0:Int)<((e::r).length:Int))=true:=Dn (by simp only[List.length_cons];omega);have h2:decide ((1:Int)<=((e::r).length:Int))=true:=Dn (by simp only[List.length_cons];omega);unfold L6;try simp -zeta only[Ap]
  rw[h0,h1,h2];show(bif (e.1 != t)then some (((0,[],[]):El),false,e::r)else some (e,true,J9 (e::r) 1 (e::r).length))=some (if e.1=t then(e,true,r)else((0,[],[]),false,e::r));have hc:J9 (e::r) 1 (e::r).length=r:=by show((e::r).take (e::r).length).drop 1=r;rw[Ez];rfl
  rw[hc];by_cases h:e.1=t
  .rw[Dq h,show(e.1 != t)=false by simp [h]];rfl
  .rw[Dt h,show(e.1 != t)=true by simp [h]];rfl
def ArD (N:Nat) (l:List El):Lp N l=some (if l=[]then 0 else 4,l):=by
 cases l with
 | nil=>rfl
 | cons e r =>unfold Lp;rw[OJ,Dq (by simp only[List.length_cons];omega),Dt (by simp)]
def Ub {M:Nat} {l:List El} (h:Good M l) (t:Int):Good M (JU l t).2.2/\((JU l t).2.1=true->YQ M (JU l t).1):=by
 cases l with
 | nil=>exact⟨h,fun h=>by cases h⟩
 | cons e r =>
  by_cases he:e.1=t
  .rw[ZP he];exact⟨h.tail,fun _=>h.all e Dw⟩
  .rw[ZO he];exact⟨h,fun h=>by cases h⟩
def AqQ {α :Type} (l:List α):((l.length:Int)==(0:Int))=decide (l=[]):=by
 cases l with
 | nil=>rfl
 | cons e r=>rw[Du (by simp)];simp;omega
def Aex (x:Int):(x != (0:Int))=decide (x≠0):=by by_cases h:x=0<;>simp [h]
def AtV (s:Bs) (t:Int):(List El×Int) ⊕ (Unit×Int) :=
 if(KG s).2≠0 then .inr ((),(KG s).2)else if(KG s).1.1≠t then .inr ((),5)else
 if(JG (KG s).1.2.1).2≠0 then .inr ((),(JG (KG s).1.2.1).2)else .inl ((JG (KG s).1.2.1).1,0)
def Qe (s:Bs):(KG s).1.2.1.length<=s.length/\(KG s).1.2.2.length<=s.length:=by
 unfold KG;split
 .rename_i h;have he:=(kR h).1;have:=Sp.TB s he;have hr:=Sp.Aks s he;have:=Sp.Ac3 s he;show(Sp.content s).length<=_/\(Sp.raw s).length<=_;omega
 .simp
def AyB (N:Nat) (s:Bs) (t:Int) (hN:4<N) (hs:s.length<=1099511627776) (hl:s.length<N):Vu N s t=some (AtV s t):=by
 have hc:=Qe s;unfold Vu UC AtV;rw[eU N s hN hs];simp only[Js];generalize KG s=o at hc ⊢;by_cases h1:o.2=0
 .rw[Dt (by simp [h1]),Aex,Du (by simp [h1]),cond_false];by_cases h2:o.1.1=t
  .rw[Dt (by simp [h2]),show(o.1.1 != t)=false by rw[h2];simp];unfold RX;simp only[cond_false,Js];rw[NP N _ hN (by omega) (by omega)];simp only[Js];by_cases h3:(JG o.1.2.1).2=0
   .rw[Dt (by simp [h3]),Aex (JG o.1.2.1).2,Du (by simp [h3])];rfl
   .rw[Dq h3,Aex (JG o.1.2.1).2,Dn h3];rfl
  .rw[Dq h2,show(o.1.1 != t)=true from EO.2 h2];rfl
 .rw[Dq h1,Aex,Dn h1,cond_true,Js,Aex,Dn h1];rfl
def At (es:List El) (l:List El) (x:List El×Int):Prop:= ∃ i:Nat,x=(es,(i:Int))/\i<=es.length/\es.drop i=l
def qL (N:Nat) (es l:List El) (x:List El×Int) (hx:At es l x) (hl:es.length<=1099511627776) (t:Int) :
 ∃ y,Lc N x t=some ((JU l t).1,(JU l t).2.1,y)/\At es (JU l t).2.2 y:=by
 obtain⟨i,rfl,hi,hd⟩:=hx;unfold Lc;try simp -zeta only[Ap]
 by_cases h:i=es.length
 .have hl0:l=[]:=by rw[<- hd,h,EY]
  subst hl0;have h0:decide ((i:Int)>=(es.length:Int))=true:=Dn (by omega);have h1:decide ((0:Int)<=(i:Int))=true:=Dn (by omega);have h2:decide ((i:Int)<(es.length:Int))=false:=Du (by omega);dsimp only;rw[h0,h1,h2];exact⟨(es,(i:Int)),rfl,i,rfl,hi,hd⟩
 .have h0:decide ((i:Int)>=(es.length:Int))=false:=Du (by omega);have h1:decide ((0:Int)<=(i:Int))=true:=Dn (by omega);have h2:decide ((i:Int)<(es.length:Int))=true:=Dn (by omega);have hg:es.drop i=es.getD i (0,[],[])::es.drop (i+1):=by rw[Es (by omega)];congr 1;simp [Dp,show i<es.length by omega]
  dsimp only;rw[h0,h1,h2,w64 (x:=(i:Int)+1) (by omega) (by omega),w64 (x:=(i:Int)+1 - 1) (by omega) (by omega),show(i:Int)+1 - 1=(i:Int) by omega,h1,h2];rw[<- hd,hg];show ∃ y,(bif ((es.getD (i:Int).toNat (0,[],[])).1 != t)then some (((0,[],[]):El),false,(es,(i:Int)))else some (es.getD (i:Int).toNat (0,[],[]),true,(es,(i:Int)+1)))=some (_,_,y)/\_;rw[show(i:Int).toNat=i from rfl];by_cases he:(es.getD i (0,[],[])).1=t
  .rw[ZP he,show((es.getD i (0,[],[])).1 != t)=false by rw[he];simp];exact⟨(es,(i:Int)+1),rfl,i+1,rfl,by omega,rfl⟩
  .rw[ZO he,show((es.getD i (0,[],[])).1 != t)=true from EO.2 he];exact⟨(es,(i:Int)),rfl,i,rfl,hi,hg⟩
def AuA (N:Nat) (es l:List El) (x:List El×Int) (hx:At es l x):Kz N x=some (if l=[]then 0 else 4,x):=by
 obtain⟨i,rfl,hi,rfl⟩:=hx;unfold Kz;rw[OJ];by_cases h:i=es.length
 .rw[Dt (by show ¬((i:Int)<(es.length:Int));omega),Dq (by rw[h,EY])]
 .rw[Dq (by show((i:Int)<(es.length:Int));omega),Dt (by rw[List.drop_eq_nil_iff];omega)]
def Oz (s:Bs):Bool:=(ND s).isSome
def Lt (s:Bs):Prop:=s.length<=1048576
def Xr (N:Nat) (s:Bs) (hN:1048578<N) (hs:Lt s):Og N s=some (Oz s):=(Yh N s (by omega) hs (by unfold Lt at hs;omega)).1
def Yz (N:Nat) (s:Bs) (hN:1048578<N) (hs:Lt s):KL N s=some (Oz s):=(Yh N s (by omega) hs (by unfold Lt at hs;omega)).2
def AkP (a b:Bs):(a==b)=(b==a):=IE
def idI (l:List Bs) (i:Nat):Int:=bif !Oz (l.getD i [])then 11 else bif (l.take i).any (fun x=>x==l.getD i [])then 10 else 0
def yV (l:List Bs) (m:Int):Int:=bif decide ((l.length:Int)>m)then 2 else JV (idI l) (List.range l.length)
def Ahv (N:Nat) (l:List Bs) (m:Int) (hN:1048578<N) (hl:l.length<=1048576) (hs: ∀ s∈l,Lt s):RN N l m=some (yV l m):=by
 unfold RN yV;try simp -zeta only[Ap]
 cases decide ((l.length:Int)>m)with
 | true=>rfl
 | false =>
  rw[cond_false,cond_false];refine(XP (mk:=fun i=>(i:Int)) l.length (idI l) some (some 0) ?_ ?_ N (by omega)).trans (first_some _)
  .intro i hi k;have hv:=Xr N _ hN (hs _ (getD_mem [] hi));unfold idI;simp (disch:=omega) only[J4,hv,Vd];cases Oz (l.getD i [])with
   | false=>rfl
   | true =>
    rw[Ec,cond_false,cond_false];refine(Rz (mk:=fun j=>(j:Int)) (l.take i) [] (fun x=>x==l.getD i []) (some 10) (k ((i+1:Nat):Int)) ?_ ?_ N (by rw[DL];omega)).trans ?_
    .intro j hj k;have hlt:(l.take i).length=i:=by rw[DL];omega
     have hj2:j<i:=by omega
     simp (disch:=omega) only[J4,hlt,Ko];rw[AkP]
    .intro k;have hlt:(l.take i).length=i:=by rw[DL];omega
     simp (disch:=omega) only[J4,hlt,Ko]
    .cases (l.take i).any (fun x=>x==l.getD i [])<;>rfl
  .intro k;simp (disch:=omega) only[J4]
def AeE (N:Nat) (l:List Bs) (m:Int) (hN:1048578<N) (hl:l.length<=1048576) (hs: ∀ s∈l,Lt s):TL N l m=some (yV l m):=by
 unfold TL yV;try simp -zeta only[Ap]
 cases decide ((l.length:Int)>m)with
 | true=>rfl
 | false =>
  rw[cond_false,cond_false];refine(XP (mk:=fun i=>(i:Int)) l.length (idI l) some (some 0) ?_ ?_ N (by omega)).trans (first_some _)
  .intro i hi k;have hv:=Yz N _ hN (hs _ (getD_mem [] hi));unfold idI;simp (disch:=omega) only[J4,hv,Vd];cases Oz (l.getD i [])with
   | false=>rfl
   | true =>
    rw[Ec,cond_false,cond_false];refine(Rz (mk:=fun j=>(j:Int)) (l.take i) [] (fun x=>x==l.getD i []) (some 10) (k ((i+1:Nat):Int)) ?_ ?_ N (by rw[DL];omega)).trans ?_
    .intro j hj k;have hlt:(l.take i).length=i:=by rw[DL];omega
     have hj2:j<i:=by omega
     simp (disch:=omega) only[J4,hlt,Ko,AmO]
    .intro k;have hlt:(l.take i).length=i:=by rw[DL];omega
     simp (disch:=omega) only[J4,hlt,Ko]
    .cases (l.take i).any (fun x=>x==l.getD i [])<;>rfl
  .intro k;simp (disch:=omega) only[J4]
def mpI (l:List (Bs×Bs)) (i:Nat):Int:=bif !Oz (l.getD i ([],[])).1|| !Oz (l.getD i ([],[])).2 then 11 else bif (l.take i).any (fun x=>x.1==(l.getD i ([],[])).1&&x.2==(l.getD i ([],[])).2)then 10 else 0
def Aft (l:List (Bs×Bs)):Int:=bif decide (8<l.length)then 2 else JV (mpI l) (List.range l.length)
def YK (m:Bs×Bs):Prop:=Lt m.1/\Lt m.2
def AhU (N:Nat) (l:List (Bs×Bs)) (hN:1048578<N) (hs: ∀ s∈l,YK s):Q5 N l=some (Aft l):=by
 unfold Q5 Aft;try simp only[clR]
 rw[show decide (((l.length:Nat):Int)>8)=decide (8<l.length)from SX _ 8];by_cases h8:8<l.length
 .rw[Dn h8];rfl
 .rw[Du h8,cond_false,cond_false];refine(XP (mk:=fun i=>(i:Int)) l.length (mpI l) some (some 0) ?_ ?_ N (by omega)).trans (first_some _)
  .intro i hi k;have hm:=hs _ (getD_mem ([],[]) hi);have hv1:=Xr N _ hN hm.1;have hv2:=Xr N _ hN hm.2;unfold mpI;simp (disch:=omega) only[J4,hv1,hv2,Vd,Option.isSome_some,Option.getD_some];cases (!Oz (l.getD i ([],[])).1|| !Oz (l.getD i ([],[])).2)with
   | true=>rfl
   | false =>
    rw[cond_false,cond_false];refine(Rz (mk:=fun j=>((j:Int),(l.getD i ([],[])).1,(l.getD i ([],[])).2)) (l.take i) ([],[]) (fun x=>x.1==(l.getD i ([],[])).1&&x.2==(l.getD i ([],[])).2) (some 10) (k ((i+1:Nat):Int)) ?_ ?_ N (by rw[DL];omega)).trans ?_
    .intro j hj k;have hlt:(l.take i).length=i:=by rw[DL];omega
     have hj2:j<i:=by omega
     simp (disch:=omega) only[J4,hlt,Ko];rw[AkP,AkP (l.getD i ([],[])).2]
    .intro k;have hlt:(l.take i).length=i:=by rw[DL];omega
     simp (disch:=omega) only[J4,hlt,Ko]
    .cases (l.take i).any (fun x=>x.1==(l.getD i ([],[])).1&&x.2==(l.getD i ([],[])).2)<;>rfl
  .intro k;simp (disch:=omega) only[J4]
def AcK (N:Nat) (l:List (Bs×Bs)) (hN:1048578<N) (hs: ∀ s∈l,YK s):SQ N l=some (Aft l):=by
 unfold SQ Aft;try simp only[clR]
 rw[show decide (((l.length:Nat):Int)>8)=decide (8<l.length)from SX _ 8];by_cases h8:8<l.length
 .rw[Dn h8];rfl
 .rw[Du h8,cond_false,cond_false];refine(XP (mk:=fun i=>(i:Int)) l.length (mpI l) some (some 0) ?_ ?_ N (by omega)).trans (first_some _)
  .intro i hi k;have hm:=hs _ (getD_mem ([],[]) hi);have hv1:=Yz N _ hN hm.1;have hv2:=Yz N _ hN hm.2;unfold mpI;simp (disch:=omega) only[J4,hv1,hv2,Vd,Option.isSome_some,Option.getD_some];cases (!Oz (l.getD i ([],[])).1|| !Oz (l.getD i ([],[])).2)with
   | true=>rfl
   | false =>
    rw[cond_false,cond_false];refine(Rz (mk:=fun j=>((j:Int),(l.getD i ([],[])).1,(l.getD i ([],[])).2)) (l.take i) ([],[]) (fun x=>x.1==(l.getD i ([],[])).1&&x.2==(l.getD i ([],[])).2) (some 10) (k ((i+1:Nat):Int)) ?_ ?_ N (by rw[DL];omega)).trans ?_
    .intro j hj k;have hlt:(l.take i).length=i:=by rw[DL];omega
     have hj2:j<i:=by omega
     simp (disch:=omega) only[J4,hlt,Ko,AmO]
    .intro k;have hlt:(l.take i).length=i:=by rw[DL];omega
     simp (disch:=omega) only[J4,hlt,Ko]
    .cases (l.take i).any (fun x=>x.1==(l.getD i ([],[])).1&&x.2==(l.getD i ([],[])).2)<;>rfl
  .intro k;simp (disch:=omega) only[J4]
abbrev Ex:Type:=Bs×Bool×Bs
abbrev Rw:Type:=Bs×Int×Nat×Nat×Nat
def Nl:List Rw:=(RV 0).getD []
def Zv:List Bs:=(jO 0).getD []
def TD (s:Bs):Bool:=Zv.any (fun x=>x==s)
def Aqy:Nl.map (·.1)=Zv:=by decide +kernel
def AiL:Nl.length=13:=by decide +kernel
def Alu:Zv.length=13:=by decide +kernel
def find_eq (N:Nat) (s:Bs) (hN:1048578<N): ∃ r,Ql N s=some (r,TD s):=by
 unfold Ql;try simp -zeta only[Ap]
 rw[show RV N=some Nl from rfl,Js];have hl:=AiL;refine⟨_,(Qq (S:=Unit) (R:=Rw) (mk:=fun i _=>(i:Int)) Nl ([],0,0,0,0) (fun r _=>bif r.1==s then .inl r else .inr ()) (fun r=>some (r,true)) (fun _=>some (([],0,0,0,0),false)) ?_ ?_ N () (by omega)).trans (?_:_=some ((P7 (fun(r:Rw) (_:Unit)=>bif r.1==s then Sum.inl r else Sum.inr ()) Nl ()).elim id (fun _=>([],0,0,0,0)),TD s))⟩
 .intro i _ hi k;simp (disch:=omega) only[J4,Ko]
 .intro _ k;simp (disch:=omega) only[J4]
 .unfold TD;rw[<- Aqy];generalize Nl=l
  induction l with
  | nil=>rfl
  | cons r t ih =>
   rw[Nv,Ej,List.any_cons];cases r.1==s with
   | true=>rfl
   | false=>exact ih
def Aw3 (N:Nat) (s:Bs) (hN:1048578<N):jM N s=some (TD s):=by
 unfold jM;try simp -zeta only[Ap]
 rw[show jO N=some Zv from rfl,Js];have hl:=Alu;refine(Rz (mk:=fun i=>(i:Int)) Zv [] (fun x=>x==s) (some true) (some false) ?_ ?_ N (by omega)).trans ?_
 .intro i hi k;simp (disch:=omega) only[J4,Ko]
 .intro k;simp (disch:=omega) only[J4]
 .unfold TD;cases Zv.any (fun x=>x==s)<;>rfl
def ArE (N:Nat) (l:List Ex) (s:Bs) (hN:l.length<N) (hl:l.length<=1048576): ∃ r,TK N l s=some (r,l.any (fun x=>x.1==s)):=by
 unfold TK;try simp -zeta only[Ap]
 refine⟨_,(Qq (S:=Unit) (R:=Ex) (mk:=fun i _=>(i:Int)) l ([],false,[]) (fun r _=>bif r.1==s then .inl r else .inr ()) (fun r=>some (r,true)) (fun _=>some (([],false,[]),false)) ?_ ?_ N () (by omega)).trans (?_:_=some ((P7 (fun(r:Ex) (_:Unit)=>bif r.1==s then Sum.inl r else Sum.inr ()) l ()).elim id (fun _=>([],false,[])),l.any (fun x=>x.1==s)))⟩
 .intro i _ hi k;simp (disch:=omega) only[J4,Ko]
 .intro _ k;simp (disch:=omega) only[J4]
 .clear hN hl
  induction l with
  | nil=>rfl
  | cons r t ih =>
   rw[Nv,List.any_cons];cases r.1==s with
   | true=>rfl
   | false=>exact ih
def unI (l:List Ex) (i:Nat):Int:=bif !Oz (l.getD i ([],false,[])).1 then 11 else bif TD (l.getD i ([],false,[])).1 then 20 else bif (l.take i).any (fun x=>x.1==(l.getD i ([],false,[])).1)then 10 else Sp.chk (l.getD i ([],false,[])).2.2
def AqG (l:List Ex):Int:=JV (unI l) (List.range l.length)
def SG (x:Ex):Prop:=Lt x.1/\Lt x.2.2
def Ajh (N:Nat) (l:List Ex) (hN:1048578<N) (hl:l.length<=1048576) (hs: ∀ x∈l,SG x):OQ N l=some (AqG l):=by
 unfold OQ AqG;try simp only[clR]
 refine(XP (mk:=fun i=>(i:Int)) l.length (unI l) some (some 0) ?_ ?_ N (by omega)).trans (first_some _)
 .intro i hi k;have hm:=hs _ (getD_mem ([],false,[]) hi);have hv:=Xr N _ hN hm.1;obtain⟨r,hf⟩:=find_eq N (l.getD i ([],false,[])).1 hN;have hc:=Agm N (l.getD i ([],false,[])).2.2 (by omega) (by have:=hm.2;unfold Lt at this;omega) (by have:=hm.2;unfold Lt at this;omega);unfold unI;simp (disch:=omega) only[J4,hv,hf,Vd];cases Oz (l.getD i ([],false,[])).1 with
  | false=>rfl
  | true =>
   rw[Ec,cond_false,cond_false];cases TD (l.getD i ([],false,[])).1 with
   | true=>rfl
   | false =>
    rw[cond_false,cond_false];refine(Rz (mk:=fun j=>((j:Int),(l.getD i ([],false,[])).1,(l.getD i ([],false,[])).2.1,(l.getD i ([],false,[])).2.2)) (l.take i) ([],false,[]) (fun x=>x.1==(l.getD i ([],false,[])).1) (some 10) (bif Sp.chk (l.getD i ([],false,[])).2.2 != 0 then some (Sp.chk (l.getD i ([],false,[])).2.2)else k ((i+1:Nat):Int)) ?_ ?_ N (by rw[DL];omega)).trans ?_
    .intro j hj k;have hlt:(l.take i).length=i:=by rw[DL];omega
     have hj2:j<i:=by omega
     simp (disch:=omega) only[J4,hlt,Ko]
    .intro k;have hlt:(l.take i).length=i:=by rw[DL];omega
     simp (disch:=omega) only[J4,hlt,hc,Ko]
    .cases (l.take i).any (fun x=>x.1==(l.getD i ([],false,[])).1)<;>rfl
 .intro k;simp (disch:=omega) only[J4]
def Amj {X Y ρ :Type} {B:X->(X->Option ρ)->(Y->Option ρ)->Option ρ} {kx:Y->Option ρ} (mk:Nat->Int->X) (l:List Bool) (fin:Int->Option ρ) (s0:Nat) (hs0:s0+l.length<=1099511627776)
 (h: ∀(i:Nat) (s:Int),i<l.length->0<=s->s<=1099511627776-> ∀ k,B (mk i s) k kx=bif l.getD i false then k (mk (i+1) (s+1))else k (mk (i+1) s))
 (hend: ∀(s:Int) (k:X->Option ρ),B (mk l.length s) k kx=fin s) (N:Nat) (hN:l.length<N):J6 B N (mk 0 (s0:Int)) kx=fin ((s0+l.count true:Nat):Int):=by
 refine(ZW (S:=Nat) (R:=Unit) (mk:=fun i s=>mk i (s:Int)) l false (fun i s=>s<=s0+i) (fun b s=>.inr (bif b then s+1 else s)) (fun _=>none) (fun s=>fin (s:Int)) ?_ ?_ (fun s k _=>hend s k) N s0 (DK _) hN).trans ?_
 .intro i s hi hI k;rw[h i s hi (by omega) (by omega)];cases l.getD i false<;>rfl
 .intro i s s' hi hI he;injection he with he;subst he;cases l.getD i false
  .show s<=_;omega
  .show s+1<=_;omega
 .have: ∀(l:List Bool) (s:Nat),P7 (R:=Unit) (fun b (s:Nat)=>.inr (bif b then s+1 else s)) l s= .inr (s+l.count true):=by
   intro l
   induction l with
   | nil=>intro s;rfl
   | cons b r ih =>
    intro s;rw[Nv];show P7 (R:=Unit) _ r _=_;rw[ih];cases b with
    | true=>rw[List.count_cons_self];congr 1;show s+1+_=_;omega
    | false=>rw[List.count_cons_of_ne (by decide)];rfl
  rw[this];rfl
abbrev Info:Type:=Bool×Bool×Int×Int×List Bs×List Bs×List (Bs×Bs)×Int×Int×Int×List Gn×Bool×List Gn×List Gn×Bs×Bs×List Pt×List Pt×List Ex
def spI (n:Int):Bool:=decide (n>= -1)&&decide (n<=64)
def Afa:Info->List Bool
 | (hb,_,_,us,pu,po,ma,re,im,ia,na,hc,_,_,sk,ak,pt,fr,_)=>[hb,us != 0,decide (((pu.length:Nat):Int)>0),decide (((po.length:Nat):Int)>0),decide (((ma.length:Nat):Int)>0),re != -1||im != -1,ia != -1,decide (((na.length:Nat):Int)>0),hc,!(sk==[]),!(ak==[]),decide (((pt.length:Nat):Int)>0),decide (((fr.length:Nat):Int)>0)]
def AbO (hc:Bool) (s:St2):Int:=bif hc then eH s else bif !s.1.isEmpty|| !s.2.isEmpty then 7 else 0
def SA (l:List Pt):Int:=bif decide (4<l.length)then 2 else JV ptI l
def Um:Info->Int
 | (hb,ca,pl,us,pu,po,ma,re,im,ia,na,hc,pe,ex,sk,ak,pt,fr,un) =>
  bif (ca&& !hb)||(pl != -1&& !ca)then 7
  else bif !spI pl|| !spI re|| !spI im|| !spI ia||decide (us<0)||decide (us>511)then 1
  else bif yV pu 8 != 0 then yV pu 8
  else bif yV po 8 != 0 then yV po 8
  else bif Aft ma != 0 then Aft ma
  else bif decide (16<na.length)then 2
  else bif Qp na false != 0 then Qp na false
  else bif AbO hc (pe,ex) != 0 then AbO hc (pe,ex)
  else bif decide (32<sk.length)||decide (32<ak.length)then 2
  else bif SA pt != 0 then SA pt
  else bif SA fr != 0 then SA fr
  else bif decide (24<un.length+(Afa (hb,ca,pl,us,pu,po,ma,re,im,ia,na,hc,pe,ex,sk,ak,pt,fr,un)).count true)then 2
  else AqG un
structure Aac (x:Info):Prop where
 pu:x.2.2.2.2.1.length<=1048576/\ ∀ s∈x.2.2.2.2.1,Lt s
 po:x.2.2.2.2.2.1.length<=1048576/\ ∀ s∈x.2.2.2.2.2.1,Lt s
 ma: ∀ s∈x.2.2.2.2.2.2.1,YK s
 na:Me x.2.2.2.2.2.2.2.2.2.2.1
 pe:Me x.2.2.2.2.2.2.2.2.2.2.2.2.1
 ex:Me x.2.2.2.2.2.2.2.2.2.2.2.2.2.1
 pt: ∀ p∈x.2.2.2.2.2.2.2.2.2.2.2.2.2.2.2.2.1,NS p
 fr: ∀ p∈x.2.2.2.2.2.2.2.2.2.2.2.2.2.2.2.2.2.1,NS p
 un:x.2.2.2.2.2.2.2.2.2.2.2.2.2.2.2.2.2.2.length<=1048576/\ ∀ p∈x.2.2.2.2.2.2.2.2.2.2.2.2.2.2.2.2.2.2,SG p
def AdL (N:Nat) (x:Info) (hN:1048578<N) (hx:Aac x):OO N x=some (AbO x.2.2.2.2.2.2.2.2.2.2.2.1 (x.2.2.2.2.2.2.2.2.2.2.2.2.1,x.2.2.2.2.2.2.2.2.2.2.2.2.2.1)):=by
 unfold OO;try simp only[clR]
 unfold AbO;rw[uT N (x.2.2.2.2.2.2.2.2.2.2.2.2.1,x.2.2.2.2.2.2.2.2.2.2.2.2.2.1) hN hx.pe hx.ex,Js,iH,iH,JD,JD]
def AwX (N:Nat) (x:Info) (i:Nat) (hi:i<13):Agt N (Nl.getD i ([],0,0,0,0)).2.2.1 x=some ((Afa x).getD i false):=by
 obtain⟨hb,ca,pl,us,pu,po,ma,re,im,ia,na,hc,pe,ex,sk,ak,pt,fr,un⟩:=x;have:i=0\/i=1\/i=2\/i=3\/i=4\/i=5\/i=6\/i=7\/i=8\/i=9\/i=10\/i=11\/i=12:=by omega
 rcases this with rfl | rfl | rfl | rfl | rfl | rfl | rfl | rfl | rfl | rfl | rfl | rfl | rfl;all_goals first | rfl | skip
 show UB N _=_;unfold UB;try simp only[clR]
 rfl
def Az5 (N:Nat) (n:Int):Oo N n=some (spI n):=by
 unfold Oo;try simp only[clR]
 rfl
def Az3 (N:Nat) (n:Int):Qh N n=some (spI n):=by
 unfold Qh;try simp only[clR]
 rfl
def AhH (N:Nat) (x:Info) (hN:1048578<N) (hx:Aac x):Tc N x=some (Um x):=by
 have hcon:=AdL N x hN hx;have hdisp:=AwX N x;have hlen13:(Afa x).length=13:=rfl;have hrl:=AiL;obtain⟨hb,ca,pl,us,pu,po,ma,re,im,ia,na,hc,pe,ex,sk,ak,pt,fr,un⟩:=x;have e1:=Ahv N pu 8 hN hx.pu.1 hx.pu.2;have e2:=Ahv N po 8 hN hx.po.1 hx.po.2;have e3:=AhU N ma hN hx.ma;have e4:Lm N pt=some (SA pt):=TU N pt hN hx.pt;have e5:Lm N fr=some (SA fr):=TU N fr hN hx.fr;have hun:un.length<=1048576:=hx.un.1;unfold Tc Um;try simp only[clR]
 simp only[Az5,e1,e2,e3,e4,e5,hcon,Option.isSome_some,Option.getD_some,DV,J8,Js,Ay6];rw[<- JD];refine Ku fun h1=> ?_;rw[<- JD];refine Ku fun h2=> ?_;rw[<- JD];refine Ku fun h3=> ?_;rw[<- JD];refine Ku fun h4=> ?_;rw[<- JD];refine Ku fun h5=> ?_;rw[show decide (((na.length:Nat):Int)>16)=decide (16<na.length)from SX _ 16];rw[<- JD];refine Ku fun h6=> ?_;rw[ZE N na hN (by have:=Fg h6;omega) hx.na,Js];rw[<- JD];refine Ku fun h7=> ?_;rw[<- JD];refine Ku fun h8=> ?_;rw[show decide (((sk.length:Nat):Int)>32)=decide (32<sk.length)from SX _ 32,show decide (((ak.length:Nat):Int)>32)=decide (32<ak.length)from SX _ 32];rw[<- JD];refine Ku fun h9=> ?_;rw[<- JD];refine Ku fun h10=> ?_;rw[<- JD];refine Ku fun h11=> ?_;rw[show RV N=some Nl from rfl,Js];refine(Amj (mk:=fun i s=>(s,(i:Int),hb,ca,pl,us,pu,po,ma,re,im,ia,na,hc,pe,ex,sk,ak,pt,fr,un)) (Afa (hb,ca,pl,us,pu,po,ma,re,im,ia,na,hc,pe,ex,sk,ak,pt,fr,un)) (fun s=>bif decide (s>24)then some 2 else Jq (OQ N un) fun r=>some r) un.length (by omega) ?_ ?_ N (by omega)).trans ?_
 .intro i s hi h0 h1 k;have hd:=hdisp i (by omega);dsimp only[U21];simp (disch:=omega) only[J4,hd,Ko]
 .intro s k;dsimp only[U21];simp (disch:=omega) only[J4,hlen13,hrl];rfl
 .rw[Ajh N un hN hun hx.un.2,Js,show ∀ n:Nat,decide ((n:Int)>24)=decide (24<n)from fun n=>SX n 24,JD]
def KD (s:Bs) (t:Int):El×Int:=bif (KG s).2 != 0 then((0,[],[]),(KG s).2)else bif (KG s).1.1 != t then((0,[],[]),5)else((KG s).1,0)
def XK (N:Nat) (s:Bs) (t:Int) (hN:1048578<N) (hs:s.length<=1048576):UC N s t=some (KD s t):=by
 unfold UC KD;try simp only[clR]
 rw[eU N s (by omega) (by omega),Js];simp only[JD]
def ZC (N:Nat) (s:Bs) (t:Int) (hN:1048578<N) (hs:s.length<=1048576):Qi N s t=some (KD s t):=by
 unfold Qi KD;try simp only[clR]
 rw[Xx N s (by omega) (by omega),Js];simp only[JD]
def Nr (s:Bs) (t:Int):(KD s t).1.2.1.length<=s.length:=by
 have hc:=Qe s;unfold KD;cases (KG s).2 != 0 with
 | true=>show 0<=_;omega
 | false=>cases (KG s).1.1 != t with
  | true=>show 0<=_;omega
  | false=>exact hc.1
def spP (r:Bs) (k:Nat):Bool:=k==0||(!r.isEmpty&&(r.getD (r.length - 1) 0).toNat % 2 ^ k==0)
def A04:((List.range 256).all fun b=>(List.range 8).all fun k=>(JY BinOp.and .u8 (b:Int) (u8.wrap (u8.wrap (1*2 ^ min k 8) - 1))==0)==(b % 2 ^ k==0))=true:=by kernel_rfl
def Az4 {b k:Nat} (hb:b<256) (hk:k<8):(JY BinOp.and .u8 (b:Int) (u8.wrap (u8.wrap (1*2 ^ min k 8) - 1))==0)=(b % 2 ^ k==0):=by have h:=DJ.1 (DJ.1 A04 b (EP.2 hb)) k (EP.2 hk);exact EU.1 h
def AxT (N:Nat) (r:Bs) (k:Nat) (hk:k<8) (hr:r.length<=1048576):dC N r (k:Int)=some (spP r k):=by
 unfold dC spP;try simp only[clR]
 have hu:u64.wrap (k:Int)=(k:Int):=by show((k:Int) % 18446744073709551616)=k;omega
 cases hr0:r with
 | nil =>
  by_cases h0:k=0
  .subst h0;rfl
  .rw[show((k:Int)==0)=false by simp;omega,show(k==0)=false by simp [h0]];rfl
 | cons x y =>
  rw[<- hr0];have hp:0<r.length:=by rw[hr0];exact GI _
  have hn:(r==[])=false:=by rw[hr0];rfl
  have he:r.isEmpty=false:=by rw[hr0];rfl
  have hb:=(r.getD (r.length - 1) 0).toNat_lt;rw[hu,hn,he];by_cases h0:k=0
  .subst h0;rfl
  .simp (disch:=omega) only[J4,Az4 hb hk];rw[show(k==0)=false by simp [h0]];rfl
def Vk (s:Bs):Bs×Int×Int:=match s with
 | []=>([],0,7)
 | u::r=>bif decide (7<u.toNat)|| !spP r u.toNat then([],0,7)else(r,(u.toNat:Int),0)
def AoQ (u:UInt8) (r:Bs):J9 (u::r) 1 (u::r).length=r:=by show((u::r).take (u::r).length).drop 1=r;rw[Ez];rfl
def Aqb (N:Nat) (s:Bs) (hs:s.length<=1048576):xJ N s=some (Vk s):=by
 cases s with
 | nil=>rfl
 | cons u r =>
  have hr:r.length<=1048576:=by rw[List.length_cons]at hs;omega
  have hu:=u.toNat_lt;unfold xJ Vk;try simp only[clR]
  rw[AoQ];have hl:(u::r).length=r.length+1:=rfl;have hn:((u::r)==([]:Bs))=false:=rfl;by_cases h7:7<u.toNat
  .simp (disch:=omega) only[J4,hl,hn,Eb]
  .have hS:=AxT N r u.toNat (by omega) hr;simp (disch:=omega) only[J4,hl,hn,Eb,hS,Option.isSome_some,Option.getD_some];rw[JD]
def A0z:((List.range 256).all fun b=>(List.range 8).all fun k=>((b:Int).tmod (i64.wrap (1*2 ^ min k 64)) != 0)== !(b % 2 ^ k==0))=true:=by kernel_rfl
def Azx {b k:Nat} (hb:b<256) (hk:k<8):((b:Int).tmod (i64.wrap (1*2 ^ min k 64)) != 0)= !(b % 2 ^ k==0):=by have h:=DJ.1 (DJ.1 A0z b (EP.2 hb)) k (EP.2 hk);exact EU.1 h
def Azy {k:Nat} (hk:k<8):(i64.wrap (1*2 ^ min k 64) != 0)=true:=by have h:=DJ.1 (show((List.range 8).all fun k=>(i64.wrap (1*2 ^ min k 64) != 0))=true by kernel_rfl) k (EP.2 hk);exact h
def An5 (N:Nat) (s:Bs) (hs:s.length<=1048576):pJ N s=some (Vk s):=by
 cases s with
 | nil=>rfl
 | cons u r =>
  have hr:r.length<=1048576:=by rw[List.length_cons]at hs;omega
  have hu:=u.toNat_lt;unfold pJ Vk spP;try simp only[clR]
  rw[AoQ];have hl:(u::r).length=r.length+1:=rfl;by_cases h7:7<u.toNat
  .simp (disch:=omega) only[J4,hl,Eb]
  .by_cases h0:u.toNat=0
   .simp (disch:=omega) only[J4,hl,Eb,h0];rfl
   .have hz:=Azy (k:=u.toNat) (by omega);cases hr0:r with
    | nil =>have hl: [u].length=1:=rfl;simp (disch:=omega) only[J4,hl,Eb,hz];rw[show(u.toNat==0)=false by simp [h0]];rfl
    | cons x y =>
     rw[<- hr0];have hp:0<r.length:=by rw[hr0];exact GI _
     have he:r.isEmpty=false:=by rw[hr0];rfl
     have hb:=(r.getD (r.length - 1) 0).toNat_lt;have hg:(u::r).getD (r.length+1 - 1) 0=r.getD (r.length - 1) 0:=by rw[show r.length+1 - 1=r.length by omega];rw[hr0];rfl
     have hm:=Azx hb (show u.toNat<8 by omega);simp (disch:=omega) only[J4,hl,Eb,hz,hg,hm];rw[show(u.toNat==0)=false by simp [h0],he,JD];rfl
def At4 {E R S:Type} (f:E->S->S): ∀(l:List E) (s:S),P7 (R:=R) (fun e s=>.inr (f e s)) l s= .inr (l.foldl (fun s e=>f e s) s):=by
 intro l
 induction l with
 | nil=>intro s;rfl
 | cons e r ih=>intro s;rw[Nv];exact ih _
def Xj {X Y S ρ :Type} {B:X->(X->Option ρ)->(Y->Option ρ)->Option ρ} {kx:Y->Option ρ} (mk:Nat->S->X) (n:Nat) (f:Nat->S->S) (fin:S->Option ρ)
 (h: ∀(i:Nat) (s:S),i<n-> ∀ k,B (mk i s) k kx=k (mk (i+1) (f i s)))
 (hend: ∀(s:S) (k:X->Option ρ),B (mk n s) k kx=fin s) (N:Nat) (s:S) (hN:n<N):J6 B N (mk 0 s) kx=fin ((List.range n).foldl (fun s i=>f i s) s):=by
 refine(Qq (R:=Unit) mk (List.range n) 0 (fun i s=>.inr (f i s)) (fun _=>none) fin ?_ ?_ N s (by rw[Ef];exact hN)).trans ?_
 .intro i s hi k;rw[Ef]at hi;rw[Ai0 hi];exact h i s hi k
 .intro s k;rw[Ef];exact hend s k
 .rw[At4];rfl
def mM (r:Bs) (i:Nat):Bool:=(r.getD (i / 8) 0).toNat / 2 ^ (7 - i % 8) % 2==1
def AzS:((List.range 256).all fun b=>(List.range 8).all fun k=>((JY BinOp.and .u8 ((b:Int).fdiv (2 ^ min k 8)) 1==1)==(b / 2 ^ k % 2==1))&&(((((b:Int).fdiv (2 ^ min k 8)).tmod 2==1)==(b / 2 ^ k % 2==1))&&((((b:Int).fdiv (2 ^ min k 8)).tmod 2==0)== !(b / 2 ^ k % 2==1))))=true:=by kernel_rfl
def AkQ {b k:Nat} (hb:b<256) (hk:k<8):(JY BinOp.and .u8 ((b:Int).fdiv (2 ^ min k 8)) 1==1)=(b / 2 ^ k % 2==1)/\(((b:Int).fdiv (2 ^ min k 8)).tmod 2==1)=(b / 2 ^ k % 2==1)/\(((b:Int).fdiv (2 ^ min k 8)).tmod 2==0)= !(b / 2 ^ k % 2==1):=by have h:=DJ.1 (DJ.1 AzS b (EP.2 hb)) k (EP.2 hk);simp only[Dv]at h;exact⟨EU.1 h.1,EU.1 h.2.1,EU.1 h.2.2⟩
def Amb {x:Int} (h0:0<=x) (h1:x<18446744073709551616):u64.wrap x=x:=by show x % 18446744073709551616=x;omega
def Ah9 (N:Nat) (r:Bs) (i:Nat) (hr:r.length<=1048576) (hi:i<8*r.length):iL N r (i:Int)=some (mM r i):=by
 unfold iL;try simp only[clR]
 have e1:(i:Int).tdiv 8=((i / 8:Nat):Int):=rfl;have e2:(i:Int).tmod 8=((i % 8:Nat):Int):=rfl;have e3:u64.wrap ((i % 8:Nat):Int)=((i % 8:Nat):Int):=Amb (by omega) (by omega);have e4:u64.wrap (7 - ((i % 8:Nat):Int))=((7 - i % 8:Nat):Int):=by rw[Amb (by omega) (by omega)];omega
 rw[e1,e2,e3,e4];have hb:=(AkQ (r.getD (i / 8) 0).toNat_lt (show 7 - i % 8<8 by omega)).1;simp (disch:=omega) only[J4,hb];rfl
def AoJ (s:Bs) (h:((Vk s).2.2 != 0)=false): ∃ r k,Vk s=(r,((k:Nat):Int),0)/\k<8/\(r=[]->k=0)/\r.length<=s.length:=by
 cases s with
 | nil=>cases h
 | cons u r =>
  unfold Vk at h ⊢;dsimp only at h ⊢;cases hb:decide (7<u.toNat)|| !spP r u.toNat with
  | true=>rw[hb]at h;cases h
  | false =>
   rw[EN]at hb;have h7:=Fg hb.1;refine⟨r,u.toNat,rfl,by omega,fun hr=> ?_,by rw[List.length_cons];omega⟩;subst hr;have:=hb.2;unfold spP at this;by_cases h0:u.toNat=0
   .exact h0
   .rw[show(u.toNat==0)=false by simp [h0]]at this;cases this
def flV (r:Bs) (n:Nat):Int×Int :=
 bif decide (0<n)&& !mM r (n - 1)then(0,7)else bif decide (16<n)then(0,1)else
 ((List.range n).foldl (fun acc i=>bif mM r i then JY .or .i64 acc (i64.wrap (1*2 ^ min i 64))else acc) 0,0)
def flP (s:Bs):Int×Int:=bif (Vk s).2.2 != 0 then(0,(Vk s).2.2)else flV (Vk s).1 (8*(Vk s).1.length - (Vk s).2.1.toNat)
def Adi (N:Nat) (s:Bs) (hN:1048578<N) (hs:s.length<=1048576):XW N s=some (flP s):=by
 unfold XW flP;try simp only[clR]
 rw[Aqb N s hs,Js];cases h:(Vk s).2.2 != 0 with
 | true=>rfl
 | false =>
  obtain⟨r,k,he,hk,h0,hr⟩:=AoJ s h;rw[he];dsimp only[cond_false];unfold flV;have hz:r.length=0->k=0:=fun e=>h0 (F7.1 e);have e1:i64.wrap (8*(r.length:Int))=((8*r.length:Nat):Int):=by rw[w64 (by omega) (by omega)];omega
  have e2:i64.wrap (((8*r.length:Nat):Int) - (k:Int))=((8*r.length - k:Nat):Int):=by rw[w64 (by omega) (by omega)];omega
  rw[e1,e2,Int.toNat_natCast];have hn:8*r.length - k<=8*r.length:=Nat.sub_le _ _;generalize 8*r.length - k=n at hn;by_cases hn0:n=0
  .subst hn0;simp (disch:=omega) only[J4];refine(Xj (fun i acc=>(acc,(i:Int))) 0 (fun i acc=>acc) (fun acc=>some (acc,0)) ?_ ?_ N 0 (by omega)).trans rfl
   .intro i acc hi k2;omega
   .intro acc k2;simp (disch:=omega) only[J4]
  .have e3:i64.wrap ((n:Int) - 1)=((n - 1:Nat):Int):=by rw[w64 (by omega) (by omega)];omega
   have hB:=Ah9 N r (n - 1) (by omega) (by omega);rw[e3,hB];by_cases h16:16<n
   .simp (disch:=omega) only[J4,Option.isSome_some,Option.getD_some];rw[JD]
   .simp (disch:=omega) only[J4,Option.isSome_some,Option.getD_some];rw[<- JD];refine Ku fun _=> ?_;refine(Xj (fun i acc=>(acc,(i:Int))) n (fun i acc=>bif mM r i then JY .or .i64 acc (i64.wrap (1*2 ^ min i 64))else acc) (fun acc=>some (acc,0)) ?_ ?_ N 0 (by omega)).trans rfl
    .intro i acc hi k2;have hB:=Ah9 N r i (by omega) (by omega);have hu:=Amb (x:=(i:Int)) (by omega) (by omega);simp (disch:=omega) only[J4,hB,hu];cases mM r i<;>rfl
    .intro acc k2;simp (disch:=omega) only[J4]
def AaY (N:Nat) (s:Bs) (hN:1048578<N) (hs:s.length<=1048576):jI N s=some (flP s):=by
 unfold jI flP;try simp only[clR]
 rw[An5 N s hs,Js];cases h:(Vk s).2.2 != 0 with
 | true=>rfl
 | false =>
  obtain⟨r,k,he,hk,h0,hr⟩:=AoJ s h;rw[he];dsimp only[cond_false];unfold flV;have hz:r.length=0->k=0:=fun e=>h0 (F7.1 e);have e1:i64.wrap (8*(r.length:Int))=((8*r.length:Nat):Int):=by rw[w64 (by omega) (by omega)];omega
  have e2:i64.wrap (((8*r.length:Nat):Int) - (k:Int))=((8*r.length - k:Nat):Int):=by rw[w64 (by omega) (by omega)];omega
  rw[e1,e2,Int.toNat_natCast];have hn:8*r.length - k<=8*r.length:=Nat.sub_le _ _;have hlast:0<8*r.length - k->((((r.getD (r.length - 1) 0).toNat:Int).fdiv (2 ^ min k 8)).tmod 2==0)= !mM r (8*r.length - k - 1):=by intro hp;rw[(AkQ (r.getD (r.length - 1) 0).toNat_lt hk).2.2];unfold mM;rw[show(8*r.length - k - 1) / 8=r.length - 1 by omega,show 7 - (8*r.length - k - 1) % 8=k by omega]
  have hpos:0<8*r.length - k->0<r.length:=by omega
  generalize 8*r.length - k=n at hn hlast hpos;by_cases hn0:n=0
  .subst hn0;simp (disch:=omega) only[J4];refine(Xj (fun i acc=>(acc,(i:Int))) 0 (fun i acc=>acc) (fun acc=>some (acc,0)) ?_ ?_ N 0 (by omega)).trans rfl
   .intro i acc hi k2;omega
   .intro acc k2;simp (disch:=omega) only[J4]
  .have hL:=hlast (by omega);have hp:=hpos (by omega);by_cases h16:16<n
   .simp (disch:=omega) only[J4,hL];rw[JD]
   .simp (disch:=omega) only[J4,hL];rw[<- JD];refine Ku fun _=> ?_;refine(Xj (fun i acc=>(acc,(i:Int))) n (fun i acc=>bif mM r i then JY .or .i64 acc (i64.wrap (1*2 ^ min i 64))else acc) (fun acc=>some (acc,0)) ?_ ?_ N 0 (by omega)).trans rfl
    .intro i acc hi k2;have f1:(i:Int).tdiv 8=((i / 8:Nat):Int):=rfl;have f2:(i:Int).tmod 8=((i % 8:Nat):Int):=rfl;have f3:(7:Int) - ((i % 8:Nat):Int)=((7 - i % 8:Nat):Int):=by omega
     have hb:=(AkQ (r.getD (i / 8) 0).toNat_lt (show 7 - i % 8<8 by omega)).2.1;dsimp only[U2];rw[f1,f2,f3];simp (disch:=omega) only[J4,hb];unfold mM;cases (r.getD (i / 8) 0).toNat / 2 ^ (7 - i % 8) % 2==1<;>rfl
    .intro acc k2;simp (disch:=omega) only[J4]
end Go.Proofs.YtakmjgnpefmjhaaGreatDoor.Pl
namespace Go.Proofs.YtakmjgnpefmjhaaGreatDoor.Sp
def dX (b:UInt8):Int:=if b.toNat<128 then(b.toNat:Int)else(b.toNat:Int) - 256
def be (v:Int) (l:List UInt8):Int:=l.foldl (fun v b=>v*256+(b.toNat:Int)) v
def Aes:List UInt8->Bool
 | []=>true
 | [_]=>false
 | a::b::_=>(decide (a.toNat=0)&&decide (b.toNat<128))||(decide (a.toNat=255)&&decide (128<=b.toNat))
def Ap6:List UInt8->Int
 | []=>0
 | a::r=>be (dX a) r
def integer (l:List UInt8):Int×Int :=
 if Aes l then(0,7)else if 8<l.length then(0,1)else(Ap6 l,0)
def Agp (v:Int) (l:List UInt8) (b:UInt8):be v (b::l)=be (v*256+(b.toNat:Int)) l:=rfl
def AcP (b:UInt8): -128<=dX b/\dX b<=127:=by unfold dX;have:=b.toNat_lt;split<;>omega
def AwG (l:List UInt8): ∀ v:Int,-128<=v->v<=127 ->
 -(128*256 ^ l.length)<=be v l/\be v l<128*256 ^ l.length:=by
 have h: ∀(l:List UInt8) (v lo hi:Int),lo<=v->v<hi->lo*256 ^ l.length<=be v l/\be v l<hi*256 ^ l.length:=by
  intro l
  induction l with
  | nil=>intro v lo hi h1 h2;simp [be];omega
  | cons b r ih =>
   intro v lo hi h1 h2;have hb:=b.toNat_lt;have:=ih (v*256+(b.toNat:Int)) (lo*256) (hi*256) (by omega) (by omega);rw[Agp,List.length_cons,Int.pow_succ];have e1:lo*(256 ^ r.length*256)=lo*256*256 ^ r.length:=by rw[IU (256 ^ r.length) 256,Int.mul_assoc]
   have e2:hi*(256 ^ r.length*256)=hi*256*256 ^ r.length:=by rw[IU (256 ^ r.length) 256,Int.mul_assoc]
   rw[e1,e2];exact this
 intro v h1 h2;have:=h l v (-128) 128 h1 (by omega);rw[Int.neg_mul]at this;exact this
def AmC {m n:Nat} (h:m<=n):(256:Int) ^ m<=256 ^ n:=by have:=Int.ofNat_le.2 (FQ (n:=256) (by omega) h);rw[Int.natCast_pow,Int.natCast_pow]at this;exact this
def AuN (l:List UInt8) (hl:l.length<=7) (v:Int) (h1: -128<=v) (h2:v<=127) :
 -9223372036854775808<=be v l/\be v l<=9223372036854775807:=by
 have h:=AwG l v h1 h2;have hp:(256:Int) ^ l.length<=256 ^ 7:=by exact AmC hl
 have:(256:Int) ^ 7=72057594037927936:=by decide
 omega
def byteOf (q:Int):UInt8:=UInt8.ofNat (q % 256).toNat
def strip:List UInt8->List UInt8
 | []=>[]
 | [a]=>[a]
 | a::b::r=>if Aes (a::b::r)then strip (b::r)else a::b::r
def fits (q:Int):Prop:= -128<=q/\q<=127
instance (q:Int):Decidable (fits q):=inferInstanceAs (Decidable (_/\_))
end Go.Proofs.YtakmjgnpefmjhaaGreatDoor.Sp
