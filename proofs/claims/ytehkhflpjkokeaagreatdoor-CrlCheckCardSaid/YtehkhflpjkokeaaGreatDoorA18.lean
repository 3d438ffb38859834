import Derived.Test.YtehkhflpjkokeaaGreatDoorA17
set_option linter.all false
namespace Go.Proofs.YtehkhflpjkokeaaGreatDoor.Pl
open IntKind (i64 u8 u32 u64)
open Go Vm
def PO (l:Bs):Int×Bs×Bs:=((Sp.tag l:Int),Sp.content l,Sp.raw l)
def Ou (l:Bs):(Int×Bs×Bs)×Bs×Int:=if Sp.err l=0 then(PO l,Sp.rest l,0)else((0,[],[]),[],Sp.err l)
def Al2 {s:Bs} {p n:Nat} (hh:Sp.head s=(0,p,n)) (hp:p<=s.length):(if((s.length:Int) - p<n)then(some ((0,([]:Bs),([]:Bs)),([]:Bs),3):Option ((Int×Bs×Bs)×Bs×Int))else some ((((s.getD 0 0).toNat:Int),J6 s p (p+n),J6 s 0 (p+n)),J6 s (p+n) s.length,0))=some (Ou s):=by
 have e1: ∀ a b,(J6 s a b)=(s.take b).drop a:=fun a b=>rfl;by_cases h:(s.length:Int) - p<n
 .rw[Dp h];have:Sp.rd s=(3,0,0):=by unfold Sp.rd;rw[hh,Dp ⟨rfl,by show s.length - p<n;omega⟩]
  unfold Ou Sp.err;rw[this];rfl
 .rw[Dk h];have hr:Sp.rd s=(0,p,n):=by unfold Sp.rd;rw[hh,Dk (by intro hc;have:=hc.2;simp at this;omega)]
  have he:Sp.err s=0:=by unfold Sp.err;rw[hr]
  unfold Ou;rw[Dp he];unfold PO Sp.content Sp.raw Sp.rest;rw[hr,e1,e1,e1];congr 1;refine Ayx (Ayx ?_ (Ayx ?_ ?_)) (Ayx ?_ rfl)
  .show((s.getD 0 0).toNat:Int)=((Sp.tag s:Nat):Int);unfold Sp.tag;cases s<;>rfl
  .show(s.take (p+n)).drop p=(s.drop p).take n;rw[List.drop_take];congr 1;omega
  .show(s.take (p+n)).drop 0=_;rw[FP]
  .show(s.take s.length).drop (p+n)=_;rw[ES]
theorem take_snoc {α :Type} {l:List α} {i:Nat} (h:i<l.length):l.take (i+1)=l.take i++[l[i]]:=by simp_all
def Ad2 {l:Bs} {i:Nat} (h:i<l.length):Sp.beNat (l.take (i+1))=Sp.beNat (l.take i)*256+(l[i]).toNat:=by rw[take_snoc h,Sp.Ao1]
def AbN {l:Bs} (i:Nat) (hl:l.length<=3):Sp.beNat (l.take i)<16777216:=by
 have h1:=Sp.AsZ (l.take i);have h2:256 ^ (l.take i).length<=256 ^ 3:=Gu (by omega) (by rw[DZ];omega);have:(256:Nat) ^ 3=16777216:=by decide
 omega
def AqZ {ρ :Type} (N:Nat) (l:Bs) (hl:l.length<=3) (hN:4<N) (kx:Int->Option ρ) :
 Jz (X:=Int×Int×List Int) (Y:=Int) (U3 fun t7b t52b l45568b k2 x3 =>
  if t52b<((List.map (fun(b:UInt8)=>((b.toNat:Int))) l).length:Int)then if(0:Int)<=t52b then if t52b<(l45568b.length:Int)then if t52b.toNat<l45568b.length then
   k2 (J9 .or .i64 (i64.wrap (t7b*(256))) (i64.wrap (l45568b.getD t52b.toNat 0)),i64.wrap (t52b+(1:Int)),l45568b)else none else none else none
  else x3 t7b) N (0,0,List.map (fun(b:UInt8)=>((b.toNat:Int))) l) kx=kx (Sp.beNat l):=by
 refine MK (fun x=> ∃ i,i<=l.length/\x=((Sp.beNat (l.take i):Int),(i:Int),List.map (fun(b:UInt8)=>((b.toNat:Int))) l)) (fun x=>l.length - x.2.1.toNat) (fun _=>kx (Sp.beNat l)) ?_ N _ ⟨0,by omega,rfl⟩ (by show l.length - 0<N;omega);rintro x ⟨i,hi,rfl⟩ k hk;show(if(i:Int)<_ then _ else _)=_;rw[D5];by_cases h:i<l.length
 .dsimp only;rw[AyA,AyA,AyA,Int.toNat_natCast,Dp h];have hb:=(l[i]).toNat_lt;have hs:=AbN (l:=l) i hl;rw[show(List.map (fun(b:UInt8)=>((b.toNat:Int))) l).getD i 0=((l[i].toNat:Nat):Int) by simp [Dj,h]];rw[w64 (x:=((Sp.beNat (l.take i):Nat):Int)*256),w64 (x:=((l[i].toNat:Nat):Int)),w64 (x:=(i:Int)+1)];rw[show((Sp.beNat (l.take i):Nat):Int)*256=((Sp.beNat (l.take i)*256:Nat):Int) by omega,or8 _ _ (by omega) hb,<- Ad2 h];exact hk _ ⟨i+1,h,rfl⟩ (by show l.length - ((i:Int)+1).toNat<l.length - (i:Int).toNat;omega)
 .rw[Ay9];rw[Fb (by omega)]
def AtN (N:Nat) (k:Nat) (h1:1<=k) (h3:k<=3):AaJ N (k:Int)=some (Sp.leastOf k:Int):=by
 have:k=1\/k=2\/k=3:=by omega
 rcases this with rfl | rfl | rfl<;>rfl
set_option maxRecDepth 4000
def lI (N:Nat) (s:Bs) (hN:4<N) (hs:s.length<=1099511627776):Y3 N s=some (Ou s):=by
 unfold Y3;try simp -zeta only[Ap]
 cases s with
 | nil=>rfl
 | cons a r =>
  have ha:=a.toNat_lt;have h0:((a::r:Bs)==([]:Bs))=false:=rfl;simp only[h0,cond_false,G6,List.length_cons,mJ,Pn,AaQ,Ad4];simp only[AnL,Qc,EI,Dz,Eo,Du];rw[w64,Aow _ ha];by_cases h31:a.toNat % 32=31
  .have:Sp.err (a::r)=5:=by simp [Sp.err,Sp.rd,Sp.head,h31]
   unfold Ou;rw[this,AyA,AyA];rfl
  .rw[AyA,Ay9];cases r with
   | nil =>
    have:Sp.err [a]=3:=by simp [Sp.err,Sp.rd,Sp.head,h31]
    unfold Ou;rw[this,Dp (by simp)];rfl
   | cons b c =>
    have hb:=b.toNat_lt;simp only[List.length_cons]at hs;simp only[IP,G6,List.length_cons];rw[w64 (x:=((b.toNat:Nat):Int)),Ay9,AyA];by_cases h6:b.toNat=128\/131<b.toNat
    .have:Sp.err (a::b::c)=6:=by simp [Sp.err,Sp.rd,Sp.head,h31,h6,show ¬ b.toNat<128 by omega]
     unfold Ou;rw[this,AyA];rfl
    .rw[Ay9,NU]
     have hend: ∀ p n:Nat,Sp.head (a::b::c)=(0,p,n)->p<=c.length+2->n<=131072->(if i64.wrap (((c.length+1+1:Nat):Int) - (p:Int))<(n:Int)then some ((0,([]:Bs),([]:Bs)),([]:Bs),3)
      else if(0:Int)<=(p:Int)then if(p:Int)<=i64.wrap ((p:Int)+(n:Int))then if i64.wrap ((p:Int)+(n:Int))<=((c.length+1+1:Nat):Int)then if(0:Int)<=i64.wrap ((p:Int)+(n:Int))then
       if i64.wrap ((p:Int)+(n:Int))<=((c.length+1+1:Nat):Int)then if(0:Int)<=i64.wrap ((p:Int)+(n:Int))then if i64.wrap ((p:Int)+(n:Int))<=((c.length+1+1:Nat):Int)then
       some ((((a.toNat:Nat):Int),J6 (a::b::c) (p:Int).toNat (i64.wrap ((p:Int)+(n:Int))).toNat,J6 (a::b::c) 0 (i64.wrap ((p:Int)+(n:Int))).toNat),J6 (a::b::c) (i64.wrap ((p:Int)+(n:Int))).toNat (c.length+1+1),0)
       else none else none else none else none else none else none else none:Option ((Int×Bs×Bs)×Bs×Int))=some (Ou (a::b::c)):=by
      intro p n hh hp hn;have:=Al2 (s:=a::b::c) hh (by simp;omega);all_goals grind[w64]
     by_cases h128:b.toNat<128
     .rw[Ay9];exact hend 2 b.toNat (by simp [Sp.head,h31,h128]) (by omega) (by omega)
     .rw[AyA];obtain⟨k,hk⟩: ∃ k:Nat,b.toNat=128+k:=⟨b.toNat - 128,by omega⟩
      rw[w64 (x:=((b.toNat:Nat):Int) - 128),show((b.toNat:Nat):Int) - 128=(k:Int) by omega,w64 (x:=2+(k:Int))];by_cases hlen:c.length<k
      .rw[AyA];have:Sp.err (a::b::c)=3:=by simp [Sp.err,Sp.rd,Sp.head,h31,h128,h6,show b.toNat - 128=k by omega,hlen]
       unfold Ou;rw[this];rfl
      .have hcut:J6 (a::b::c) 2 ((2+(k:Int)).toNat)=c.take k:=by
        rw[show(2+(k:Int)).toNat=k+2 by omega];rfl
       have hlk:(c.take k).length=k:=by rw[DZ];omega
       rw[Ay9,AyA,AyA,hcut,AyA];rw[AqZ N (c.take k) (by omega) hN,AtN N k (by omega) (by omega),Jr];by_cases hbad:Sp.beNat (c.take k)<Sp.leastOf k\/131072<Sp.beNat (c.take k)
       .have:Sp.err (a::b::c)=6:=by simp [Sp.err,Sp.rd,Sp.head,h31,h128,h6,show b.toNat - 128=k by omega,hlen,hbad]
        unfold Ou;rw[AyA,this];rfl
       .rw[Ay9];have:=hend (2+k) (Sp.beNat (c.take k)) (by simp [Sp.head,h31,h128,h6,show b.toNat - 128=k by omega,hlen,hbad]) (by omega) (by omega);rw[show(((2+k:Nat)):Int)=2+(k:Int) by omega]at this;exact this
def Akj {ρ :Type} (N:Nat) (s:Bs) (k:Nat) (hk:k<=3) (hl:k+2<=s.length) (hs:s.length<=1099511627776) (hN:4<N) (kx:Int->Option ρ) :
 Jz (X:=Int×Int) (Y:=Int) (U2 fun t6b t9b k2 x3 =>
  if t9b<(k:Int)then if(0:Int)<=i64.wrap ((2:Int)+t9b)then if i64.wrap ((2:Int)+t9b)<(s.length:Int)then
   k2 (i64.wrap ((i64.wrap ((256:Int)*t6b))+i64.wrap ((s.getD ((i64.wrap ((2:Int)+t9b)).toNat) 0).toNat:Int)),i64.wrap (t9b+(1:Int)))else none else none
  else x3 t6b) N (0,0) kx=kx (Sp.beNat ((s.drop 2).take k)):=by
 have hlen:((s.drop 2).take k).length=k:=by rw[DZ,EJ];omega
 generalize hL:(s.drop 2).take k=l at hlen;refine MK (fun x=> ∃ i,i<=k/\x=((Sp.beNat (l.take i):Int),(i:Int))) (fun x=>k - x.2.toNat) (fun _=>kx (Sp.beNat l)) ?_ N _ ⟨0,by omega,rfl⟩ (by show k - 0<N;omega);rintro x ⟨i,hi,rfl⟩ kk hkk;show(if(i:Int)<_ then _ else _)=_;by_cases h:i<k
 .have hb:=(l[i]'(by omega)).toNat_lt;have hs':=AbN (l:=l) i (by omega);dsimp only;rw[AyA,w64 (x:=2+(i:Int)),AyA,AyA,show(2+(i:Int)).toNat=i+2 by omega]
  have e:s.getD (i+2) 0=l[i]'(by omega):=by
   have:l[i]? =s[i+2]? :=by rw[<- hL,Gg,Dp h,FO,Nat.add_comm]
   rw[Dj,<- this,DC (by omega)];rfl
  rw[e,w64 (x:=256*((Sp.beNat (l.take i):Nat):Int)),w64 (x:=(((l[i]'(by omega)).toNat:Nat):Int)),w64 (x:=(i:Int)+1),w64];have:=Ad2 (l:=l) (i:=i) (by omega);rw[show 256*((Sp.beNat (l.take i):Nat):Int)+(((l[i]'(by omega)).toNat:Nat):Int)=((Sp.beNat (l.take (i+1)):Nat):Int) by omega];exact hkk _ ⟨i+1,h,rfl⟩ (by show k - ((i:Int)+1).toNat<k - (i:Int).toNat;omega)
 .rw[Ay9,Fb (by omega)]
def ArG (k:Nat) (h1:1<=k) (h3:k<=3):(([0,128,256,65536]:List Int).getD k 0)=(Sp.leastOf k:Int):=by
 have:k=1\/k=2\/k=3:=by omega
 rcases this with rfl | rfl | rfl<;>rfl
def ZL (N:Nat) (s:Bs) (hN:4<N) (hs:s.length<=1099511627776):XH N s=some (Ou s):=by
 unfold XH;try simp -zeta only[Ap]
 cases s with
 | nil=>rfl
 | cons a r =>
  have ha:=a.toNat_lt;simp only[G6,List.length_cons,mJ,Pn,AaQ,Ad4];simp only[AnL,Qc,EI,Dz,Eo,Du];rw[Ay9,AyA];have ht:((a.toNat:Nat):Int).tmod 32=((a.toNat % 32:Nat):Int):=by rw[DU (by omega)];omega
  rw[ht];by_cases h31:a.toNat % 32=31
  .have:Sp.err (a::r)=5:=by simp [Sp.err,Sp.rd,Sp.head,h31]
   unfold Ou;rw[this,AyA];rfl
  .rw[Ay9];cases r with
   | nil =>
    have:Sp.err [a]=3:=by simp [Sp.err,Sp.rd,Sp.head,h31]
    unfold Ou;rw[this];rfl
   | cons b c =>
    have hb:=b.toNat_lt;simp only[List.length_cons]at hs;simp only[IP,G6,List.length_cons];rw[w64 (x:=((b.toNat:Nat):Int)),Ay9,AyA];by_cases h6:b.toNat=128\/131<b.toNat
    .have:Sp.err (a::b::c)=6:=by simp [Sp.err,Sp.rd,Sp.head,h31,h6,show ¬ b.toNat<128 by omega]
     unfold Ou;rw[this,AyA];rfl
    .rw[Ay9,NU]
     have hend: ∀ p n:Nat,Sp.head (a::b::c)=(0,p,n)->p<=c.length+2->n<=131072->(if i64.wrap (((c.length+1+1:Nat):Int) - (p:Int))<(n:Int)then some ((0,([]:Bs),([]:Bs)),([]:Bs),3)
      else if(0:Int)<((c.length+1+1:Nat):Int)then if(0:Int)<=(p:Int)then if(p:Int)<=i64.wrap ((p:Int)+(n:Int))then if i64.wrap ((p:Int)+(n:Int))<=((c.length+1+1:Nat):Int)then if(0:Int)<=i64.wrap ((p:Int)+(n:Int))then
       if i64.wrap ((p:Int)+(n:Int))<=((c.length+1+1:Nat):Int)then if(0:Int)<=i64.wrap ((p:Int)+(n:Int))then if i64.wrap ((p:Int)+(n:Int))<=((c.length+1+1:Nat):Int)then
       some ((i64.wrap ((a.toNat:Nat):Int),J6 (a::b::c) (p:Int).toNat (i64.wrap ((p:Int)+(n:Int))).toNat,J6 (a::b::c) 0 (i64.wrap ((p:Int)+(n:Int))).toNat),J6 (a::b::c) (i64.wrap ((p:Int)+(n:Int))).toNat (c.length+1+1),0)
       else none else none else none else none else none else none else none else none:Option ((Int×Bs×Bs)×Bs×Int))=some (Ou (a::b::c)):=by
      intro p n hh hp hn;have:=Al2 (s:=a::b::c) hh (by simp;omega);all_goals grind[w64]
     by_cases h128:b.toNat<128
     .rw[Ay9];exact hend 2 b.toNat (by simp [Sp.head,h31,h128]) (by omega) (by omega)
     .rw[AyA];obtain⟨k,hk⟩: ∃ k:Nat,b.toNat=128+k:=⟨b.toNat - 128,by omega⟩
      rw[w64 (x:=((b.toNat:Nat):Int) - 128),show((b.toNat:Nat):Int) - 128=(k:Int) by omega,w64 (x:=2+(k:Int))];by_cases hlen:c.length<k
      .rw[AyA];have:Sp.err (a::b::c)=3:=by simp [Sp.err,Sp.rd,Sp.head,h31,h128,h6,show b.toNat - 128=k by omega,hlen]
       unfold Ou;rw[this];rfl
      .rw[Ay9];have hd:=fun kx=>Akj (ρ :=(Int×Bs×Bs)×Bs×Int) N (a::b::c) k (by omega) (by simp;omega) (by simp;omega) hN kx;refine E5 (hd _) ?_;show(if(0:Int)<=(k:Int)then _ else _)=_;have hdr:((a::b::c).drop 2).take k=c.take k:=rfl;rw[hdr,AyA,AyA,Int.toNat_natCast,AyA,ArG k (by omega) (by omega)];by_cases hbad:Sp.beNat (c.take k)<Sp.leastOf k\/131072<Sp.beNat (c.take k)
       .have:Sp.err (a::b::c)=6:=by simp [Sp.err,Sp.rd,Sp.head,h31,h128,h6,show b.toNat - 128=k by omega,hlen,hbad]
        unfold Ou;rw[AyA,this];rfl
       .rw[Ay9];have:=hend (2+k) (Sp.beNat (c.take k)) (by simp [Sp.head,h31,h128,h6,show b.toNat - 128=k by omega,hlen,hbad]) (by omega) (by omega);rw[show(((2+k:Nat)):Int)=2+(k:Int) by omega]at this;exact this
def Ag2 (s:Bs):(Int×Bs×Bs)×Int:=if Sp.Qq s=0 then(PO s,0)else((0,[],[]),Sp.Qq s)
theorem zY {s:Bs} (h:Sp.Qq s=0):Sp.err s=0/\Sp.rest s=[]:=by unfold Sp.Qq at h;by_cases he:Sp.err s=0;all_goals simp_all[Bs]
def Aqs (N:Nat) (s:Bs) (hN:4<N) (hs:s.length<=1099511627776):Xc N s=some (Ag2 s):=by
 unfold Xc;rw[lI N s hN hs,Jr];unfold Ou Ag2 Sp.Qq;by_cases he:Sp.err s=0
 .rw[Dp he];by_cases hr:Sp.rest s=[]
  .simp [he,hr,Qc]
  .simp [he,hr,Qc]
 .rw[Dk he];simp [he,Qc]
def Al5 (N:Nat) (s:Bs) (hN:4<N) (hs:s.length<=1099511627776):jQ N s=some (Ag2 s):=by
 unfold jQ;rw[ZL N s hN hs,Jr];unfold Ou Ag2 Sp.Qq;by_cases he:Sp.err s=0
 .rw[Dp he];by_cases hr:Sp.rest s=[]
  .simp [he,hr]
  .have:0<(Sp.rest s).length:=by cases h:Sp.rest s with | nil=>exact absurd h hr | cons _ _=>simp
   simp [he,hr,this,Qc]
 .rw[Dk he];simp [he,Qc]
def AaH (s:Bs):Sp.tag s<256:=Hq _
def SB (e:Int×Bs×Bs) (d:Nat):Int:=if e.1 / 32 % 2=1 then Sp.within (e.2.1.length+1) d e.2.1 else 0
theorem Vx: ∀(f g d:Nat) (l:Bs),l.length<f->l.length<g->Sp.within f d l=Sp.within g d l:=by
 intro f
 induction f with
 | zero=>intro g d l h;omega
 | succ f ih =>
  intro g d l hf hg;cases g with
  | zero=>omega
  | succ g =>show(if l=[]then _ else _)=if l=[]then _ else _;all_goals grind[Sp.Tj,Sp.Aof]
def YU {B:Bs->(Bs->Option Int)->(Unit->Option Int)->Option Int} {kx:Unit->Option Int} (d L:Nat)
 (hB: ∀ x k,x≠ []->x.length<=L->B x k kx=if Sp.err x≠0 then some (Sp.err x)else if 16<=d then some 8 else if SB (PO x) (d+1)≠0 then some (SB (PO x) (d+1))else k (Sp.rest x))
 (hend: ∀ k,B [] k kx=some 0) (N:Nat) (x:Bs) (hx:x.length<=L) (hN:x.length<N):Jz B N x kx=some (Sp.within (x.length+1) d x):=by
 refine MK (fun x=>x.length<=L) (fun x=>x.length) (fun x=>some (Sp.within (x.length+1) d x)) ?_ N x hx hN;intro x hx k hk;by_cases h0:x=[]
 .subst h0;rw[hend];rfl
 .rw[hB x k h0 hx];by_cases he:Sp.err x=0
  .rw[Dk (by simp [he])];by_cases hd:16<=d
   .rw[Dp hd,Sp.AnD _ _ _ h0 he hd]
   .rw[Dk hd];have h1:=Sp.Tj x he;have h2:=Sp.Aof x he;have hin:SB (PO x) (d+1)=Sp.inner x.length (d+1) (Sp.tag x) (Sp.content x):=by unfold SB Sp.inner Sp.cons PO;all_goals grind[Vx]
    rw[hin];by_cases hi:Sp.inner x.length (d+1) (Sp.tag x) (Sp.content x)=0
    .rw[Dk (by simp [hi]),hk _ (by show(Sp.rest x).length<=L;omega) h2,Sp.Aco _ _ _ h0 he hd hi];rw[Vx _ x.length d (Sp.rest x) (Nat.lt_succ_self _) h2]
    .rw[Dp hi,Sp.Aqy _ _ _ h0 he hd hi]
  .grind[Sp.Aq0]
def As9 (N:Nat) (hN:4<N): ∀(m n:Nat),m<n-> ∀(e:Int×Bs×Bs) (d:Nat),d+m=16->0<=e.1->e.1<256->e.2.1.length<N->e.2.1.length<=1099511627776 ->
 RD N n e (d:Int)=some (SB e d):=by
 intro m
 induction m with
 | zero =>
  intro n hn e d hd h0 h1 h2 h3;obtain⟨n,rfl⟩: ∃ k,n=k+1:=⟨n - 1,by omega⟩
  show RF N (RD N n) e d=_;unfold RF SB;obtain⟨t,ht⟩: ∃ t:Nat,e.1=(t:Int):=⟨e.1.toNat,by omega⟩
  rw[ht,AuI t (by omega)];by_cases hc:t / 32 % 2=1
  .rw[Dp hc,AyA];refine YU d e.2.1.length (fun x k hx hl=> ?_) (fun k=>rfl) N _ (DN _) h2;have:(x==([]:Bs))=false:=by cases x with | nil=>exact absurd rfl hx | cons _ _=>rfl
   dsimp only;rw[this,lI N x hN (by omega),Jr];unfold Ou;simp only[Qc,Ey,Dz,DY];by_cases he:Sp.err x=0;all_goals simp_all[Bs,RD,SB]
  .rw[Dk hc,Ay9];rfl
 | succ m ih =>
  intro n hn e d hd h0 h1 h2 h3;obtain⟨n,rfl⟩: ∃ k,n=k+1:=⟨n - 1,by omega⟩
  show RF N (RD N n) e d=_;unfold RF SB;obtain⟨t,ht⟩: ∃ t:Nat,e.1=(t:Int):=⟨e.1.toNat,by omega⟩
  rw[ht,AuI t (by omega)];by_cases hc:t / 32 % 2=1
  .rw[Dp hc,AyA];refine YU d e.2.1.length (fun x k hx hl=> ?_) (fun k=>rfl) N _ (DN _) h2;have:(x==([]:Bs))=false:=by cases x with | nil=>exact absurd rfl hx | cons _ _=>rfl
   dsimp only;rw[this,lI N x hN (by omega),Jr];unfold Ou;simp only[Qc,Ey,Dz,DY];by_cases he:Sp.err x=0
   .rw[Dp he];simp only[he,ne_eq,Jm,GU,Ji];have hcl:=Sp.Tj x he;have htl:=AaH x;rw[Ay9,Ay9,w64,show(d:Int)+1=((d+1:Nat):Int) by omega,ih n (by omega) (PO x) (d+1) (by omega) (by show(0:Int)<=((Sp.tag x:Nat):Int);omega) (by show((Sp.tag x:Nat):Int)<256;omega) (by show(Sp.content x).length<N;omega) (by show(Sp.content x).length<=_;omega),Jr]
   .rw[Dk he];simp [he]
  .rw[Dk hc,Ay9];rfl
def Atj (N:Nat) (hN:4<N): ∀(m n:Nat),m<n-> ∀(e:Int×Bs×Bs) (d:Nat),d+1+m=16->0<=e.1->e.1<256->e.2.1.length<N->e.2.1.length<=1099511627776 ->
 RV N n e (d:Int)=some (SB e (d+1)):=by
 intro m
 induction m with
 | zero =>
  intro n hn e d hd h0 h1 h2 h3;obtain⟨n,rfl⟩: ∃ k,n=k+1:=⟨n - 1,by omega⟩
  show Qv N (RV N n) e d=_;unfold Qv SB;rw[DX h0,w64,DU (by omega)];by_cases hc:e.1 / 32 % 2=1
  .rw[Dp hc,hc];refine YU (d+1) e.2.1.length (fun x k hx hl=> ?_) (fun k=>rfl) N _ (DN _) h2;have:0<x.length:=by cases x with | nil=>exact absurd rfl hx | cons _ _=>simp
   dsimp only;rw[ZL N x hN (by omega),Jr];unfold Ou;simp only[Qc,Ey,Dz];all_goals grind[w64]
  .rw[Dk hc,show e.1 / 32 % 2=0 by omega];rfl
 | succ m ih =>
  intro n hn e d hd h0 h1 h2 h3;obtain⟨n,rfl⟩: ∃ k,n=k+1:=⟨n - 1,by omega⟩
  show Qv N (RV N n) e d=_;unfold Qv SB;rw[DX h0,w64,DU (by omega)];by_cases hc:e.1 / 32 % 2=1
  .rw[Dp hc,hc];refine YU (d+1) e.2.1.length (fun x k hx hl=> ?_) (fun k=>rfl) N _ (DN _) h2;have:0<x.length:=by cases x with | nil=>exact absurd rfl hx | cons _ _=>simp
   dsimp only;rw[ZL N x hN (by omega),Jr];unfold Ou;simp only[Qc,Ey,Dz];rw[AyA,w64];by_cases he:Sp.err x=0
   .rw[Dp he];simp only[he,ne_eq,Jm,GU];have hcl:=Sp.Tj x he;have htl:=AaH x;rw[Ay9,Ay9,show(d:Int)+1=((d+1:Nat):Int) by omega,ih n (by omega) (PO x) (d+1) (by omega) (by show(0:Int)<=((Sp.tag x:Nat):Int);omega) (by show((Sp.tag x:Nat):Int)<256;omega) (by show(Sp.content x).length<N;omega) (by show(Sp.content x).length<=_;omega),Jr]
   .rw[Dk he];simp [he]
  .rw[Dk hc,show e.1 / 32 % 2=0 by omega];rfl
def Aew {s:Bs} (h:Sp.Qq s=0):SB (PO s) 1=Sp.chk s:=by unfold Sp.chk;rw[Dk (by simp [h])];unfold SB Sp.inner Sp.cons PO;all_goals grind[Sp.Tj,zY,Vx]
def Amd (N:Nat) (s:Bs) (hN:16<N) (hs:s.length<=1099511627776) (hl:s.length<N):Z4 N s=some (Sp.chk s):=by
 unfold Z4;rw[Aqs N s (by omega) hs,Jr];unfold Ag2;by_cases h:Sp.Qq s=0
 .have h1:=Sp.Tj s (zY h).1;have h2:=AaH s;rw[Dp h,<- Aew h];have:=As9 N (by omega) 15 N (by omega) (PO s) 1 rfl (by show(0:Int)<=((Sp.tag s:Nat):Int);omega) (by show((Sp.tag s:Nat):Int)<256;omega) (by show(Sp.content s).length<N;omega) (by show(Sp.content s).length<=_;omega);all_goals grind[Jq,RD,PO,Jr]
 .rw[Dk h];have:Sp.chk s=Sp.Qq s:=by unfold Sp.chk;rw[Dp h]
  simp [Qc,h,this]
theorem AgC (N:Nat) (s:Bs) (hN:16<N) (hs:s.length<=1099511627776) (hl:s.length<N):VQ N s=some (Sp.chk s):=by
 unfold VQ;rw[Al5 N s (by omega) hs,Jr];unfold Ag2;by_cases h:Sp.Qq s=0
 .have h1:=Sp.Tj s (zY h).1;have h2:=AaH s;rw[Dp h,<- Aew h];have:=Atj N (by omega) 15 N (by omega) (PO s) 0 rfl (by show(0:Int)<=((Sp.tag s:Nat):Int);omega) (by show((Sp.tag s:Nat):Int)<256;omega) (by show(Sp.content s).length<N;omega) (by show(Sp.content s).length<=_;omega);all_goals grind[Jq,RV,PO,Jr]
 .rw[Dk h];have:Sp.chk s=Sp.Qq s:=by unfold Sp.chk;rw[Dp h]
  simp [Qc,h,this]
def KJ (t:Nat) (c:Bs):Option Bs:=if c.length<=131072 then some (Sp.elem t c)else none
theorem Xd {t:Nat} {c:Bs}:((KJ t c).getD []).length<=131077:=by grind[KJ,Sp.JO]
def Ahy: ∀(l:List Bs),([]:Bs).intercalate l=l.flatten
 | []=>rfl
 | [a]=>by simp [List.intercalate]
 | a::b::r=>by have:=Ahy (b::r);simp only[List.intercalate,List.intersperse,List.flatten_cons]at this ⊢;simp [this]
theorem iV (n:Nat):Vm.byteOf (u8.wrap (n:Int))=UInt8.ofNat n:=by rw[w8];unfold Vm.byteOf;rw[show((n:Int) % 256).toNat=n % 256 by omega];apply UInt8.toNat.inj;simp
def Ak1 (n k:Nat):(n:Int).fdiv (k:Int)=((n / k:Nat):Int):=by grind
def head_eq {ρ :Type} (t n:Nat) (ht:t<256) (K:List Int->Option ρ) (K':Bs->Option ρ) (hK: ∀ l,List.all l isByte=true->l.length<=5->K l=K' (List.map Vm.byteOf l)) :
 (bif decide ((n:Int)<(128:Int))then K ([u8.wrap (t:Int),u8.wrap (n:Int)]:List Int)
   else bif decide ((n:Int)<(256:Int))then K ([u8.wrap (t:Int),129,u8.wrap (n:Int)]:List Int)
   else bif decide ((n:Int)<(65536:Int))then K ([u8.wrap (t:Int),130,u8.wrap ((n:Int).fdiv (256)),u8.wrap (n:Int)]:List Int)
   else K ([u8.wrap (t:Int),131,u8.wrap ((n:Int).fdiv (65536)),u8.wrap ((n:Int).fdiv (256)),u8.wrap (n:Int)]:List Int))=K' (UInt8.ofNat t::Sp.OM n):=by
 have f1:=Ak1 n 256;have f2:=Ak1 n 65536;have g1: ∀ k:Nat,isByte (k:Int)=decide (k<256):=fun k=>by unfold isByte;simp;omega
 rw[show((256:Nat):Int)=256 from rfl]at f1;rw[show((65536:Nat):Int)=65536 from rfl]at f2;rw[f1,f2];unfold Sp.OM;simp only[VL];by_cases h1:n<128
 .grind[Tc,iV]
 .rw[Ay9,Dk h1];by_cases h2:n<256
  .rw[AyA,Dp h2,hK _ (by simp [Tc];decide) (by simp)];simp only[Em,Fg,iV];rfl
  .rw[Ay9,Dk h2];by_cases h3:n<65536
   .rw[AyA,Dp h3,hK _ (by simp [Tc];decide) (by simp)];simp only[Em,Fg,iV];rfl
   .rw[Ay9,Dk h3,hK _ (by simp [Tc];decide) (by simp)];simp only[Em,Fg,iV];rfl
def Au8 {ρ :Type} (bad:Option ρ) (fin:Nat->Option ρ): ∀(l:List Bs) (s: {n:Nat // n<=131072}),
 AaV (fun(e:Bs) (s: {n:Nat // n<=131072}) (k: {n:Nat // n<=131072}->Option ρ)=>if h:s.1+e.length<=131072 then k ⟨s.1+e.length,h⟩else bad) (fun s=>fin s.1) l s=if s.1+l.flatten.length<=131072 then fin (s.1+l.flatten.length)else bad:=by
 intro l
 induction l with
 | nil=>grind[AaV]
 | cons e r ih =>
  intro s;show(if h:s.1+e.length<=131072 then _ else bad)=_;rw[List.flatten_cons,Dx];by_cases h:s.1+e.length<=131072
  .rw[Io h,ih];dsimp only;rw[EL]
  .rw[Jj h,Ay9]
def Au3 {ρ :Type} (N:Nat) (l:List Bs) (hN:l.length<N) (hl:l.length<=1099511627776) (bad:Option ρ) (kx:Int->Option ρ) :
 Jz (X:=Int×Int) (Y:=Int) (U2 fun t6a t23a k1 x2 =>
  bif decide (t23a<(l.length:Int))then(Vm.chk (decide ((0:Int)<=t23a)) <|
  Vm.chk (decide (t23a<(l.length:Int))) <|
  let x31:Bool:=decide (((l.getD t23a.toNat ([]:Bs)).length:Int)>(i64.wrap ((131072:Int) - t6a)))
  bif x31 then bad
  else(k1 (i64.wrap (t6a+((l.getD t23a.toNat ([]:Bs)).length:Int)),i64.wrap (t23a+(1:Int)))))
  else(x2 t6a)) N (0,0) kx=if l.flatten.length<=131072 then kx (l.flatten.length:Int)else bad:=by
 refine E5 (Apn (S:= {n:Nat // n<=131072}) (fun i s=>((s.1:Int),i)) l ([]:Bs) (fun e s k=>if h:s.1+e.length<=131072 then k ⟨s.1+e.length,h⟩else bad) (fun s=>(fun n:Nat=>kx (n:Int)) s.1) ?_ ?_ N ⟨0,by omega⟩ hN) ?_
 .intro i s k hi;have hs:=s.2;show(bif decide ((i:Int)<(l.length:Int))then _ else _)=_;simp only[VL,mG,Int.toNat_natCast];all_goals grind[w64]
 .simp_all[VL,Bs,Jz,U2]
 .refine(Au8 bad (fun n:Nat=>kx (n:Int)) l ⟨0,by omega⟩).trans ?_;dsimp only;rw[DV]
def VV (N t:Nat) (l:List Bs) (ht:t<256) (h31:t % 32≠31) (hN:l.length<N:=by omega) (hl:l.length<=1099511627776:=by omega):KI N (t:Int) l=some ((KJ t l.flatten).getD [],if(KJ t l.flatten).isNone then 6 else 0):=by
 unfold KI;try simp -zeta only[Ap]
 simp only[mJ,Pn,AaQ,AaP,Og,Ad4,Aow t ht];rw[show(decide ((t:Int)<0)||decide ((t:Int)>255)||((t % 32:Nat):Int)==31)=false by simp;omega,cond_false];refine E5 (Au3 N l hN hl _ _) ?_;unfold KJ;by_cases h:l.flatten.length<=131072
 .rw[Dp h,Dp h,NU];refine E5 (head_eq t l.flatten.length ht (fun l1:List Int=>Vm.chk (List.all l1 isByte)<|Jq (strings_Join N l ([]:Bs)) fun r81=>Vm.chk (decide ((List.map Vm.byteOf l1).length+r81.length<=140737488355328))<|some ((List.map Vm.byteOf l1)++r81,(0:Int))) (fun h=>some (h++l.flatten,0)) (fun l' hl' hl5=> ?_)) rfl;rw[hl',Jv];unfold strings_Join;rw[Ahy,Di (show l.length<=140737488355328 by omega),Di (show l.flatten.length<=140737488355328 by omega)];show Vm.chk (decide ((List.map Vm.byteOf l').length+l.flatten.length<=140737488355328)) _=_;all_goals grind[mG]
 .rw[Dk h,Dk h];rfl
def ZM (N t:Nat) (l:List Bs) (ht:t<256) (h31:t % 32≠31) (hN:l.length<N:=by omega) (hl:l.length<=1099511627776:=by omega) (hs:l.flatten.length<=140737488355328:=by omega):Rj N (t:Int) l=some ((KJ t l.flatten).getD [],if(KJ t l.flatten).isNone then 6 else 0):=by
 unfold Rj;try simp -zeta only[Ap]
 simp only[mJ,Pn,AaQ,AaP,Og,Ad4];rw[show(decide ((t:Int)<0)||decide ((t:Int)>255)||(t:Int).tmod 32==31)=false by rw[DU (by omega)];simp;omega,cond_false];refine E5 (MK (fun x=> ∃ i,i<=l.length/\x=((l.take i).flatten,(i:Int))) (fun x=>l.length - x.2.toNat) (fun _=>some ((KJ t l.flatten).getD [],if(KJ t l.flatten).isNone then 6 else 0)) ?_ N _ ⟨0,by omega,rfl⟩ (by show l.length - 0<N;omega)) rfl;rintro x ⟨i,hi,rfl⟩ k hk;show(bif decide ((i:Int)<(l.length:Int))then _ else _)=_;by_cases h:i<l.length
 .simp only[VL,mG,Int.toNat_natCast];have e:(l.take i).flatten++l.getD i []=(l.take (i+1)).flatten:=by all_goals grind[take_snoc]
  have hle:(l.take (i+1)).flatten.length<=l.flatten.length:=by
   conv=>rhs;rw[<- GM (i+1) l,G9,Dx]
   omega
  have e2:(l.take i).flatten.length+(l.getD i []).length<=140737488355328:=by rw[<- Dx,e];omega
  rw[AyA,AyA,AyA,Dp e2,e,w64];exact hk _ ⟨i+1,h,rfl⟩ (by show l.length - ((i:Int)+1).toNat<l.length - (i:Int).toNat;omega)
 .have hil:i=l.length:=by omega
  subst hil;rw[VL,Ay9];dsimp only;rw[ES];unfold KJ;by_cases h:l.flatten.length<=131072
  .rw[Dp h,VL,Ay9,NU];have:=head_eq t l.flatten.length ht (fun l':List Int=>Vm.chk (List.all l' isByte)<|Vm.chk (decide ((List.map Vm.byteOf l').length+l.flatten.length<=140737488355328))<|some ((List.map Vm.byteOf l')++l.flatten,(0:Int))) (fun h=>some (h++l.flatten,0)) (fun l' hl' hl5=>by rw[hl',Jv,mG,Dp (by rw[D5];omega)]);refine E5 ?_ this;simp only[VL];by_cases h1:l.flatten.length<128
   .rw[Ay9,Ay9,Ay9,AyA]
   .by_cases h2:l.flatten.length<256
    .rw[Ay9,Ay9,AyA,Ay9,AyA]
    .by_cases h3:l.flatten.length<65536
     .rw[Ay9,AyA,Ay9,Ay9,AyA]
     .rw[AyA,Ay9,Ay9,Ay9]
  .rw[Dk h,VL,AyA];rfl
def YV (N t:Nat) (l:List Bs) (ht:t<256) (h31:t % 32≠31) (hN:l.length<N) (hl:l.length<=1099511627776) (hs:l.flatten.length<=140737488355328):MI N (t:Int) l=some ((KJ t l.flatten).getD [],if(KJ t l.flatten).isNone then 2 else 0):=by unfold MI;rw[ZM N t l ht h31 hN hl hs,Jr];cases KJ t l.flatten<;>rfl
def lM (N:Nat) (b:Bool) (s:Bs) (e:Int):JV N b s e=some (s,b||decide (e≠0)):=by
 unfold JV;try simp -zeta only[Ap]
 cases b<;>simp [Vm.chk,bne,BEq.beq,decide_not]
def Af0 (N t:Nat) (b:Bool) (l:List Bs) (ht:t<256) (h31:t % 32≠31) (hN:l.length<N) (hl:l.length<=1099511627776):JJ N b (t:Int) l=some ((KJ t l.flatten).getD [],b||(KJ t l.flatten).isNone):=by unfold JJ;rw[VV N t l ht h31 hN hl,Jr,lM,Jr];cases KJ t l.flatten<;>simp
def lK (N:Nat) (b:Bool) (l:List Bs) (hN:l.length<N) (hl:l.length<=1099511627776:=by simp):Ko N b l=some ((KJ 48 l.flatten).getD [],b||(KJ 48 l.flatten).isNone):=by unfold Ko;rw[show(48:Int)=((48:Nat):Int)from rfl,Af0 N 48 b l (by omega) (by omega) hN hl,Jr]
abbrev El:=Int×Bs×Bs
def AaY (M:Nat) (e:El):Prop:= ∃ t:Bs,Sp.err t=0/\e=PO t/\t.length<=M
structure Good (M:Nat) (l:List El):Prop where
 len:l.length<=M
 all: ∀ e∈l,AaY M e
 AwK:(l.map (·.2.2)).flatten.length<=M
def AaY.mono {M K:Nat} {e:El} (h:AaY M e) (hk:M<=K):AaY K e:=by obtain⟨t,h1,h2,h3⟩:=h;exact⟨t,h1,h2,by omega⟩
def AaY.content {M:Nat} {e:El} (h:AaY M e):e.2.1.length+2<=e.2.2.length/\e.2.2.length<=M/\0<=e.1/\e.1<256:=by obtain⟨t,h1,rfl,h3⟩:=h;have:=Sp.AeY t h1;have hr:=Sp.ApU t h1;have hc:=Sp.AfE t h1;have ht:=AaH t;show(Sp.content t).length+2<=(Sp.raw t).length/\(Sp.raw t).length<=M/\0<=((Sp.tag t:Nat):Int)/\((Sp.tag t:Nat):Int)<256;omega
def Good.mono {M K:Nat} {l:List El} (h:Good M l) (hk:M<=K):Good K l:=⟨by have:=h.len;omega,fun e he=>(h.all e he).mono hk,by have:=h.AwK;omega⟩
def Good.tail {M:Nat} {e:El} {l:List El} (h:Good M (e::l)):Good M l:=⟨by have:=h.len;simp at this;omega,fun e he=>h.all e (Dw _ he),by have:=h.AwK;rw[Em,List.flatten_cons,Dx]at this;omega⟩
def SX (s:Bs):Bool:=(MR s).isSome
def PL (s:Bs):Prop:=s.length<=1048576
def Ali (N:Nat) (s:Bs) (hN:1048578<N) (hs:PL s):UQ N s=some (SX s):=(bU N s (by omega) hs (by unfold PL at hs;omega)).1
def Aml (N:Nat) (s:Bs) (hN:1048578<N) (hs:PL s):OQ N s=some (SX s):=(bU N s (by omega) hs (by unfold PL at hs;omega)).2
def AwV (m:Bs×Bs):Prop:=PL m.1/\PL m.2
abbrev Ex:Type:=Bs×Bool×Bs
def Ave (N:Nat) (l:List Ex) (s:Bs) (hN:l.length<N) (hl:l.length<=1048576): ∃ r,XN N l s=some (r,l.any (fun x=>x.1==s)):=by
 unfold XN;try simp -zeta only[Ap]
 refine⟨_,(Rh (S:=Unit) (R:=Ex) (mk:=fun i _=>(i:Int)) l ([],false,[]) (fun r _=>bif r.1==s then .inl r else .inr ()) (fun r=>some (r,true)) (fun _=>some (([],false,[]),false)) ?_ ?_ N ()).trans (?_:_=some ((QW (fun(r:Ex) (_:Unit)=>bif r.1==s then Sum.inl r else Sum.inr ()) l ()).elim id (fun _=>([],false,[])),l.any (fun x=>x.1==s)))⟩
 .intro i _ hi k;simp (disch:=omega) only[JZ,KU]
 .intro _ k;simp (disch:=omega) only[JZ]
 .clear hN hl
  induction l with
  | nil=>rfl
  | cons r t ih =>
   rw[QX,List.any_cons];cases r.1==s with
   | true=>rfl
   | false=>exact ih
def VT (x:Ex):Prop:=PL x.1/\PL x.2.2
abbrev Info:Type:=Bool×Bool×Int×Int×List Bs×List Bs×List (Bs×Bs)×Int×Int×Int×List Gn×Bool×List Gn×List Gn×Bs×Bs×List Pt×List Pt×List Ex
def VH (l:List Pt):Int:=bif decide (4<l.length)then 2 else KP ptI l
structure AxM (x:Info):Prop where
 pu:x.2.2.2.2.1.length<=1048576/\ ∀ s∈x.2.2.2.2.1,PL s
 po:x.2.2.2.2.2.1.length<=1048576/\ ∀ s∈x.2.2.2.2.2.1,PL s
 ma: ∀ s∈x.2.2.2.2.2.2.1,AwV s
 na:LZ x.2.2.2.2.2.2.2.2.2.2.1
 pe:LZ x.2.2.2.2.2.2.2.2.2.2.2.2.1
 ex:LZ x.2.2.2.2.2.2.2.2.2.2.2.2.2.1
 pt: ∀ p∈x.2.2.2.2.2.2.2.2.2.2.2.2.2.2.2.2.1,Nu p
 fr: ∀ p∈x.2.2.2.2.2.2.2.2.2.2.2.2.2.2.2.2.2.1,Nu p
 un:x.2.2.2.2.2.2.2.2.2.2.2.2.2.2.2.2.2.2.length<=1048576/\ ∀ p∈x.2.2.2.2.2.2.2.2.2.2.2.2.2.2.2.2.2.2,VT p
def RY {t:Nat} {c:Bs} (h:c.length<=131072:=by omega):KJ t c=some (Sp.elem t c):=by unfold KJ;rw[Dp h]
def gW (N t:Nat) (l:List Bs) (ht:t<256) (h31:t % 32≠31) (hN:1048578<N) (hl:l.length<=1000) (hs:l.flatten.length<=131072):KI N (t:Int) l=some (Sp.elem t l.flatten,0):=by rw[VV N t l ht h31,RY hs];rfl
def RX (N t:Nat) (l:List Bs) (ht:t<256) (h31:t % 32≠31) (hN:1048578<N) (hl:l.length<=1000) (hs:l.flatten.length<=131072):JP N (t:Int) l=some (Sp.elem t l.flatten):=by unfold JP;rw[ZM N t l ht h31,Jr,RY hs];rfl
def ZT (N t:Nat) (b:Bool) (l:List Bs) (ht:t<256) (h31:t % 32≠31) (hN:1048578<N) (hl:l.length<=1000) (hs:l.flatten.length<=131072):JJ N b (t:Int) l=some (Sp.elem t l.flatten,b):=by rw[Af0 N t b l ht h31 (by omega) (by omega),RY hs];simp
def JR (a:Bs): [a].flatten=a:=by simp
def Aei (a b:Bs): [a,b].flatten=a++b:=by simp
def flat3 (a b c:Bs): [a,b,c].flatten=a++(b++c):=by simp
def NJ (s:Bs):Bs:=(encR (MR s)).1
def WX {s:Bs} (h:SX s=true):encR (MR s)=(NJ s,0)/\(NJ s).length<=60:=by
 unfold SX at h;unfold NJ;cases ha:MR s with
 | none=>rw[ha]at h;cases h
 | some l =>refine⟨rfl,?_⟩;obtain⟨h1,h2,h3,h4⟩:=aQ ha;show((dR l).map UInt8.ofNat).length<=60;have hf:=(qK h1 h3 h4).1;have hs:(WG (40*l.getD 0 0+l.getD 1 0)).length<=5:=gJ _ hf;have hr:=At6 WG 5 (l.drop 2) (fun x hx=>gJ x (by have:=h3 x (FU hx);omega));unfold dR;rw[D5,Dx];rw[EJ]at hr;omega
def AaO (e:Att):Prop:=SX e.1=true/\(e.2.1=12\/e.2.1=19\/e.2.1=22)/\e.2.2.length<=64
def Au9 {k:Int} {v:Bs} (h:Ve k v=true):k=12\/k=19\/k=22:=by
 unfold Ve at h;by_cases h1:k=12
 .exact .inl h1
 .rw[Dk h1]at h;by_cases h2:k=19
  .exact .inr (.inl h2)
  .rw[Dk h2]at h;by_cases h3:k=22
   .exact .inr (.inr h3)
   .rw[Dk h3]at h;cases h
def Avm {e:Att} {s:List Att} (h:QA e s=0):AaO e/\Ve e.2.1 e.2.2=true/\e.2.2≠ []/\s.any (fun x=>x.1==e.1)=false:=by
 unfold QA at h;by_cases h1:MR e.1=none
 .rw[Dp h1]at h;cases h
 .rw[Dk h1]at h;by_cases h2:e.2.2=[]\/Ve e.2.1 e.2.2=false
  .rw[Dp h2]at h;cases h
  .rw[Dk h2]at h;by_cases h3:64<e.2.2.length
   .rw[Dp h3]at h;cases h
   .rw[Dk h3]at h
    have ht:Ve e.2.1 e.2.2=true:=by
     cases hq:Ve e.2.1 e.2.2 with
     | true=>rfl
     | false=>exact absurd (Or.inr hq) h2
    refine⟨⟨?_,Au9 ht,by omega⟩,ht,fun hn=>h2 (Or.inl hn),?_⟩
    .unfold SX;cases hq:MR e.1 with
     | none=>exact absurd hq h1
     | some l=>rfl
    .cases hq:s.any (fun x=>x.1==e.1)with
     | false=>rfl
     | true=>rw[hq,Dp rfl]at h;cases h
def AeZ {r:List Att} (h:Ul r=0):r≠ []/\r.length<=4/\ ∀ e∈r,AaO e:=by
 unfold Ul at h;by_cases h1:r=[]
 .rw[Dp h1]at h;cases h
 .rw[Dk h1]at h;by_cases h2:4<r.length
  .rw[Dp h2]at h;cases h
  .rw[Dk h2]at h;refine⟨h1,by omega,?_⟩;unfold Al1 at h
   have: ∀(l s:List Att),(PE Vg (fun _=>some (0:Int)) l s).getD 0=0-> ∀ e∈l,AaO e:=by
    intro l
    induction l with
    | nil=>intro s _ e he;cases he
    | cons x t ih =>
     intro s hs e he;unfold PE Vg at hs;by_cases hx:QA x s=0
     .rw[Dp hx]at hs;rcases D6.1 he with rfl | he
      .exact(Avm hx).1
      .exact ih _ hs e he
     .rw[Dk hx]at hs;exact absurd hs hx
   exact this r [] h
def rC {n:List (List Att)} (h:MN n=0):n.length<=8/\ ∀ r∈n,Ul r=0:=by
 unfold MN X7 at h;by_cases h8:8<n.length
 .rw[Dp h8]at h;cases h
 .rw[Dk h8]at h;refine⟨by omega,?_⟩
  have: ∀(l:List (List Att)) (s:Unit),(PE XA (fun _=>some (0:Int)) l s).getD 0=0-> ∀ e∈l,Ul e=0:=by
   intro l
   induction l with
   | nil=>intro s _ e he;cases he
   | cons x t ih =>
    intro s hs e he;unfold PE XA at hs;by_cases hx:Ul x=0
    .rw[Dp hx]at hs;rcases D6.1 he with rfl | he
     .exact hx
     .exact ih _ hs e he
    .rw[Dk hx]at hs;exact absurd hs hx
  exact this n () h
def Uh (e:Att):Bs:=Sp.elem 48 (Sp.elem 6 (NJ e.1)++Sp.elem e.2.1.toNat e.2.2)
def AjM {e:Att} (h:AaO e):(Uh e).length<=139:=by
 have h1:=(WX h.1).2;have h2:=h.2.2;unfold Uh;have:=Sp.JO 48 (Sp.elem 6 (NJ e.1)++Sp.elem e.2.1.toNat e.2.2);have:=Sp.JO 6 (NJ e.1);have:=Sp.JO e.2.1.toNat e.2.2;rw[Dx]at *
 omega
def XF (r:List Att):Bs:=Sp.elem 49 (Qr (r.map Uh))
def jJ (l:List Bs):(Qr l).length=l.flatten.length:=by unfold Qr;rw[G7,G7];exact((Ii l _).map _).sum_nat
def rX {r:List Att} (h:Ul r=0):(XF r).length<=561/\(r.map Uh).flatten.length<=556:=by obtain⟨_,h4,ha⟩:=AeZ h;have h1:=Oa (g:=Uh) (M:=139) (l:=r) (fun e he=>AjM (ha e he));have h2:=Sp.JO 49 (Qr (r.map Uh));have h3:=jJ (r.map Uh);unfold XF;omega
def nmB (n:List (List Att)):Bs:=Sp.elem 48 (n.map XF).flatten
def WW {n:List (List Att)} (h:MN n=0):(nmB n).length<=4493/\(n.map XF).flatten.length<=4488:=by obtain⟨h8,hr⟩:=rC h;have h1:=Oa (g:=XF) (M:=561) (l:=n) (fun e he=>(rX (hr e he)).1);have h2:=Sp.JO 48 (n.map XF).flatten;unfold nmB;omega
def AcH {k:Int} (h:k=12\/k=19\/k=22):k=(k.toNat:Int)/\k.toNat<256/\k.toNat % 32≠31:=by omega
def y8 (N:Nat) (e:Att) (hN:1048578<N) (hs:Zx e) (h:AaO e):Pq N e=some (Uh e,0):=by obtain⟨o1,o2⟩:=WX h.1;obtain⟨k1,k2,k3⟩:=AcH h.2.1;have h64:=h.2.2;have l1:=Sp.JO 6 (NJ e.1);have l2:=Sp.JO e.2.1.toNat e.2.2;have w1:KI N 6 [NJ e.1]=_:=gW N 6 [NJ e.1] (by omega) (by omega) hN (by simp) (by rw[JR];omega);have w2:=gW N e.2.1.toNat [e.2.2] k2 k3 hN (by simp) (by rw[JR];omega);have w3:KI N 48 [Sp.elem 6 (NJ e.1),Sp.elem e.2.1.toNat e.2.2]=_:=gW N 48 [Sp.elem 6 (NJ e.1),Sp.elem e.2.1.toNat e.2.2] (by omega) (by omega) hN (by simp) (by rw[Aei,Dx];omega);rw[JR]at w1 w2;rw[Aei]at w3;rw[<- k1]at w2;unfold Pq;rw[uO N e.1 (by omega) hs.1,o1];simp only[Jr];rw[w1,Jr,w2,Jr,w3,Jr];rfl
def AhJ {n:List (List Att)} (h:LX n) {i:Nat} (hi:i<n.length): ∀ e∈n.getD i [],Zx e:=fun e he=>h _ (getD_mem [] hi) e he
def jA (N:Nat) (n:List (List Att)) (hN:1048578<N) (hs:LX n):UD N n=some (bif MN n != 0 then([],MN n)else(nmB n,0)):=by
 unfold UD;try simp only[clR]
 rw[TS N n hN hs,Jr,<- Oe];refine U1 fun h0=> ?_;have h0:MN n=0:=by simpa using h0
 obtain⟨h8,hr⟩:=rC h0;have hnl:=WW h0;refine(Yr (mk:=fun i acc=>((i:Int),acc)) n [] XF (fun l=>Jq (KI N 48 l) fun r62=>some (r62.fst,r62.snd)) ?_ ?_ N).trans ?_
 .intro i acc hi hacc k;have hri:=hr _ (getD_mem [] hi);have hsi:=AhJ hs hi;obtain⟨r0,r4,ra⟩:=AeZ hri;have hrl:=rX hri;have hpos:=GX.2 r0;dsimp only[U2];rw[Int.toNat_natCast];generalize n.getD i []=r at *
  simp (disch:=omega) only[JZ];refine(Yr (mk:=fun j a=>((j:Int),a,acc)) r ([],0,[]) Uh (fun l=>Jq (Vd N l) fun r48=>Jq (KI N 49 [r48]) fun r50=>bif r50.snd != 0 then some ([],r50.snd)else chk (decide ((acc.length+1)*17<=140737488355328)) (k ((i:Int)+1,acc++[r50.fst]))) ?_ ?_ N).trans ?_
  .intro j a hj ha k;have he:=y8 N _ hN (hsi _ (getD_mem ([],0,[]) hj)) (ra _ (getD_mem ([],0,[]) hj));simp (disch:=omega) only[JZ,he,KU]
  .intro a k ha;simp (disch:=omega) only[JZ]
  .have w:KI N 49 [Qr (r.map Uh)]=_:=gW N 49 [Qr (r.map Uh)] (by omega) (by omega) hN (by simp) (by rw[JR,jJ];omega);rw[JR]at w;unfold Vd;rw[Ajy (by rw[D5];omega),Abe (by rw[D5];omega),Abe (by omega)];simp only[Gj,cond_true,Jr];rw[w,Jr];simp (disch:=omega) only[JZ,KU];rfl
 .intro acc k ha;simp (disch:=omega) only[JZ]
 .have w:KI N 48 (n.map XF)=_:=gW N 48 (n.map XF) (by omega) (by omega) hN (by rw[D5];omega) (by omega);rw[w,Jr];rfl
def Afe (N:Nat) (s:Bs) (hN:1048578<N) (hs:PL s) (h:SX s=true):UU N s=some (Sp.elem 6 (NJ s)):=by obtain⟨o1,o2⟩:=WX h;have w:JP N 6 [NJ s]=_:=RX N 6 [NJ s] (by omega) (by omega) hN (by simp) (by rw[JR];omega);rw[JR]at w;unfold UU;unfold PL at hs;rw[Aaj N s (by omega) hs (by omega),o1,Jr,w,Jr]
def tV (N:Nat) (n:List (List Att)) (hN:1048578<N) (hs:LX n):Qx N n=some (bif MN n != 0 then([],MN n)else(nmB n,0)):=by
 unfold Qx;try simp only[clR]
 rw[VJ N n hN hs,Jr,<- Oe];refine U1 fun h0=> ?_;have h0:MN n=0:=by simpa using h0
 obtain⟨h8,hr⟩:=rC h0;have hnl:=WW h0;refine(Af8 (mk:=fun i t=>(t,(i:Int))) n [] XF (fun t=>Jq (JP N 48 [t]) fun r30=>some (r30,0)) ?_ ?_ N).trans ?_
 .intro i t hi ht k;have hri:=hr _ (getD_mem [] hi);have hsi:=AhJ hs hi;obtain⟨r0,r4,ra⟩:=AeZ hri;have hrl:=rX hri
  have hat:TE N (n.getD i [])=some ((n.getD i []).map Uh):=by
   generalize n.getD i []=r at *
   unfold TE;try simp only[clR]
   refine(Yr (mk:=fun j a=>((j:Int),a)) r ([],0,[]) Uh some ?_ ?_ N).trans rfl
   .intro j a hj ha k;have hm:=ra _ (getD_mem ([],0,[]) hj);have hsm:=hsi _ (getD_mem ([],0,[]) hj);have ho:=Afe N _ hN hsm.1 hm.1;have hal:=AjM hm;obtain⟨k1,k2,k3⟩:=AcH hm.2.1;have h64:=hm.2.2;have o2:=(WX hm.1).2;dsimp only[U2];rw[Int.toNat_natCast];generalize r.getD j ([],0,[])=e at *
    have l1:=Sp.JO 6 (NJ e.1);have l2:=Sp.JO e.2.1.toNat e.2.2;have w2:=RX N e.2.1.toNat [e.2.2] k2 k3 hN (by simp) (by rw[JR];omega);have w3:JP N 48 [Sp.elem 6 (NJ e.1),Sp.elem e.2.1.toNat e.2.2]=_:=RX N 48 [Sp.elem 6 (NJ e.1),Sp.elem e.2.1.toNat e.2.2] (by omega) (by omega) hN (by simp) (by rw[Aei,Dx];omega);rw[JR]at w2;rw[Aei]at w3;rw[<- k1]at w2;simp (disch:=omega) only[JZ,ho,w2,w3,KU];rfl
   .intro a k ha;simp (disch:=omega) only[JZ]
  have hor:=AgF N ((n.getD i []).map Uh) hN (by rw[D5];omega) (by omega);have w:JP N 49 [Qr ((n.getD i []).map Uh)]=_:=RX N 49 [Qr ((n.getD i []).map Uh)] (by omega) (by omega) hN (by simp) (by rw[JR,jJ];omega);rw[JR]at w;have hw:Sp.elem 49 (Qr ((n.getD i []).map Uh))=XF (n.getD i []):=rfl;simp (disch:=omega) only[JZ,hat,hor,w,hw,KU]
 .intro t k;simp (disch:=omega) only[JZ]
 .have w:JP N 48 [(n.map XF).flatten]=_:=RX N 48 [(n.map XF).flatten] (by omega) (by omega) hN (by simp) (by rw[JR];omega);rw[w,Jr,JR];rfl
def Ah0 {X Y ρ :Type} {B B':X->(X->Option ρ)->(Y->Option ρ)->Option ρ} {kx kx':Y->Option ρ} (I:X->Prop) (h: ∀ x,I x-> ∀ k k':X->Option ρ,(∀ x',I x'->k x'=k' x')->B x k kx=B' x k' kx'): ∀(N:Nat) (x:X),I x->Jz B N x kx=Jz B' N x kx':=by
 intro N
 induction N with
 | zero=>intro x _;rfl
 | succ n ih=>intro x hx;rw[Ls,Ls];exact h x hx _ _ ih
def AeX (N:Nat) (y:Int) (h1:1950<=y:=by omega) (h2:y<=10001:=by omega):UT N y=some (O8 y):=by unfold UT O8;rw[w64 (x:=y - 1),DX (show(0:Int)<=y - 1 by omega),DX (show(0:Int)<=y - 1 by omega),DX (show(0:Int)<=y - 1 by omega)];rw[w64 (x:=(y - 1) / 4),w64 (x:=(y - 1) / 100),w64 (x:=(y - 1) / 400),w64 (x:=y - 1950),w64 (x:=365*(y - 1950)),w64 (x:=(y - 1) / 4 - (y - 1) / 100)];dsimp only;rw[w64 (x:=(y - 1) / 4 - (y - 1) / 100+(y - 1) / 400),w64 (x:=365*(y - 1950)+((y - 1) / 4 - (y - 1) / 100+(y - 1) / 400)),w64]
def Aup (N:Nat) (y m:Int) (h1:1<=m) (h2:m<=12):XI N y m=some (Yp y m):=by
 unfold XI Yp Pv;try simp -zeta only[Ap]
 rw[w64 (x:=m - 1),Di (show(0:Int)<=m - 1 by omega),Di (show m - 1<12 by omega),Di (show(m - 1).toNat<12 by omega)];generalize (([31,28,31,30,31,30,31,31,30,31,30,31]:List Int).getD (m - 1).toNat 0)=v;generalize (m==2)=c1;generalize (y.tmod 4==0)=c2;generalize (y.tmod 100 != 0)=c3;generalize (y.tmod 400==0)=c4;cases c1<;>cases c2<;>cases c3<;>cases c4<;>rfl
section
variable (N:Nat) (hN:1048578<N)
def Aoj (t:Int) (h0:0<=t) (h1:t<=254033452799):YI N t=Tm N t:=by
 unfold Tm YI;try simp -zeta only[Ap]
 have a0:decide (t<0)=false:=Ay8;have a1:decide (t>254033452799)=false:=Ay8;rw[a0,a1];simp only[DY,Eh,Ew,DR,Jv,cond_false,cond_true];rw[DX h0,DU h0,DX h0,DX h0,DU h0];have hd0:0<=t / 86400:=by omega
 have hd1:t / 86400<=2940201:=by omega
 have hs0:0<=t % 86400:=by omega
 have hs1:t % 86400<=86399:=by omega
 have e1:(i64.wrap (t / 3600)).tmod 24=i64.wrap ((t % 86400).tdiv 3600):=by rw[w64 (x:=t / 3600),DU (by omega),DX hs0,w64];omega
 have e2:(i64.wrap (t / 60)).tmod 60=(i64.wrap ((t % 86400).tdiv 60)).tmod 60:=by rw[w64 (x:=t / 60),DU (by omega),DX hs0,w64,DU (by omega)];omega
 have e3:t % 60=(t % 86400).tmod 60:=by rw[DU hs0];omega
 rw[e1,e2,e3];generalize (t % 86400)=S;generalize t / 86400=D at hd0 hd1 ⊢;rw[w64 (x:=D)];have q3:D.tdiv 366=D / 366:=DX hd0;rw[q3,w64 (x:=D / 366),w64 (x:=1950+D / 366)];refine Ah0 (fun(y:Int)=>1950<=y/\y<=9999/\O8 y<=D) ?_ N _ ⟨by omega,by omega,by unfold O8;omega⟩;intro y ⟨y0,y1,y2⟩ k k' hk;rw[w64 (x:=y+1),iT N (y+1),AeX N (y+1),Jr,Jr];cases hb:decide (O8 (y+1)<=D)with
 | true =>
  have h:O8 (y+1)<=D:=D9 hb
  have y9:y<=9998:=by
   by_cases e:y=9999
   .rw[e]at h;have h9:O8 (9999+1)=2940202:=by decide
    rw[h9]at h;omega
   .omega
  exact hk _ ⟨by omega,by omega,h⟩
 | false =>
  have h: ¬ O8 (y+1)<=D:=Et hb;rw[cond_false,cond_false];dsimp only;rw[iT N y,AeX N y,Jr,Jr,w64 (x:=D - O8 y) (by omega) (by unfold O8;omega)]
  have hr:0<=D - O8 y/\D - O8 y<Y0 (Pv y) 1:=by
   refine⟨by omega,?_⟩;rcases Ae6 (show 0<=y by omega)with ⟨a,b⟩ | ⟨a,b⟩<;>rw[a]
   .rw[show Y0 true 1=366 from rfl];omega
   .rw[show Y0 false 1=365 from rfl];omega
  generalize D - O8 y=E at hr ⊢;have h366:Y0 (Pv y) 1<=366:=by cases Pv y<;>decide
  refine Ah0 (fun(x:Int×Int)=>1<=x.2/\x.2<=12/\0<=x.1/\x.1<Y0 (Pv y) x.2/\x.1<=366) ?_ N _ ⟨by dsimp only;omega,by dsimp only;omega,hr.1,hr.2,by dsimp only;omega⟩;rintro ⟨e,m⟩ ⟨m0,m1,g0,g1,g2⟩ k2 k2' hk2;dsimp only at m0 m1 g0 g1 g2 hk2;dsimp only[U2];rw[length_eq N y m m0 m1,Aup N y m m0 m1,Jr,Jr,Jr,Jr];obtain⟨l0,l1,l2,l3⟩:=AlK y m m0 m1;cases hc:decide (e>=Yp y m)with
  | true =>
   have h:e>=Yp y m:=D9 hc
   have m9:m<=11:=by
    by_cases q:m=12
    .have:=l2 q;omega
    .omega
   rw[cond_true,cond_true,w64,w64];refine hk2 _ ⟨?_,?_,?_,?_,?_⟩
   .dsimp only;omega
   .dsimp only;omega
   .dsimp only;omega
   .dsimp only;rw[l3 m9];omega
   .dsimp only;omega
  | false=>rfl
end
def Ag9 (N:Nat) (hN:16<N) (l:List Int) (n:Int) (h0:0<=n) (h1:n<=99) (hl:l.length<=1000):Qe N l n 2=some (l++[48+n / 10,48+n % 10]):=by
 obtain⟨M,rfl⟩: ∃ M,N=M+4:=⟨N - 4,by omega⟩
 unfold Qe;try simp -zeta only[Ap]
 rw[Ls];dsimp only[U2];rw[Di,cond_true,Di,Jv,w64 (x:=(0:Int)+1),Ls];dsimp only[U2];rw[Di,cond_true,Di (by rw[Dx,List.length_singleton];omega),Jv,w64 (x:=(0:Int)+1+1),Ls];dsimp only[U2];rw[Ay8,cond_false];have hlen:((l++[48])++[48]:List Int).length=l.length+2:=by simp
 rw[hlen,w64 (x:=((l.length+2:Nat):Int) - 1),Ls];dsimp only[U3];rw[hlen,Di,cond_true,Di,Jv,Di,Jv,Di,Jv,Ls];dsimp only[U3];have hl2: ∀(i:Nat) (v:Int),(((l++[48])++[48]:List Int).set i v).length=l.length+2:=fun i v=>by rw[EP,hlen]
 rw[w64 (x:=((l.length+2:Nat):Int) - 1 - 1),hl2,Di,cond_true,Di,Jv,Di,Jv,Di,Jv,Ls];dsimp only[U3];rw[w64 (x:=((l.length+2:Nat):Int) - 1 - 1 - 1),Ay8,cond_false];refine congrArg some ?_;rw[DU h0,DX h0,w64 (x:=n / 10),DU (by omega),w64 (x:=48+n % 10),w64 (x:=48+n / 10 % 10),w8,w8];rw[show(((l.length+2:Nat):Int) - 1).toNat=l.length+1 by omega,show(((l.length+2:Nat):Int) - 1 - 1).toNat=l.length by omega,Ej];rw[GR _ _ (by omega),GR _ _ (by omega),show l.length+1 - l.length=1 by omega,Hg];show l++[(48+n / 10 % 10) % 256,(48+n % 10) % 256]=_;rw[show(48+n / 10 % 10) % 256=48+n / 10 by omega,show(48+n % 10) % 256=48+n % 10 by omega]
def AvJ (N:Nat) (hN:16<N) (n:Int) (h0:0<=n) (h1:n<=9999):Qe N [] n 4=some [48+n / 1000,48+n / 100 % 10,48+n / 10 % 10,48+n % 10]:=by
 obtain⟨M,rfl⟩: ∃ M,N=M+6:=⟨N - 6,by omega⟩
 have e: ∀ x:Int,0<=x->x<=9999->u8.wrap (i64.wrap (48+x.tmod 10))=48+x % 10:=fun x a b=>by rw[DU a,w64,w8];omega
 have d: ∀ x:Int,0<=x->x<=9999->i64.wrap (x.tdiv 10)=x / 10:=fun x a b=>by rw[DX a,w64]
 have r:Qe (M+6) [] n 4=some [u8.wrap (i64.wrap (48+(i64.wrap ((i64.wrap ((i64.wrap (n.tdiv 10)).tdiv 10)).tdiv 10)).tmod 10)),u8.wrap (i64.wrap (48+(i64.wrap ((i64.wrap (n.tdiv 10)).tdiv 10)).tmod 10)),u8.wrap (i64.wrap (48+(i64.wrap (n.tdiv 10)).tmod 10)),u8.wrap (i64.wrap (48+n.tmod 10))]:=by kernel_rfl
 rw[r,d n h0 h1,d (n / 10) (by omega) (by omega),d (n / 10 / 10) (by omega) (by omega),e n h0 h1,e (n / 10) (by omega) (by omega),e (n / 10 / 10) (by omega) (by omega),e (n / 10 / 10 / 10) (by omega) (by omega)];rw[show n / 10 / 10 / 10 % 10=n / 1000 by omega,show n / 10 / 10 % 10=n / 100 % 10 by omega]
def Alr (N:Nat) (hN:16<N) (n w:Nat) (hw:w<=4:=by omega) (hn:n<10000:=by omega):NV N (n:Int) (w:Int)=some (List.replicate (w - (dd n).length) 48++dd n):=by
 unfold NV;try simp -zeta only[Ap]
 rw[Awf N 3 n (by omega) (by omega) N (by omega),Jr];have h1:=(Akg 3 n (by omega)).1
 have key: ∀(k:Nat) (F:Nat) (l:Bs),k<F->l.length+k=max w l.length->l.length<=1000->Jz (X:=Bs) (Y:=Bs) (fun t5a k1 x2=>bif decide ((t5a.length:Int)<(w:Int))then(chk (decide (1+t5a.length<=140737488355328))<|k1 (([48]:Bs)++t5a))else(x2 t5a)) F l (fun t5b=>some t5b)=some (List.replicate k 48++l):=by
  intro k
  induction k with
  | zero =>
   intro F l hF hl _;obtain⟨F,rfl⟩: ∃ G,F=G+1:=⟨F - 1,by omega⟩
   rw[Ls];dsimp only;rw[Ay8,cond_false];rfl
  | succ k ih =>
   intro F l hF hl h1000;obtain⟨F,rfl⟩: ∃ G,F=G+1:=⟨F - 1,by omega⟩
   rw[Ls];dsimp only;rw[Di,cond_true,Di,Jv,ih F _ (by omega) (by rw[Dx,List.length_singleton];omega) (by rw[Dx,List.length_singleton];omega)];rw[List.replicate_succ',Ej]
 exact key _ N (dd n) (by omega) (by omega) (by have:=(Akg 3 n (by omega)).2;omega)
def AvG (N:Nat) (hN:16<N) (n:Int) (h0:0<=n) (h1:n<=99):NV N n 2=some (([48+n / 10,48+n % 10]:List Int).map Vm.byteOf):=by
 obtain⟨k,rfl⟩:=EO h0;rw[show(2:Int)=((2:Nat):Int)from rfl,Alr N hN k 2];have hk:k<=99:=by omega
 have: ∀ k:Fin 100,List.replicate (2 - (dd k.val).length) 48++dd k.val=([48+((k.val:Nat):Int) / 10,48+((k.val:Nat):Int) % 10]:List Int).map Vm.byteOf:=by decide +kernel
 exact congrArg some (this ⟨k,by omega⟩)
def AvH (N:Nat) (hN:16<N) (n:Int) (h0:1000<=n) (h1:n<=9999):NV N n 4=some (([48+n / 1000,48+n / 100 % 10,48+n / 10 % 10,48+n % 10]:List Int).map Vm.byteOf):=by
 obtain⟨k,rfl⟩:=EO (show 0<=n by omega);rw[show(4:Int)=((4:Nat):Int)from rfl,Alr N hN k 4];rw[bW (n:=k) (by omega),bW (n:=k / 10) (by omega),bW (n:=k / 10 / 10) (by omega),mP (n:=k / 10 / 10 / 10) (by omega)];have b: ∀(m:Nat) (x:Int),x=((48+m:Nat):Int)->m<10->UInt8.ofNat (48+m)=Vm.byteOf x:=fun m x hx hm=>by subst hx;rfl
 rw[b (k / 10 / 10 / 10) (48+(k:Int) / 1000) (by omega) (by omega),b (k / 10 / 10 % 10) (48+(k:Int) / 100 % 10) (by omega) (by omega),b (k / 10 % 10) (48+(k:Int) / 10 % 10) (by omega) (by omega),b (k % 10) (48+(k:Int) % 10) (by omega) (by omega)];rfl
end Go.Proofs.YtehkhflpjkokeaaGreatDoor.Pl
namespace Go.Proofs.YtehkhflpjkokeaaGreatDoor.Sp
def VK:List UInt8->Bool
 | []=>true
 | [_]=>false
 | a::b::_=>(decide (a.toNat=0)&&decide (b.toNat<128))||(decide (a.toNat=255)&&decide (128<=b.toNat))
def byteOf (q:Int):UInt8:=UInt8.ofNat (q % 256).toNat
def byteOf_toNat (q:Int):((byteOf q).toNat:Int)=q % 256:=by unfold byteOf;rw[Fp];omega
def LU (v:Int):Nat->List UInt8
 | 0=>[]
 | n+1=>byteOf (v / 256 ^ n)::LU v n
def ZA (v:Int) (n:Nat):(LU v n).length=n:=by induction n with
 | zero=>rfl
 | succ n ih=>simp [LU,ih]
def strip:List UInt8->List UInt8
 | []=>[]
 | [a]=>[a]
 | a::b::r=>if VK (a::b::r)then strip (b::r)else a::b::r
def fits (q:Int):Prop:= -128<=q/\q<=127
instance (q:Int):Decidable (fits q):=inferInstanceAs (Decidable (_/\_))
def LC (v:Int):List UInt8:=strip (LU v 8)
def dO (v:Int) (n:Nat):v / 256 ^ (n+1)=v / 256 ^ n / 256:=by rw[Int.pow_succ,IX,IX];exact(Int.ediv_ediv_of_nonneg (IA (by omega))).symm
def Ahe (v:Int) (n:Nat) (h:fits (v / 256 ^ (n+1))):VK (LU v (n+2))=decide (fits (v / 256 ^ n)):=by
 have e:=dO v n;have h1:=byteOf_toNat (v / 256 ^ (n+1))
 have h2:=byteOf_toNat (v / 256 ^ n)
 simp only[LU,VK];rw[Fj,decide_eq_true_iff];unfold fits at *
 rw[e]at h h1;generalize v / 256 ^ n=q at *
 generalize byteOf q=x at *
 rw[e];generalize byteOf (q / 256)=y at *
 simp only[Eo,Du,Dz];omega
def Agl (v:Int) (n:Nat) (h:fits (v / 256 ^ n)): ∀ k,fits (v / 256 ^ (n+k)):=by
 intro k
 induction k with
 | zero=>exact h
 | succ k ih=>rw[<- EL,dO];unfold fits at *;omega
def Aqm (v:Int) (n:Nat) (h:fits (v / 256 ^ n)) (k:Nat):strip (LU v (n+k+2))=strip (LU v (n+k+1)):=by
 have hb:VK (LU v (n+k+2))=true:=by rw[Ahe v (n+k) (Agl v n h (k+1))];simp [Agl v n h k]
 conv=>lhs;unfold LU
 have e:LU v (n+k+1)=byteOf (v / 256 ^ (n+k))::LU v (n+k):=rfl;rw[show n+k+2=(n+k+1)+1 from rfl]at hb;unfold LU at hb;rw[e]at hb ⊢;rw[strip,Dp hb]
def An3 (v:Int) (n:Nat) (h:fits (v / 256 ^ n)) (hn:n=0\/ ∃ m,n=m+1/\ ¬ fits (v / 256 ^ m)) :
 ∀ k,strip (LU v (n+k+1))=LU v (n+1):=by
 intro k
 induction k with
 | zero =>
  rcases hn with rfl | ⟨m,rfl,hm⟩
  .rfl
  .have hb:VK (LU v (m+2))=false:=by rw[Ahe v m h];simp [hm]
   have e:LU v (m+2)=byteOf (v / 256 ^ (m+1))::byteOf (v / 256 ^ m)::LU v m:=rfl;rw[show m+1+0+1=m+2 from rfl];rw[e]at hb ⊢;rw[strip,Dk (by rw[hb];simp)]
 | succ k ih=>rw[<- ih];exact Aqm v n h k
def uP (v:Int) (n:Nat) (h8:n<=7) (h:fits (v / 256 ^ n)) (hn:n=0\/ ∃ m,n=m+1/\ ¬ fits (v / 256 ^ m)):LC v=LU v (n+1):=by have:=An3 v n h hn (7 - n);unfold LC;rw[show 8=n+(7 - n)+1 from by omega];exact this
def AuP (v:Int) (h1: -9223372036854775808<=v) (h2:v<=9223372036854775807):fits (v / 256 ^ 7):=by
 have:(256:Int) ^ 7=72057594037927936:=by decide
 rw[this];unfold fits;omega
def Aeg (v:Int) (n:Nat) (h:fits (v / 256 ^ n)): ∃ k,k<=n/\fits (v / 256 ^ k)/\(k=0\/ ∃ m,k=m+1/\ ¬ fits (v / 256 ^ m)):=by
 induction n with
 | zero=>exact⟨0,DN _,h,Or.inl rfl⟩
 | succ n ih =>
  by_cases hf:fits (v / 256 ^ n)
  .obtain⟨k,h1,h2⟩:=ih hf;exact⟨k,by omega,h2⟩
  .exact⟨n+1,DN _,h,Or.inr ⟨n,rfl,hf⟩⟩
end Go.Proofs.YtehkhflpjkokeaaGreatDoor.Sp
