import Derived.Test.YtbgjmioccbacdaaGreatDoorA14
import Derived.Test.YtbgjmioccbacdaaGreatDoorA18
import Derived.Sort.Walk0
set_option linter.all false
namespace Go.Proofs.YtbgjmioccbacdaaGreatDoor.Pl
open IntKind (i64 u8 u32 u64)
open Go Vm
def N9 (l:Bs):Int×Bs×Bs:=((Sp.tag l:Int),Sp.content l,Sp.raw l)
def SS (l:Bs):(Int×Bs×Bs)×Bs×Int:=if Sp.err l=0 then(N9 l,Sp.rest l,0)else((0,[],[]),[],Sp.err l)
def Aqe {s:Bs} {p n:Nat} (hh:Sp.head s=(0,p,n)) (hp:p<=s.length):(if((s.length:Int) - p<n)then(some ((0,([]:Bs),([]:Bs)),([]:Bs),3):Option ((Int×Bs×Bs)×Bs×Int))else some ((((s.getD 0 0).toNat:Int),J6 s p (p+n),J6 s 0 (p+n)),J6 s (p+n) s.length,0))=some (SS s):=by
 have e1: ∀ a b,(J6 s a b)=(s.take b).drop a:=fun a b=>rfl;by_cases h:(s.length:Int) - p<n
 .rw[Dw h];have:Sp.rd s=(3,0,0):=by unfold Sp.rd;rw[hh,Dw ⟨rfl,by show s.length - p<n;omega⟩]
  unfold SS Sp.err;rw[this];rfl
 .rw[Dt h];have hr:Sp.rd s=(0,p,n):=by unfold Sp.rd;rw[hh,Dt (by intro hc;have:=hc.2;simp at this;omega)]
  have he:Sp.err s=0:=by unfold Sp.err;rw[hr]
  unfold SS;rw[Dw he];unfold N9 Sp.content Sp.raw Sp.rest;rw[hr,e1,e1,e1];congr 1;refine IQ (IQ ?_ (IQ ?_ ?_)) (IQ ?_ rfl)
  .show((s.getD 0 0).toNat:Int)=((Sp.tag s:Nat):Int);unfold Sp.tag;cases s<;>rfl
  .show(s.take (p+n)).drop p=(s.drop p).take n;rw[List.drop_take];congr 1;omega
  .show(s.take (p+n)).drop 0=_;rw[F6]
  .show(s.take s.length).drop (p+n)=_;rw[EI]
def take_snoc {α :Type} {l:List α} {i:Nat} (h:i<l.length):l.take (i+1)=l.take i++[l[i]]:=by simp_all
def Ak0 {l:Bs} {i:Nat} (h:i<l.length):Sp.beNat (l.take (i+1))=Sp.beNat (l.take i)*256+(l[i]).toNat:=by rw[take_snoc h,Sp.Akz]
def Ai6 {l:Bs} (i:Nat) (hl:l.length<=3):Sp.beNat (l.take i)<16777216:=by
 have h1:=Sp.Apa (l.take i);have h2:256 ^ (l.take i).length<=256 ^ 3:=Nat.pow_le_pow_right (by omega) (by rw[Ea];omega);have:(256:Nat) ^ 3=16777216:=by decide
 omega
def Anj {ρ :Type} (N:Nat) (l:Bs) (hl:l.length<=3) (hN:4<N) (kx:Int->Option ρ) :
 J4 (X:=Int×Int×List Int) (Y:=Int) (U3 fun t7b t52b l45568b k2 x3 =>
  if t52b<((List.map (fun(b:UInt8)=>((b.toNat:Int))) l).length:Int)then if(0:Int)<=t52b then if t52b<(l45568b.length:Int)then if t52b.toNat<l45568b.length then
   k2 (JJ .or .i64 (i64.wrap (t7b*(256))) (i64.wrap (l45568b.getD t52b.toNat 0)),i64.wrap (t52b+(1:Int)),l45568b)else none else none else none
  else x3 t7b) N (0,0,List.map (fun(b:UInt8)=>((b.toNat:Int))) l) kx=kx (Sp.beNat l):=by
 refine Yl (fun x=> ∃ i,i<=l.length/\x=((Sp.beNat (l.take i):Int),(i:Int),List.map (fun(b:UInt8)=>((b.toNat:Int))) l)) (fun x=>l.length - x.2.1.toNat) (fun _=>kx (Sp.beNat l)) ?_ N _ ⟨0,by omega,rfl⟩ (by show l.length - 0<N;omega);rintro x ⟨i,hi,rfl⟩ k hk;show(if(i:Int)<_ then _ else _)=_;rw[Dx];by_cases h:i<l.length
 .dsimp only;rw[AvI,AvI,AvI,Int.toNat_natCast,Dw h];have hb:=(l[i]).toNat_lt;have hs:=Ai6 (l:=l) i hl;rw[show(List.map (fun(b:UInt8)=>((b.toNat:Int))) l).getD i 0=((l[i].toNat:Nat):Int) by simp [Dj,h]];rw[w64 (x:=((Sp.beNat (l.take i):Nat):Int)*256),w64 (x:=((l[i].toNat:Nat):Int)),w64 (x:=(i:Int)+1)];rw[show((Sp.beNat (l.take i):Nat):Int)*256=((Sp.beNat (l.take i)*256:Nat):Int) by omega,or8 _ _ (by omega) hb,<- Ak0 h];exact hk _ ⟨i+1,h,rfl⟩ (by show l.length - ((i:Int)+1).toNat<l.length - (i:Int).toNat;omega)
 .rw[AvH];rw[EL (by omega)]
def ApE (N:Nat) (k:Nat) (h1:1<=k) (h3:k<=3):xZ N (k:Int)=some (Sp.leastOf k:Int):=by
 have:k=1\/k=2\/k=3:=by omega
 rcases this with rfl | rfl | rfl<;>rfl
set_option maxRecDepth 4000
def Y8 (N:Nat) (s:Bs) (hN:4<N) (hs:s.length<=1099511627776:=by omega):WE N s=some (SS s):=by
 unfold WE;try simp -zeta only[Aq]
 cases s with
 | nil=>rfl
 | cons a r =>
  have ha:=a.toNat_lt;have h0:((a::r:Bs)==([]:Bs))=false:=rfl;simp only[h0,cond_false,EH,List.length_cons,AmU,AjH,AjI,AmM];simp only[Ar0,XV,EK,DJ,Gs,Dq];rw[w64,Aq9 _ ha];by_cases h31:a.toNat % 32=31
  .have:Sp.err (a::r)=5:=by simp [Sp.err,Sp.rd,Sp.head,h31]
   unfold SS;rw[this,AvI,AvI];rfl
  .rw[AvI,AvH];cases r with
   | nil =>
    have:Sp.err [a]=3:=by simp [Sp.err,Sp.rd,Sp.head,h31]
    unfold SS;rw[this,Dw (by simp)];rfl
   | cons b c =>
    have hb:=b.toNat_lt;simp only[List.length_cons]at hs;simp only[Ir,EH,List.length_cons];rw[w64 (x:=((b.toNat:Nat):Int)),AvH,AvI];by_cases h6:b.toNat=128\/131<b.toNat
    .have:Sp.err (a::b::c)=6:=by simp [Sp.err,Sp.rd,Sp.head,h31,h6,show ¬ b.toNat<128 by omega]
     unfold SS;rw[this,AvI];rfl
    .rw[AvH,WL]
     have hend: ∀ p n:Nat,Sp.head (a::b::c)=(0,p,n)->p<=c.length+2->n<=131072->(if i64.wrap (((c.length+1+1:Nat):Int) - (p:Int))<(n:Int)then some ((0,([]:Bs),([]:Bs)),([]:Bs),3)
      else if(0:Int)<=(p:Int)then if(p:Int)<=i64.wrap ((p:Int)+(n:Int))then if i64.wrap ((p:Int)+(n:Int))<=((c.length+1+1:Nat):Int)then if(0:Int)<=i64.wrap ((p:Int)+(n:Int))then
       if i64.wrap ((p:Int)+(n:Int))<=((c.length+1+1:Nat):Int)then if(0:Int)<=i64.wrap ((p:Int)+(n:Int))then if i64.wrap ((p:Int)+(n:Int))<=((c.length+1+1:Nat):Int)then
       some ((((a.toNat:Nat):Int),J6 (a::b::c) (p:Int).toNat (i64.wrap ((p:Int)+(n:Int))).toNat,J6 (a::b::c) 0 (i64.wrap ((p:Int)+(n:Int))).toNat),J6 (a::b::c) (i64.wrap ((p:Int)+(n:Int))).toNat (c.length+1+1),0)
       else none else none else none else none else none else none else none:Option ((Int×Bs×Bs)×Bs×Int))=some (SS (a::b::c)):=by
      intro p n hh hp hn;have:=Aqe (s:=a::b::c) hh (by simp;omega);all_goals grind[w64]
     by_cases h128:b.toNat<128
     .rw[AvH];exact hend 2 b.toNat (by simp [Sp.head,h31,h128]) (by omega) (by omega)
     .rw[AvI];obtain⟨k,hk⟩: ∃ k:Nat,b.toNat=128+k:=⟨b.toNat - 128,by omega⟩
      rw[w64 (x:=((b.toNat:Nat):Int) - 128),show((b.toNat:Nat):Int) - 128=(k:Int) by omega,w64 (x:=2+(k:Int))];by_cases hlen:c.length<k
      .rw[AvI];have:Sp.err (a::b::c)=3:=by simp [Sp.err,Sp.rd,Sp.head,h31,h128,h6,show b.toNat - 128=k by omega,hlen]
       unfold SS;rw[this];rfl
      .have hcut:J6 (a::b::c) 2 ((2+(k:Int)).toNat)=c.take k:=by
        rw[show(2+(k:Int)).toNat=k+2 by omega];rfl
       have hlk:(c.take k).length=k:=by rw[Ea];omega
       rw[AvH,AvI,AvI,hcut,AvI];rw[Anj N (c.take k) (by omega) hN,ApE N k (by omega) (by omega),Jr];by_cases hbad:Sp.beNat (c.take k)<Sp.leastOf k\/131072<Sp.beNat (c.take k)
       .have:Sp.err (a::b::c)=6:=by simp [Sp.err,Sp.rd,Sp.head,h31,h128,h6,show b.toNat - 128=k by omega,hlen,hbad]
        unfold SS;rw[AvI,this];rfl
       .rw[AvH];have:=hend (2+k) (Sp.beNat (c.take k)) (by simp [Sp.head,h31,h128,h6,show b.toNat - 128=k by omega,hlen,hbad]) (by omega) (by omega);rw[show(((2+k:Nat)):Int)=2+(k:Int) by omega]at this;exact this
def iI (s:Bs):(Int×Bs×Bs)×Int:=if Sp.TB s=0 then(N9 s,0)else((0,[],[]),Sp.TB s)
theorem Afm {s:Bs} (h:Sp.TB s=0):Sp.err s=0/\Sp.rest s=[]:=by unfold Sp.TB at h;by_cases he:Sp.err s=0;all_goals simp_all[Bs]
def V3 (N:Nat) (s:Bs) (hN:4<N:=by omega) (hs:s.length<=1099511627776:=by omega):RJ N s=some (iI s):=by
 unfold RJ;rw[Y8 N s hN hs,Jr];unfold SS iI Sp.TB;by_cases he:Sp.err s=0
 .rw[Dw he];by_cases hr:Sp.rest s=[]
  .simp [he,hr,XV]
  .simp [he,hr,XV]
 .rw[Dt he];simp [he,XV]
def Aik (s:Bs):Sp.tag s<256:=UInt8.toNat_lt _
def VI (e:Int×Bs×Bs) (d:Nat):Int:=if e.1 / 32 % 2=1 then Sp.within (e.2.1.length+1) d e.2.1 else 0
theorem Vo: ∀(f g d:Nat) (l:Bs),l.length<f->l.length<g->Sp.within f d l=Sp.within g d l:=by
 intro f
 induction f with
 | zero=>intro g d l h;omega
 | succ f ih =>
  intro g d l hf hg;cases g with
  | zero=>omega
  | succ g =>show(if l=[]then _ else _)=if l=[]then _ else _;all_goals grind[Sp.Xm,Sp.yS]
def Aax {B:Bs->(Bs->Option Int)->(Unit->Option Int)->Option Int} {kx:Unit->Option Int} (d L:Nat)
 (hB: ∀ x k,x≠ []->x.length<=L->B x k kx=if Sp.err x≠0 then some (Sp.err x)else if 16<=d then some 8 else if VI (N9 x) (d+1)≠0 then some (VI (N9 x) (d+1))else k (Sp.rest x))
 (hend: ∀ k,B [] k kx=some 0) (N:Nat) (x:Bs) (hx:x.length<=L) (hN:x.length<N):J4 B N x kx=some (Sp.within (x.length+1) d x):=by
 refine Yl (fun x=>x.length<=L) (fun x=>x.length) (fun x=>some (Sp.within (x.length+1) d x)) ?_ N x hx hN;intro x hx k hk;by_cases h0:x=[]
 .subst h0;rw[hend];rfl
 .rw[hB x k h0 hx];by_cases he:Sp.err x=0
  .rw[Dt (by simp [he])];by_cases hd:16<=d
   .rw[Dw hd,Sp.Aj6 _ _ _ h0 he hd]
   .rw[Dt hd];have h1:=Sp.Xm x he;have h2:=Sp.yS x he;have hin:VI (N9 x) (d+1)=Sp.inner x.length (d+1) (Sp.tag x) (Sp.content x):=by unfold VI Sp.inner Sp.cons N9;all_goals grind[Vo]
    rw[hin];by_cases hi:Sp.inner x.length (d+1) (Sp.tag x) (Sp.content x)=0
    .rw[Dt (by simp [hi]),hk _ (by show(Sp.rest x).length<=L;omega) h2,Sp.Aay _ _ _ h0 he hd hi];rw[Vo _ x.length d (Sp.rest x) (Nat.lt_succ_self _) h2]
    .rw[Dw hi,Sp.Am3 _ _ _ h0 he hd hi]
  .grind[Sp.Am4]
def AoC (N:Nat) (hN:4<N): ∀(m n:Nat),m<n-> ∀(e:Int×Bs×Bs) (d:Nat),d+m=16->0<=e.1->e.1<256->e.2.1.length<N->e.2.1.length<=1099511627776 ->
 S9 N n e (d:Int)=some (VI e d):=by
 intro m
 induction m with
 | zero =>
  intro n hn e d hd h0 h1 h2 h3;obtain⟨n,rfl⟩: ∃ k,n=k+1:=⟨n - 1,by omega⟩
  show SA N (S9 N n) e d=_;unfold SA VI;obtain⟨t,ht⟩: ∃ t:Nat,e.1=(t:Int):=⟨e.1.toNat,by omega⟩
  rw[ht,AqA t (by omega)];by_cases hc:t / 32 % 2=1
  .rw[Dw hc,AvI];refine Aax d e.2.1.length (fun x k hx hl=> ?_) (fun k=>rfl) N _ (DW _) h2;have:(x==([]:Bs))=false:=by cases x with | nil=>exact absurd rfl hx | cons _ _=>rfl
   dsimp only;rw[this,Y8 N x hN,Jr];unfold SS;simp only[XV,Gp,DJ,EG];by_cases he:Sp.err x=0;all_goals simp_all[Bs,S9,VI]
  .rw[Dt hc,AvH];rfl
 | succ m ih =>
  intro n hn e d hd h0 h1 h2 h3;obtain⟨n,rfl⟩: ∃ k,n=k+1:=⟨n - 1,by omega⟩
  show SA N (S9 N n) e d=_;unfold SA VI;obtain⟨t,ht⟩: ∃ t:Nat,e.1=(t:Int):=⟨e.1.toNat,by omega⟩
  rw[ht,AqA t (by omega)];by_cases hc:t / 32 % 2=1
  .rw[Dw hc,AvI];refine Aax d e.2.1.length (fun x k hx hl=> ?_) (fun k=>rfl) N _ (DW _) h2;have:(x==([]:Bs))=false:=by cases x with | nil=>exact absurd rfl hx | cons _ _=>rfl
   dsimp only;rw[this,Y8 N x hN,Jr];unfold SS;simp only[XV,Gp,DJ,EG];by_cases he:Sp.err x=0
   .rw[Dw he];simp only[he,ne_eq,not_true_eq_false,Gu,I9];have hcl:=Sp.Xm x he;have htl:=Aik x;rw[AvH,AvH,w64,show(d:Int)+1=((d+1:Nat):Int) by omega,ih n (by omega) (N9 x) (d+1) (by omega) (by show(0:Int)<=((Sp.tag x:Nat):Int);omega) (by show((Sp.tag x:Nat):Int)<256;omega) (by show(Sp.content x).length<N;omega) (by show(Sp.content x).length<=_;omega),Jr]
   .rw[Dt he];simp [he]
  .rw[Dt hc,AvH];rfl
def Alk {s:Bs} (h:Sp.TB s=0):VI (N9 s) 1=Sp.chk s:=by unfold Sp.chk;rw[Dt (by simp [h])];unfold VI Sp.inner Sp.cons N9;all_goals grind[Sp.Xm,Afm,Vo]
def xY (N:Nat) (s:Bs) (hN:16<N:=by omega) (hs:s.length<=1099511627776:=by omega) (hl:s.length<N:=by omega):Sz N s=some (Sp.chk s):=by
 unfold Sz;rw[V3 N s (by omega) hs,Jr];unfold iI;by_cases h:Sp.TB s=0
 .have h1:=Sp.Xm s (Afm h).1;have h2:=Aik s;rw[Dw h,<- Alk h];have:=AoC N (by omega) 15 N (by omega) (N9 s) 1 rfl (by show(0:Int)<=((Sp.tag s:Nat):Int);omega) (by show((Sp.tag s:Nat):Int)<256;omega) (by show(Sp.content s).length<N;omega) (by show(Sp.content s).length<=_;omega);all_goals grind[Jq,S9,N9,Jr]
 .rw[Dt h];have:Sp.chk s=Sp.TB s:=by unfold Sp.chk;rw[Dw h]
  simp [XV,h,this]
end Go.Proofs.YtbgjmioccbacdaaGreatDoor.Pl
namespace Go.Proofs.YtbgjmioccbacdaaGreatDoor.Vm
open IntKind (i64 u8 u32 u64)
def JR {ρ :Type} {c:Bool} (k:Option ρ) (h:c=true:=by kernel_rfl):chk c k=k:=by rw[h];rfl
def Arh (c:UInt8):c.toNat<256:=UInt8.toNat_lt c
def getD_lt {α :Type} (l:List α) (i:Nat) (d: α) (h:i<l.length:=by omega):l.getD i d=l[i]:=by rw[Dj,D9 h];rfl
open Go
def AqL {a b:Int} {q:Decidable (a<b)} (h:a<b): @decide (a<b) q=true:= @Dk _ q h
def AkM {a b:Int} {q:Decidable (a<b)} (h:b<=a): @decide (a<b) q=false:= @DV _ q (by omega)
def AqK {a b:Int} {q:Decidable (a<=b)} (h:a<=b): @decide (a<=b) q=true:= @Dk _ q h
def Au0 {a b:Int} {q:Decidable (a<=b)} (h:b<a): @decide (a<=b) q=false:= @DV _ q (by omega)
def AqJ {a b:Int} {q:Decidable (a>b)} (h:b<a): @decide (a>b) q=true:= @Dk _ q h
def AqI {a b:Int} {q:Decidable (a>b)} (h:a<=b): @decide (a>b) q=false:= @DV _ q (by omega)
def Auz {a b:Int} {q:Decidable (a>=b)} (h:b<=a): @decide (a>=b) q=true:= @Dk _ q h
def Auy {a b:Int} {q:Decidable (a>=b)} (h:a<b): @decide (a>=b) q=false:= @DV _ q (by omega)
def AqV {a b:Nat} {q:Decidable (a<b)} (h:a<b): @decide (a<b) q=true:= @Dk _ q h
def Au8 {a b:Nat} {q:Decidable (a<b)} (h:b<=a): @decide (a<b) q=false:= @DV _ q (by omega)
def AlD {a b:Nat} {q:Decidable (a<=b)} (h:a<=b): @decide (a<=b) q=true:= @Dk _ q h
def Au7 {a b:Nat} {q:Decidable (a<=b)} (h:b<a): @decide (a<=b) q=false:= @DV _ q (by omega)
def AmL {a b:Int} (h:a=b):(a==b)=true:=by subst h;exact DK _
def ZW {a b:Int} (h:a≠b):(a==b)=false:=FQ h
def jC {a b:Int} (h:a≠b):(a != b)=true:=by unfold bne;rw[ZW h];rfl
def Xb {a b:Int} (h:a=b):(a != b)=false:=by unfold bne;rw[AmL h];rfl
def toNat_add (a b:Nat):((a:Int)+(b:Int)).toNat=a+b:=by omega
def toNat_sub (a b:Nat):((a:Int) - (b:Int)).toNat=a - b:=by omega
def Amz (a:Nat):((a:Int)+1).toNat=a+1:=by omega
def Am0 (a:Nat):((a:Int) - 1).toNat=a - 1:=by omega
def LC (a:Nat):((a:Int)+1)=((a+1:Nat):Int):=rfl
def getD_mem {α :Type} {l:List α} {i:Nat} (d: α) (h:i<l.length):l.getD i d∈l:=by rw[getD_lt l i d h];exact EZ h
def Vf {R S ρ :Type} (x:R ⊕ S) (ret:R->Option ρ) (k:S->Option ρ):Option ρ :=match x with
 | .inl r=>ret r
 | .inr s=>k s
def Ar3 {R S ρ :Type} (r:R) (ret:R->Option ρ) (k:S->Option ρ):Vf (.inl r) ret k=ret r:=rfl
def Ar4 {R S ρ :Type} (s:S) (ret:R->Option ρ) (k:S->Option ρ):Vf (.inr s) ret k=k s:=rfl
def RV {R S ρ :Type} (b:Bool) (x y:R ⊕ S) (ret:R->Option ρ) (k:S->Option ρ):Vf (bif b then x else y) ret k=bif b then Vf x ret k else Vf y ret k:=by cases b<;>rfl
def Anc {R S ρ :Type} (b:Prop) [Decidable b] (x y:R ⊕ S) (ret:R->Option ρ) (k:S->Option ρ):Vf (if b then x else y) ret k=if b then Vf x ret k else Vf y ret k:=by split<;>rfl
def Vq {E R S:Type} (step:E->S->R ⊕ S):List E->S->R ⊕ S
 | [],s=>.inr s
 | e::r,s=>match step e s with
  | .inl x=>.inl x
  | .inr s'=>Vq step r s'
def AnP {E R S:Type} (step:E->S->R ⊕ S) (s:S):Vq step [] s= .inr s:=rfl
def Xw {E R S:Type} (step:E->S->R ⊕ S) (e:E) (l:List E) (s:S):Vq step (e::l) s=(step e s).elim Sum.inl (fun s'=>Vq step l s'):=by simp only[Vq];cases step e s<;>rfl
def xC {X Y S E R ρ :Type} {B:X->(X->Option ρ)->(Y->Option ρ)->Option ρ} {kx:Y->Option ρ} (mk:Nat->S->X) (l:List E) (d:E) (I:Nat->S->Prop) (step:E->S->R ⊕ S) (ret:R->Option ρ) (fin:S->Option ρ)
 (h: ∀(i:Nat) (s:S),i<l.length->I i s-> ∀ k,B (mk i s) k kx=Vf (step (l.getD i d) s) ret fun s'=>k (mk (i+1) s'))
 (hI: ∀(i:Nat) (s s':S),i<l.length->I i s->step (l.getD i d) s= .inr s'->I (i+1) s')
 (hend: ∀(s:S) (k:X->Option ρ),I l.length s->B (mk l.length s) k kx=fin s) (N:Nat) (s:S) (h0:I 0 s) (hN:l.length<N):J4 B N (mk 0 s) kx=Vf (Vq step l s) ret fin:=by
 have key: ∀(n i:Nat) (s:S),I i s->i<=l.length->l.length - i<n->J4 B n (mk i s) kx=Vf (Vq step (l.drop i) s) ret fin:=by
  intro n
  induction n with
  | zero=>intro i s _ _ h;omega
  | succ n ih =>
   intro i s hi hil hn;rw[KO];by_cases hl:i<l.length
   .rw[h i s hl hi,Et hl];have hs:=hI i s;rw[show l.getD i d=l[i]from getD_lt l i d hl]at *
    rw[Xw];cases hst:step l[i] s with
    | inl x=>rfl
    | inr s'=>exact ih (i+1) _ (hs _ hl hi hst) (by omega) (by omega)
   .have:i=l.length:=by omega
    subst this;rw[hend s _ hi,FO];rfl
 exact key N 0 s h0 (by omega) (by omega)
def Afq {X Y S E R ρ :Type} {B:X->(X->Option ρ)->(Y->Option ρ)->Option ρ} {kx:Y->Option ρ} (mk:Nat->S->X) (l:List E) (d:E) (step:E->S->R ⊕ S) (ret:R->Option ρ) (fin:S->Option ρ)
 (h: ∀(i:Nat) (s:S),i<l.length-> ∀ k,B (mk i s) k kx=Vf (step (l.getD i d) s) ret fun s'=>k (mk (i+1) s'))
 (hend: ∀(s:S) (k:X->Option ρ),B (mk l.length s) k kx=fin s) (N:Nat) (s:S) (hN:l.length<N):J4 B N (mk 0 s) kx=Vf (Vq step l s) ret fin :=
 xC mk l d (fun _ _=>True) step ret fin (fun i s hi _=>h i s hi) (fun _ _ _ _ _ _=>trivial) (fun s k _=>hend s k) N s trivial hN
def AnO {E R:Type} (p:E->Bool) (r:R): ∀ l:List E,Vq (fun e (_:Unit)=>bif p e then .inl r else .inr ()) l ()=bif l.any p then .inl r else .inr ():=by
 intro l
 induction l with
 | nil=>rfl
 | cons e t ih =>
  rw[Xw,List.any_cons];cases p e with
  | true=>rfl
  | false=>exact ih
def AiY {E:Type} (f:E->Int): ∀ l:List E,Vq (fun e (_:Unit)=>bif f e != 0 then .inl (f e)else .inr ()) l ()=bif Oe f l != 0 then .inl (Oe f l)else .inr ():=by
 intro l
 induction l with
 | nil=>rfl
 | cons e t ih =>
  rw[Xw];unfold Oe;by_cases h:f e=0
  .rw[h,show((0:Int) != 0)=false from rfl];exact ih
  .rw[Dw h,show(f e != 0)=true from Gp.2 h];rfl
def Aqb {n i:Nat} (h:i<n):(List.range n).getD i 0=i:=by rw[getD_lt _ _ _ (by rw[FH];exact h),List.getElem_range]
section
variable {X Y E ρ :Type} {B:X->(X->Option ρ)->(Y->Option ρ)->Option ρ} {kx:Y->Option ρ}
theorem Anz (mk:Nat->X) (l:List E) (d:E) (f:E->Int) (ret:Int->Option ρ) (fin:Option ρ)
 (h: ∀ i,i<l.length-> ∀ k,B (mk i) k kx=bif f (l.getD i d) != 0 then ret (f (l.getD i d))else k (mk (i+1)))
 (hend: ∀ k,B (mk l.length) k kx=fin) (N:Nat) (hN:l.length<N):J4 B N (mk 0) kx=bif Oe f l != 0 then ret (Oe f l)else fin:=by
 refine Hm (Afq (S:=Unit) (R:=Int) (mk:=fun i _=>mk i) l d (fun e _=>bif f e != 0 then .inl (f e)else .inr ()) ret (fun _=>fin) ?_ (fun _ k=>hend k) N () hN) ?_
 .intro i _ hi k;rw[h i hi,RV];rfl
 .rw[AiY,RV];rfl
theorem AkW (mk:Nat->X) (n:Nat) (f:Nat->Int) (ret:Int->Option ρ) (fin:Option ρ)
 (h: ∀ i,i<n-> ∀ k,B (mk i) k kx=bif f i != 0 then ret (f i)else k (mk (i+1)))
 (hend: ∀ k,B (mk n) k kx=fin) (N:Nat) (hN:n<N):J4 B N (mk 0) kx=bif Oe f (List.range n) != 0 then ret (Oe f (List.range n))else fin:=by
 refine Anz mk (List.range n) 0 f ret fin ?_ ?_ N (by rw[FH];exact hN)
 .intro i hi k;rw[FH]at hi;rw[Aqb hi];exact h i hi k
 .intro k;rw[FH];exact hend k
theorem AjF (mk:Nat->X) (l:List E) (d:E) (p:E->Bool) (x fin:Option ρ)
 (h: ∀ i,i<l.length-> ∀ k,B (mk i) k kx=bif p (l.getD i d)then x else k (mk (i+1)))
 (hend: ∀ k,B (mk l.length) k kx=fin) (N:Nat) (hN:l.length<N):J4 B N (mk 0) kx=bif l.any p then x else fin:=by
 refine Hm (Afq (S:=Unit) (R:=Unit) (mk:=fun i _=>mk i) l d (fun e _=>bif p e then .inl ()else .inr ()) (fun _=>x) (fun _=>fin) ?_ (fun _ k=>hend k) N () hN) ?_
 .intro i _ hi k;rw[h i hi,RV];rfl
 .rw[AnO,RV];rfl
end
def Aa2 {α :Type} (b:Bool) (x y: α):(bif b then some x else some y)=some (bif b then x else y):=by cases b<;>rfl
def gW {E:Type} (f:E->Int) (x:E) (r:List E):Oe f (x::r)=bif f x != 0 then f x else Oe f r:=by
 show(if f x≠0 then f x else Oe f r)=_;by_cases h:f x=0
 .rw[Dt (fun hn=>hn h),h];rfl
 .rw[Dw h,show(f x != 0)=true from Gp.2 h];rfl
def Ang {α :Type} (l:List α) (i:Nat):J6 l 0 i=l.take i:=rfl
section
variable {X Y E A ρ :Type} {B:X->(X->Option ρ)->(Y->Option ρ)->Option ρ} {kx:Y->Option ρ}
theorem Al6 (er:E->Int) (g:E->A): ∀(l:List E) (acc:List A),Vq (fun e (acc:List A)=>bif er e != 0 then Sum.inl (er e)else Sum.inr (acc++[g e])) l acc=bif Oe er l != 0 then .inl (Oe er l)else .inr (acc++l.map g):=by
 intro l
 induction l with
 | nil=>intro acc;rw[ET,Ee];rfl
 | cons e r ih =>
  intro acc;rw[Xw,gW];cases h:er e != 0 with
  | true=>rw[cond_true,cond_true,h];rfl
  | false =>rw[cond_false,cond_false];show Vq _ r (acc++[g e])=_;rw[ih,Eg];rfl
theorem Ap3 (mk:Nat->List A->X) (l:List E) (d:E) (er:E->Int) (g:E->A) (ret:Int->Option ρ) (fin:List A->Option ρ)
 (h: ∀(i:Nat) (acc:List A),i<l.length->acc.length=i-> ∀ k,B (mk i acc) k kx=bif er (l.getD i d) != 0 then ret (er (l.getD i d))else k (mk (i+1) (acc++[g (l.getD i d)])))
 (hend: ∀(acc:List A) (k:X->Option ρ),acc.length=l.length->B (mk l.length acc) k kx=fin acc) (N:Nat) (hN:l.length<N):J4 B N (mk 0 []) kx=bif Oe er l != 0 then ret (Oe er l)else fin (l.map g):=by
 refine(xC (S:=List A) (R:=Int) mk l d (fun i acc=>acc.length=i) (fun e acc=>bif er e != 0 then .inl (er e)else .inr (acc++[g e])) ret fin ?_ ?_ (fun acc k ha=>hend acc k ha) N [] rfl hN).trans ?_
 .intro i acc hi ha k;rw[h i acc hi ha,RV];rfl
 .intro i acc acc' hi ha he;cases hb:er (l.getD i d) != 0 with
  | true=>rw[hb]at he;cases he
  | false =>rw[hb]at he;injection he with he;subst he;rw[Dv,ha];rfl
 .rw[Al6,RV,List.nil_append];rfl
theorem AaS: ∀ l:List E,Oe (fun _=>(0:Int)) l=0:=by
 intro l
 induction l with
 | nil=>rfl
 | cons e r ih=>rw[gW];exact ih
theorem QC (mk:Nat->List A->X) (l:List E) (d:E) (g:E->A) (fin:List A->Option ρ)
 (h: ∀(i:Nat) (acc:List A),i<l.length->acc.length=i-> ∀ k,B (mk i acc) k kx=k (mk (i+1) (acc++[g (l.getD i d)])))
 (hend: ∀(acc:List A) (k:X->Option ρ),acc.length=l.length->B (mk l.length acc) k kx=fin acc) (N:Nat) (hN:l.length<N:=by omega):J4 B N (mk 0 []) kx=fin (l.map g):=by
 refine(Ap3 mk l d (fun _=>0) g (fun _=>none) fin (fun i acc hi ha k=>h i acc hi ha k) hend N hN).trans ?_;rw[AaS];rfl
theorem AeZ (g:E->Bs) (l:List E) (d:E) {i:Nat} (h:i<l.length):((l.take i).map g).flatten++g (l.getD i d)=((l.take (i+1)).map g).flatten:=by rw[getD_lt l i d h,FI,D9 h,EY,GL];simp
theorem ArE (g:E->Bs) (l:List E) (i:Nat):((l.take i).map g).flatten.length<=(l.map g).flatten.length:=by
 conv=>rhs;rw[<- H9 i l,EY,GL,Dv]
 omega
theorem Api (mk:Nat->Bs->X) (l:List E) (d:E) (er:E->Int) (g:E->Bs) (ret:Int->Option ρ) (fin:Bs->Option ρ)
 (h: ∀(i:Nat) (t:Bs),i<l.length->t.length+(g (l.getD i d)).length<=(l.map g).flatten.length-> ∀ k,B (mk i t) k kx=bif er (l.getD i d) != 0 then ret (er (l.getD i d))else k (mk (i+1) (t++g (l.getD i d))))
 (hend: ∀(t:Bs) (k:X->Option ρ),B (mk l.length t) k kx=fin t) (N:Nat) (hN:l.length<N):J4 B N (mk 0 []) kx=bif Oe er l != 0 then ret (Oe er l)else fin (l.map g).flatten:=by
 refine(xC (S:=Bs) (R:=Int) mk l d (fun i t=>t=((l.take i).map g).flatten) (fun e t=>bif er e != 0 then .inl (er e)else .inr (t++g e)) ret fin ?_ ?_ (fun t k _=>hend t k) N [] rfl hN).trans ?_
 .intro i t hi ht k;rw[h i t hi ?_,RV]
  .rfl
  .rw[ht,<- Dv,AeZ g l d hi];exact ArE g l (i+1)
 .intro i t t' hi ht he;cases hb:er (l.getD i d) != 0 with
  | true=>rw[hb]at he;cases he
  | false =>rw[hb]at he;injection he with he;rw[<- he,ht,AeZ g l d hi]
 .have: ∀(l:List E) (t:Bs),Vq (fun e (t:Bs)=>bif er e != 0 then Sum.inl (er e)else Sum.inr (t++g e)) l t=bif Oe er l != 0 then .inl (Oe er l)else .inr (t++(l.map g).flatten):=by
   intro l
   induction l with
   | nil=>intro t;simp [AnP,Oe]
   | cons e r ih =>
    intro t;rw[Xw,gW];cases h:er e != 0 with
    | true=>rw[cond_true,cond_true,h];rfl
    | false=>rw[cond_false,cond_false,Eb,List.flatten_cons,<- Eg,<- ih];rfl
  rw[this,RV,List.nil_append];rfl
theorem Ary (mk:Nat->Bs->X) (l:List E) (d:E) (g:E->Bs) (fin:Bs->Option ρ)
 (h: ∀(i:Nat) (t:Bs),i<l.length->t.length+(g (l.getD i d)).length<=(l.map g).flatten.length-> ∀ k,B (mk i t) k kx=k (mk (i+1) (t++g (l.getD i d))))
 (hend: ∀(t:Bs) (k:X->Option ρ),B (mk l.length t) k kx=fin t) (N:Nat) (hN:l.length<N):J4 B N (mk 0 []) kx=fin (l.map g).flatten:=by
 refine(Api mk l d (fun _=>0) g (fun _=>none) fin (fun i t hi ht k=>h i t hi ht k) hend N hN).trans ?_;rw[AaS];rfl
theorem MK {g:E->Bs} {M:Nat}: ∀ {l:List E},(∀ e∈l,(g e).length<=M)->(l.map g).flatten.length<=M*l.length:=by
 intro l
 induction l with
 | nil=>intro _;simp
 | cons e r ih =>intro h;have h1:=h e Du;have h2:=ih fun e he=>h e (Dy _ he);rw[Eb,List.flatten_cons,Dv,List.length_cons,Nat.mul_succ];omega
end
def Agw (x y:Bool):(x|| !y&& !x||y)=true:=by cases x<;>cases y<;>rfl
set_option linter.defProp false in
def JO:=And.intro @Ym (And.intro @WL (And.intro @LG (And.intro @Jr (And.intro @cond_true.{1} (And.intro @cond_false.{1} (And.intro @AqL (And.intro @AkM (And.intro @AqK (And.intro @Au0 (And.intro @AqJ (And.intro @AqI (And.intro @Auz (And.intro @Auy (And.intro @AqV (And.intro @Au8 (And.intro @AlD (And.intro @Au7 (And.intro @AmL (And.intro @ZW (And.intro @jC (And.intro @Xb (And.intro @w64 (And.intro @Int.toNat_natCast (And.intro @toNat_add (And.intro @toNat_sub (And.intro @Amz (And.intro @Am0 (And.intro @EJ (And.intro @Ff (And.intro @GV (And.intro @FK (And.intro @Ij (And.intro @Gh (And.intro @F5 (And.intro @Bool.and_false (And.intro @Eu (And.intro @EG (And.intro @Bool.not_not (And.intro @Ho (And.intro @IP (And.intro @H8.{1} (And.intro @Iu (And.intro @Ig (And.intro @Ih (And.intro @H7 (And.intro @Hq (And.intro @Ik (And.intro @Ar3 (And.intro @Ar4 (And.intro @RV (And.intro @Anc (And.intro @U2.eq_1 (And.intro @U3.eq_1 (And.intro @U4.eq_1 (And.intro @U5.eq_1 (And.intro @U6.eq_1 (And.intro @U7.eq_1 (And.intro @U8.eq_1 (And.intro @U9.eq_1 (@U10.eq_1))))))))))))))))))))))))))))))))))))))))))))))))))))))))))))
end Go.Proofs.YtbgjmioccbacdaaGreatDoor.Vm
namespace Go.Proofs.YtbgjmioccbacdaaGreatDoor.Pl
open IntKind (i64 u8 u32 u64)
open Go Vm
def AkQ (s:Bs):(s==([]:Bs))=decide (s=[]):=by cases s<;>rfl
def Aor {α :Type} {s:List α} (h:s≠ []):0<s.length:=by cases s with | nil=>exact absurd rfl h | cons _ _=>simp
def Y9 (t:Nat) (c:Bs):Option Bs:=if c.length<=131072 then some (Sp.elem t c)else none
def Afc: ∀(l:List Bs),([]:Bs).intercalate l=l.flatten
 | []=>rfl
 | [a]=>by simp [List.intercalate]
 | a::b::r=>by have:=Afc (b::r);simp only[List.intercalate,List.intersperse,List.flatten_cons]at this ⊢;simp [this]
theorem dP (n:Nat):Vm.byteOf (u8.wrap (n:Int))=UInt8.ofNat n:=by rw[w8];unfold Vm.byteOf;rw[show((n:Int) % 256).toNat=n % 256 by omega];apply UInt8.toNat.inj;simp
def Ahb (n k:Nat):(n:Int).fdiv (k:Int)=((n / k:Nat):Int):=by grind
def head_eq {ρ :Type} (t n:Nat) (ht:t<256) (K:List Int->Option ρ) (K':Bs->Option ρ) (hK: ∀ l,List.all l isByte=true->l.length<=5->K l=K' (List.map Vm.byteOf l)) :
 (bif decide ((n:Int)<(128:Int))then K ([u8.wrap (t:Int),u8.wrap (n:Int)]:List Int)
   else bif decide ((n:Int)<(256:Int))then K ([u8.wrap (t:Int),129,u8.wrap (n:Int)]:List Int)
   else bif decide ((n:Int)<(65536:Int))then K ([u8.wrap (t:Int),130,u8.wrap ((n:Int).fdiv (256)),u8.wrap (n:Int)]:List Int)
   else K ([u8.wrap (t:Int),131,u8.wrap ((n:Int).fdiv (65536)),u8.wrap ((n:Int).fdiv (256)),u8.wrap (n:Int)]:List Int))=K' (UInt8.ofNat t::Sp.PZ n):=by
 have f1:=Ahb n 256;have f2:=Ahb n 65536;have g1: ∀ k:Nat,isByte (k:Int)=decide (k<256):=fun k=>by unfold isByte;simp;omega
 rw[show((256:Nat):Int)=256 from rfl]at f1;rw[show((65536:Nat):Int)=65536 from rfl]at f2;rw[f1,f2];unfold Sp.PZ;simp only[jB];by_cases h1:n<128
 .grind[O9,dP]
 .rw[AvH,Dt h1];by_cases h2:n<256
  .rw[AvI,Dw h2,hK _ (by simp [O9];decide) (by simp)];simp only[Eb,ET,dP];rfl
  .rw[AvH,Dt h2];by_cases h3:n<65536
   .rw[AvI,Dw h3,hK _ (by simp [O9];decide) (by simp)];simp only[Eb,ET,dP];rfl
   .rw[AvH,Dt h3,hK _ (by simp [O9];decide) (by simp)];simp only[Eb,ET,dP];rfl
def Aqz {ρ :Type} (bad:Option ρ) (fin:Nat->Option ρ): ∀(l:List Bs) (s: {n:Nat // n<=131072}),
 yF (fun(e:Bs) (s: {n:Nat // n<=131072}) (k: {n:Nat // n<=131072}->Option ρ)=>if h:s.1+e.length<=131072 then k ⟨s.1+e.length,h⟩else bad) (fun s=>fin s.1) l s=if s.1+l.flatten.length<=131072 then fin (s.1+l.flatten.length)else bad:=by
 intro l
 induction l with
 | nil=>grind[yF]
 | cons e r ih =>
  intro s;show(if h:s.1+e.length<=131072 then _ else bad)=_;rw[List.flatten_cons,Dv];by_cases h:s.1+e.length<=131072
  .rw[GZ h,ih];dsimp only;rw[EE]
  .rw[dif_neg h,AvH]
def Aqt {ρ :Type} (N:Nat) (l:List Bs) (hN:l.length<N) (hl:l.length<=1099511627776) (bad:Option ρ) (kx:Int->Option ρ) :
 J4 (X:=Int×Int) (Y:=Int) (U2 fun t6a t23a k1 x2 =>
  bif decide (t23a<(l.length:Int))then(Vm.chk (decide ((0:Int)<=t23a)) <|
  Vm.chk (decide (t23a<(l.length:Int))) <|
  let x31:Bool:=decide (((l.getD t23a.toNat ([]:Bs)).length:Int)>(i64.wrap ((131072:Int) - t6a)))
  bif x31 then bad
  else(k1 (i64.wrap (t6a+((l.getD t23a.toNat ([]:Bs)).length:Int)),i64.wrap (t23a+(1:Int)))))
  else(x2 t6a)) N (0,0) kx=if l.flatten.length<=131072 then kx (l.flatten.length:Int)else bad:=by
 refine Hm (Alp (S:= {n:Nat // n<=131072}) (fun i s=>((s.1:Int),i)) l ([]:Bs) (fun e s k=>if h:s.1+e.length<=131072 then k ⟨s.1+e.length,h⟩else bad) (fun s=>(fun n:Nat=>kx (n:Int)) s.1) ?_ ?_ N ⟨0,by omega⟩ hN) ?_
 .intro i s k hi;have hs:=s.2;show(bif decide ((i:Int)<(l.length:Int))then _ else _)=_;simp only[jB,uM,Int.toNat_natCast];all_goals grind[w64]
 .simp_all[jB,Bs,J4,U2]
 .refine(Aqz bad (fun n:Nat=>kx (n:Int)) l ⟨0,by omega⟩).trans ?_;dsimp only;rw[DR]
def Aau (N t:Nat) (l:List Bs) (ht:t<256) (h31:t % 32≠31) (hN:l.length<N) (hl:l.length<=1099511627776):Ko N (t:Int) l=some ((Y9 t l.flatten).getD [],if(Y9 t l.flatten).isNone then 6 else 0):=by
 unfold Ko;try simp -zeta only[Aq]
 simp only[AmU,AjH,AjI,Arz,Apk,AmM,Aq9 t ht];rw[show(decide ((t:Int)<0)||decide ((t:Int)>255)||((t % 32:Nat):Int)==31)=false by simp;omega,cond_false];refine Hm (Aqt N l hN hl _ _) ?_;unfold Y9;by_cases h:l.flatten.length<=131072
 .rw[Dw h,Dw h,WL];refine Hm (head_eq t l.flatten.length ht (fun l1:List Int=>Vm.chk (List.all l1 isByte)<|Jq (strings_Join N l ([]:Bs)) fun r81=>Vm.chk (decide ((List.map Vm.byteOf l1).length+r81.length<=140737488355328))<|some ((List.map Vm.byteOf l1)++r81,(0:Int))) (fun h=>some (h++l.flatten,0)) (fun l' hl' hl5=> ?_)) rfl;rw[hl',LG];unfold strings_Join;rw[Afc,Dk (show l.length<=140737488355328 by omega),Dk (show l.flatten.length<=140737488355328 by omega)];show Vm.chk (decide ((List.map Vm.byteOf l').length+l.flatten.length<=140737488355328)) _=_;all_goals grind[uM]
 .rw[Dt h,Dt h];rfl
def AjA (N:Nat) (b:Bool) (s:Bs) (e:Int):JZ N b s e=some (s,b||decide (e≠0)):=by
 unfold JZ;try simp -zeta only[Aq]
 cases b<;>simp [Vm.chk,bne,BEq.beq,decide_not]
def AjB (N t:Nat) (b:Bool) (l:List Bs) (ht:t<256) (h31:t % 32≠31) (hN:l.length<N) (hl:l.length<=1099511627776):JB N b (t:Int) l=some ((Y9 t l.flatten).getD [],b||(Y9 t l.flatten).isNone):=by unfold JB;rw[Aau N t l ht h31 hN hl,Jr,AjA,Jr];cases Y9 t l.flatten<;>simp
def AbC (N:Nat) (b:Bool) (l:List Bs) (hN:l.length<N) (hl:l.length<=1099511627776):JS N b l=some ((Y9 48 l.flatten).getD [],b||(Y9 48 l.flatten).isNone):=by unfold JS;rw[show(48:Int)=((48:Nat):Int)from rfl,AjB N 48 b l (by omega) (by omega) hN hl,Jr]
abbrev El:=Int×Bs×Bs
def Si:Nat->Bs->List El->List El×Int
 | 0,_,a=>(a,0)
 | f+1,s,a=>if s=[]then(a,0)else if Sp.err s≠0 then([],Sp.err s)else Si f (Sp.rest s) (a++[N9 s])
def VU (s:Bs):List El×Int:=Si (s.length+1) s []
theorem AcB: ∀(f g:Nat) (s:Bs) (a:List El),s.length<f->s.length<g->Si f s a=Si g s a:=by
 intro f
 induction f with
 | zero=>intro g s a h;omega
 | succ f ih =>
  intro g s a hf hg;cases g with
  | zero=>omega
  | succ g=>grind[Si,N9,Sp.yS]
def yI (M:Nat) (e:El):Prop:= ∃ t:Bs,Sp.err t=0/\e=N9 t/\t.length<=M
structure Good (M:Nat) (l:List El):Prop where
 len:l.length<=M
 all: ∀ e∈l,yI M e
 AtN:(l.map (·.2.2)).flatten.length<=M
def yI.mono {M K:Nat} {e:El} (h:yI M e) (hk:M<=K):yI K e:=by obtain⟨t,h1,h2,h3⟩:=h;exact⟨t,h1,h2,by omega⟩
def yI.content {M:Nat} {e:El} (h:yI M e):e.2.1.length+2<=e.2.2.length/\e.2.2.length<=M/\0<=e.1/\e.1<256:=by obtain⟨t,h1,rfl,h3⟩:=h;have:=Sp.Ade t h1;have hr:=Sp.AlZ t h1;have hc:=Sp.AdM t h1;have ht:=Aik t;show(Sp.content t).length+2<=(Sp.raw t).length/\(Sp.raw t).length<=M/\0<=((Sp.tag t:Nat):Int)/\((Sp.tag t:Nat):Int)<256;omega
def Good.mono {M K:Nat} {l:List El} (h:Good M l) (hk:M<=K):Good K l:=⟨by have:=h.len;omega,fun e he=>(h.all e he).mono hk,by have:=h.AtN;omega⟩
def Good.tail {M:Nat} {e:El} {l:List El} (h:Good M (e::l)):Good M l:=⟨by have:=h.len;simp at this;omega,fun e he=>h.all e (Dy _ he),by have:=h.AtN;rw[Eb,List.flatten_cons,Dv]at this;omega⟩
def Oi (N:Nat) (s:Bs) (hN:4<N:=by omega) (hs:s.length<=1099511627776:=by omega) (hl:s.length<N:=by omega):NI N s=some (VU s):=by
 unfold NI VU;try simp -zeta only[Aq]
 refine Yl (F:=fun x=>some (Si (x.1.length+1) x.1 x.2)) (fun x=>x.1.length+x.2.length<=s.length) (fun x=>x.1.length) ?_ N (s,[]) (by simp) hl;rintro ⟨t,a⟩ hI k hk;dsimp only at hI hk;dsimp only[U2];by_cases h:t=[]
 .subst h;rfl
 .have hp:=Aor h;rw[AkQ,DV h,EG,cond_true];show(Jq (WE N t) _:Option (List El×Int))=some (if t=[]then(a,0)else if Sp.err t≠0 then([],Sp.err t)else Si t.length (Sp.rest t) (a++[N9 t]));rw[Dt h,Y8 N t hN,Jr];by_cases he:Sp.err t=0
  .grind[SS,N9,Sp.yS,uM,AcB]
  .have hr:SS t=((0,[],[]),[],Sp.err t):=by unfold SS;rw[Dt he]
   rw[hr,Dw he];show(bif Sp.err t != 0 then some (([]:List El),Sp.err t)else _)=_;rw[show(Sp.err t != 0)=true by simp [he]];rfl
def Aec (l:List El) (t:Int):El×Bool×List El:=match l with
 | []=>((0,[],[]),false,[])
 | e::r=>if e.1=t then(e,true,r)else((0,[],[]),false,e::r)
def ArJ {e:El} {r:List El} {t:Int} (h:e.1=t):Aec (e::r) t=(e,true,r):=by show(if e.1=t then(e,true,r)else((0,[],[]),false,e::r))=_;rw[Dw h]
def ArI {e:El} {r:List El} {t:Int} (h: ¬ e.1=t):Aec (e::r) t=((0,[],[]),false,e::r):=by show(if e.1=t then(e,true,r)else((0,[],[]),false,e::r))=_;rw[Dt h]
def sD (N:Nat) (l:List El) (t:Int):LV N l t=some (Aec l t):=by
 cases l with
 | nil=>rfl
 | cons e r =>
  have h0:(((e::r).length:Int)==(0:Int))=false:=by simp;omega
  have h1:decide ((0:Int)<((e::r).length:Int))=true:=Dk (by simp only[List.length_cons];omega);have h2:decide ((1:Int)<=((e::r).length:Int))=true:=Dk (by simp only[List.length_cons];omega);unfold LV;try simp -zeta only[Aq]
  rw[h0,h1,h2];show(bif (e.1 != t)then some (((0,[],[]):El),false,e::r)else some (e,true,J6 (e::r) 1 (e::r).length))=some (if e.1=t then(e,true,r)else((0,[],[]),false,e::r));have hc:J6 (e::r) 1 (e::r).length=r:=by show((e::r).take (e::r).length).drop 1=r;rw[EI];rfl
  rw[hc];by_cases h:e.1=t
  .rw[Dw h,show(e.1 != t)=false by simp [h]];rfl
  .rw[Dt h,show(e.1 != t)=true by simp [h]];rfl
def XQ (N:Nat) (l:List El):Lc N l=some (if l=[]then 0 else 4,l):=by
 cases l with
 | nil=>rfl
 | cons e r =>unfold Lc;rw[jB,Dw (by simp only[List.length_cons];omega),Dt (by simp)]
def AlM (s:Bs) (t:Int):El×Int:=bif (iI s).2 != 0 then((0,[],[]),(iI s).2)else bif (iI s).1.1 != t then((0,[],[]),5)else((iI s).1,0)
def mZ (N:Nat) (s:Bs) (t:Int) (hN:1048578<N) (hs:s.length<=1048576):Pv N s t=some (AlM s t):=by
 unfold Pv AlM;try simp only[clR]
 rw[V3 N s,Jr];simp only[Aa2]
def u8n {n:Nat} (h:n<256):(UInt8.ofNat n).toNat=n:=by rw[GN];omega
def u8m (n:Nat):(UInt8.ofNat n).toNat=n % 256:=GN
def An6 (t n:Nat) (s:Bs) (ht:t<256) (h31:t % 32≠31) (hn:n<=131072):Sp.head (UInt8.ofNat t::(Sp.PZ n++s))=(0,1+(Sp.PZ n).length,n):=by
 have h1: ¬(UInt8.ofNat t).toNat % 32=31:=by rw[u8n ht];exact h31
 unfold Sp.PZ;by_cases a1:n<128
 .rw[Dw a1];have e:=u8n (show n<256 by omega);unfold Sp.head;dsimp only[List.cons_append,List.nil_append];rw[Dt h1,e,Dw a1];rfl
 .rw[Dt a1];by_cases a2:n<256
  .rw[Dw a2];have e:=u8n a2;have hb:Sp.beNat (((UInt8.ofNat n)::s).take 1)=n:=by show 0*256+(UInt8.ofNat n).toNat=n;omega
   unfold Sp.head;dsimp only[List.cons_append,List.nil_append];rw[Dt h1,Dt (by decide),Dt (by decide),show(129:UInt8).toNat - 128=1 from rfl];rw[hb,Dt (by simp),Dt (by rw[show Sp.leastOf 1=128 from rfl];omega)];rfl
  .rw[Dt a2];by_cases a3:n<65536
   .rw[Dw a3];have e1:=u8m (n / 256);have e2:=u8m n;have hb:Sp.beNat (((UInt8.ofNat (n / 256))::UInt8.ofNat n::s).take 2)=n:=by show(0*256+(UInt8.ofNat (n / 256)).toNat)*256+(UInt8.ofNat n).toNat=n;omega
    unfold Sp.head;dsimp only[List.cons_append,List.nil_append];rw[Dt h1,Dt (by decide),Dt (by decide),show(130:UInt8).toNat - 128=2 from rfl];rw[hb,Dt (by simp),Dt (by rw[show Sp.leastOf 2=256 from rfl];omega)];rfl
   .rw[Dt a3];have e0:=u8m (n / 65536);have e1:=u8m (n / 256);have e2:=u8m n;have hb:Sp.beNat (((UInt8.ofNat (n / 65536))::(UInt8.ofNat (n / 256))::UInt8.ofNat n::s).take 3)=n:=by show((0*256+(UInt8.ofNat (n / 65536)).toNat)*256+(UInt8.ofNat (n / 256)).toNat)*256+(UInt8.ofNat n).toNat=n;omega
    unfold Sp.head;dsimp only[List.cons_append,List.nil_append];rw[Dt h1,Dt (by decide),Dt (by decide),show(131:UInt8).toNat - 128=3 from rfl];rw[hb,Dt (by simp),Dt (by rw[show Sp.leastOf 3=65536 from rfl];omega)];rfl
section
variable (t:Nat) (c r:Bs) (ht:t<256) (h31:t % 32≠31) (hc:c.length<=131072)
include ht h31 hc
theorem Asi:Sp.rd (Sp.elem t c++r)=(0,1+(Sp.PZ c.length).length,c.length):=by
 have h:Sp.elem t c++r=UInt8.ofNat t::(Sp.PZ c.length++(c++r)):=by unfold Sp.elem;simp
 unfold Sp.rd;rw[h,An6 t c.length (c++r) ht h31 hc];rw[Dt];rintro ⟨_,h2⟩;simp only[List.length_cons,Dv]at h2;omega
theorem xE:Sp.err (Sp.elem t c++r)=0/\N9 (Sp.elem t c++r)=((t:Int),c,Sp.elem t c)/\Sp.rest (Sp.elem t c++r)=r:=by
 have h:=Asi t c r ht h31 hc;have hl:(Sp.elem t c).length=1+(Sp.PZ c.length).length+c.length:=by unfold Sp.elem;simp;omega
 have hd:(Sp.elem t c++r).drop (1+(Sp.PZ c.length).length)=c++r:=by
  have h2:Sp.elem t c++r=(UInt8.ofNat t::Sp.PZ c.length)++(c++r):=by unfold Sp.elem;simp
  rw[h2];exact Gt (by simp;omega)
 refine⟨by unfold Sp.err;rw[h],?_,?_⟩
 .unfold N9 Sp.content Sp.raw;rw[h];dsimp only;rw[hd,List.take_left,<- hl,List.take_left];rw[show Sp.tag (Sp.elem t c++r)=t from u8n ht]
 .unfold Sp.rest;rw[h];dsimp only;rw[<- hl,List.drop_left]
end
def JQ (t:Nat) (c:Bs):El:=((t:Int),c,Sp.elem t c)
def bP (t:Nat) (c:Bs) (ht:t<256) (h31:t % 32≠31) (hc:c.length<=131072):iI (Sp.elem t c)=(JQ t c,0):=by obtain⟨h1,h2,h3⟩:=xE t c [] ht h31 hc;rw[Ee]at h1 h2 h3;unfold iI Sp.TB;rw[h1,h3,Dw (show(if(0:Int)≠0 then(0:Int)else if([]:Bs)=[]then 0 else 4)=0 from rfl),h2];rfl
def wP (t:Nat) (c:Bs) (ht:t<256) (h31:t % 32≠31) (hc:c.length<=131072):AlM (Sp.elem t c) t=(JQ t c,0):=by unfold AlM;rw[bP t c ht h31 hc];show(bif ((t:Int) != (t:Int))then((0,[],[]),(5:Int))else(JQ t c,0))=_;rw[show((t:Int) != (t:Int))=false by simp];rfl
structure Fine (p:Nat×Bs):Prop where
 lt:p.1<256
 low:p.1 % 32≠31
 len:p.2.length<=131072
def MC {t:Nat} {c:Bs} (ht:t<256) (h31:t % 32≠31) (hc:c.length<=131072:=by omega):Fine (t,c):=⟨ht,h31,hc⟩
def V6 (d:Nat) (s:Bs):Prop:=Sp.within (s.length+1) d s=0
def ApP (d:Nat):V6 d []:=Sp.Am5 _ _
def Aj7: ∀(f d:Nat) (l:Bs),Sp.within f (d+1) l=0->Sp.within f d l=0:=by
 intro f
 induction f with
 | zero=>intro d l _;rfl
 | succ f ih =>
  intro d l h;unfold Sp.within at h ⊢;by_cases h1:l=[]
  .rw[Dw h1]
  .rw[Dt h1]at h ⊢;by_cases h2:Sp.err l≠0
   .rw[Dw h2]at h;exact absurd h h2
   .rw[Dt h2]at h ⊢;by_cases h3:16<=d+1
    .rw[Dw h3]at h;cases h
    .rw[Dt h3]at h;rw[AvH];by_cases h4:(if Sp.cons (Sp.tag l)=true then Sp.within f (d+1+1) (Sp.content l)else 0)=0
     .have h5:(if Sp.cons (Sp.tag l)=true then Sp.within f (d+1) (Sp.content l)else 0)=0:=by
       by_cases hc:Sp.cons (Sp.tag l)=true
       .rw[Dw hc]at h4 ⊢;exact ih _ _ h4
       .rw[Dt hc]
      rw[Dt (by simp [h4])]at h;rw[Dt (by simp [h5])];exact ih _ _ h
     .rw[Dw h4]at h;exact absurd h h4
def AjS {d e:Nat} (h:d<=e) {s:Bs} (hs:V6 e s):V6 d s:=by
 obtain⟨k,rfl⟩: ∃ k,e=d+k:=⟨e - d,by omega⟩
 clear h
 induction k with
 | zero=>exact hs
 | succ k ih=>exact ih (Aj7 _ _ _ hs)
def AgN (t:Nat) (c r:Bs):Sp.elem t c++r≠ []:=by unfold Sp.elem;simp
def ZL (t:Nat) (c:Bs):c.length<(Sp.elem t c).length:=by unfold Sp.elem;simp;omega
def AhY {t:Nat} {c r:Bs} (h:Fine (t,c)):Sp.err (Sp.elem t c++r)=0/\Sp.tag (Sp.elem t c++r)=t/\Sp.content (Sp.elem t c++r)=c/\Sp.rest (Sp.elem t c++r)=r:=by obtain⟨h1,h2,h3⟩:=xE t c r h.lt h.low h.len;unfold N9 at h2;injection h2 with h4 h5;injection h5 with h5 h6;exact⟨h1,by exact_mod_cast h4,h5,h3⟩
def AnU {d t:Nat} {c r:Bs} (h:Fine (t,c)) (hd:d<16) (hc:Sp.cons t=true->V6 (d+1) c) (hr:V6 d r):V6 d (Sp.elem t c++r):=by
 obtain⟨h1,h2,h3,h4⟩:=AhY (r:=r) h;have hl:=ZL t c;have hlen:(Sp.elem t c++r).length=(Sp.elem t c).length+r.length:=Dv;unfold V6;rw[Sp.Aay _ d _ (AgN t c r) h1 (by omega),h4]
 .rw[Vo _ (r.length+1) d r (by omega) (by omega)];exact hr
 .rw[h2,h3];unfold Sp.inner;by_cases hq:Sp.cons t=true
  .rw[Dw hq,Vo _ (c.length+1) (d+1) c (by omega) (by omega)];exact hc hq
  .rw[Dt hq]
def AaL {t:Nat} {c:Bs} (h:Fine (t,c)) (hc:Sp.cons t=true->V6 1 c):Sp.chk (Sp.elem t c)=0:=by
 obtain⟨h1,h2,h3,h4⟩:=AhY (r:=[]) h;rw[Ee]at h1 h2 h3 h4;have hl:=ZL t c;have ho:Sp.TB (Sp.elem t c)=0:=by unfold Sp.TB;rw[h1,h4,Dt (by decide),Dw rfl]
 unfold Sp.chk;rw[ho,Dt (by decide),h2,h3];unfold Sp.inner;by_cases hq:Sp.cons t=true
 .rw[Dw hq,Vo _ (c.length+1) 1 c (by omega) (by omega)];exact hc hq
 .rw[Dt hq]
def AnM: ∀(f:Nat) (s:Bs) (a:List El),Si f s a=if(Si f s []).2=0 then(a++(Si f s []).1,0)else([],(Si f s []).2):=by
 intro f
 induction f with
 | zero=>intro s a;show(a,(0:Int))=if(0:Int)=0 then(a++[],0)else _;rw[Dw rfl,Ee]
 | succ f ih =>
  intro s a;show(if s=[]then(a,(0:Int))else if Sp.err s≠0 then([],Sp.err s)else Si f (Sp.rest s) (a++[N9 s]))=if(if s=[]then(([]:List El),(0:Int))else if Sp.err s≠0 then([],Sp.err s)else Si f (Sp.rest s) ([]++[N9 s])).2=0 then(a++(if s=[]then(([]:List El),(0:Int))else if Sp.err s≠0 then([],Sp.err s)else Si f (Sp.rest s) ([]++[N9 s])).1,0)else([],(if s=[]then(([]:List El),(0:Int))else if Sp.err s≠0 then([],Sp.err s)else Si f (Sp.rest s) ([]++[N9 s])).2);by_cases h1:s=[]
  .simp only[Dw h1];rw[Dw trivial,Ee]
  .simp only[Dt h1];by_cases h2:Sp.err s=0
   .have h2': ¬ Sp.err s≠0:=fun h=>h h2;simp only[Dt h2'];rw[ih _ (a++[N9 s]),ih _ ([]++[N9 s])];by_cases h3:(Si f (Sp.rest s) []).2=0
    .simp only[Dw h3];simp
    .simp only[Dt h3]
   .have h2':Sp.err s≠0:=h2;simp only[Dw h2',Dt h2]
structure Par (d:Nat) (x:Bs) (es:List El):Prop where
 rd: ∀ r fs,VU r=(fs,0)->VU (x++r)=(es++fs,0)
 ns: ∀ r,V6 d r->V6 d (x++r)
def ApI:VU []=([],0):=rfl
def Par.list {d:Nat} {x:Bs} {es:List El} (h:Par d x es):VU x=(es,0):=by have:=h.rd [] [] ApI;rwa [Ee,Ee]at this
def Par.nest {d:Nat} {x:Bs} {es:List El} (h:Par d x es):V6 d x:=by have:=h.ns [] (ApP d);rwa [Ee]at this
def yN (d:Nat):Par d [] []:=⟨fun _ _ h=>h,fun _ h=>h⟩
def Q4 {d:Nat} {x y:Bs} {es fs:List El} (h:Par d x es) (g:Par d y fs):Par d (x++y) (es++fs):=by
 refine⟨fun r gs hr=> ?_,fun r hr=> ?_⟩
 .rw[Eg,Eg];exact h.rd _ _ (g.rd _ _ hr)
 .rw[Eg];exact h.ns _ (g.ns _ hr)
def AhQ {d t:Nat} {c:Bs} (h:Fine (t,c)) (hd:d<16) (hc:Sp.cons t=true->V6 (d+1) c):Par d (Sp.elem t c) [JQ t c]:=by refine⟨fun r fs hr=> ?_,fun r hr=>AnU h hd hc hr⟩;obtain⟨h1,h2,h3⟩:=xE t c r h.lt h.low h.len;have hl:=ZL t c;have hlen:(Sp.elem t c++r).length=(Sp.elem t c).length+r.length:=Dv;unfold VU at hr ⊢;show(if Sp.elem t c++r=[]then(([]:List El),(0:Int))else if Sp.err (Sp.elem t c++r)≠0 then([],Sp.err (Sp.elem t c++r))else Si (Sp.elem t c++r).length (Sp.rest (Sp.elem t c++r)) ([]++[N9 (Sp.elem t c++r)]))=_;rw[Dt (AgN t c r),h1,Dt (by decide),h2,h3,AnM,AcB _ (r.length+1) r [] (by omega) (by omega),hr,Dw rfl];rfl
def NS {d t:Nat} {c:Bs} (h:Fine (t,c)) (hd:d<16) (hc:V6 (d+1) c):Par d (Sp.elem t c) [JQ t c]:=AhQ h hd fun _=>hc
def QD {d t:Nat} {c:Bs} (h:Fine (t,c)) (hd:d<16) (hc:Sp.cons t=false):Par d (Sp.elem t c) [JQ t c]:=AhQ h hd fun h=>by rw[hc]at h;cases h
def Aex {d:Nat} {x:Bs} {es:List El} (b:Bool) (h:b=true->Par d x es):Par d (bif b then x else []) (bif b then es else []):=by
 cases b with
 | true=>exact h rfl
 | false=>exact yN d
def WR {α :Type} {d:Nat} {f: α ->Bs} {g: α ->El}: ∀ {l:List α},(∀ a∈l,Par d (f a) [g a])->Par d (l.map f).flatten (l.map g):=by
 intro l
 induction l with
 | nil=>intro _;exact yN d
 | cons a l ih =>intro h;rw[Eb,Eb,List.flatten_cons];exact Q4 (h a Du) (ih fun b hb=>h b (Dy _ hb))
def Ahs {t:Nat} {c:Bs} {r:List El} {k:Int} (h:(t:Int)=k):Aec (JQ t c::r) k=(JQ t c,true,r):=ArJ h
def Ali {t:Nat} {c:Bs} {r:List El} {k:Int} (h: ¬(t:Int)=k):Aec (JQ t c::r) k=((0,[],[]),false,JQ t c::r):=ArI h
def Ahr (k:Int):Aec [] k=((0,[],[]),false,[]):=rfl
def el1 (t:Nat) (c:Bs):(JQ t c).1=(t:Int):=rfl
def el2 (t:Nat) (c:Bs):(JQ t c).2.1=c:=rfl
def el3 (t:Nat) (c:Bs):(JQ t c).2.2=Sp.elem t c:=rfl
section
variable {X Y ρ :Type} {B:X->(X->Option ρ)->(Y->Option ρ)->Option ρ} {kx:Y->Option ρ}
theorem MZ (mk:Nat->X) (n:Nat) (fin:Option ρ) (h: ∀ i,i<n-> ∀ k,B (mk i) k kx=k (mk (i+1))) (hend: ∀ k,B (mk n) k kx=fin) (N:Nat) (hN:n<N:=by omega):J4 B N (mk 0) kx=fin:=by refine(AkW mk n (fun _=>0) (fun _=>none) fin (fun i hi k=>h i hi k) hend N hN).trans ?_;rw[AaS];rfl
end
def leB (a b:Bs):Bool:=Vm.bytesLess a b||a==b
def AnL (a b:Bs):leB a b=decide (a<=b):=by
 unfold leB Vm.bytesLess;rw[bytesLess_eq];by_cases h:a=b
 .subst h;rw[DK,Ff];exact(Dk (List.le_refl a)).symm
 .rw[FQ h,FK];by_cases h2:a<b
  .rw[Dk h2,Dk (List.le_of_lt h2)]
  .rw[DV h2,DV];intro h3;exact h (IU h3 (by simpa using h2))
def gY (x:Bs):List Bs->List Bs
 | []=>[x]
 | y::r=>bif leB y x then y::gY x r else x::y::r
def Aht (x:Bs): ∀ s:List Bs,(gY x s).Perm (x::s):=by
 intro s
 induction s with
 | nil=>exact HY _
 | cons y r ih =>
  show(bif leB y x then y::gY x r else x::y::r).Perm _;cases leB y x with
  | true=>exact(List.Perm.cons y ih).trans (List.Perm.swap x y r)
  | false=>exact HY _
def Ap8 (x:Bs): ∀ s:List Bs,s.Pairwise (fun a b=>a<=b)->(gY x s).Pairwise (fun a b=>a<=b):=by
 intro s
 induction s with
 | nil=>intro _;exact G5 _ _
 | cons y r ih =>
  intro h;rw[EC]at h;show(bif leB y x then y::gY x r else x::y::r).Pairwise _;cases hl:leB y x with
  | true =>
   rw[AnL,DJ]at hl;rw[cond_true,EC];refine⟨fun z hz=> ?_,ih h.2⟩;rcases Dz.1 ((Aht x r).mem_iff.1 hz)with rfl | hz
   .exact hl
   .exact h.1 z hz
  | false =>
   rw[AnL,decide_eq_false_iff_not]at hl
   have hxy:x<=y:=by
    rcases List.le_total x y with h | h
    .exact h
    .exact absurd h hl
   rw[cond_false,EC,EC];refine⟨fun z hz=> ?_,h⟩;rcases Dz.1 hz with rfl | hz
   .exact hxy
   .exact List.le_trans hxy (h.1 z hz)
def Ap1: ∀(l s:List Bs),s.Pairwise (fun a b=>a<=b)->(l.foldl (fun s x=>gY x s) s).Pairwise (fun a b=>a<=b)/\(l.foldl (fun s x=>gY x s) s).Perm (l++s):=by
 intro l
 induction l with
 | nil=>intro s h;exact⟨h,HY _⟩
 | cons x r ih =>intro s h;obtain⟨h1,h2⟩:=ih (gY x s) (Ap8 x s h);refine⟨h1,h2.trans ?_⟩;exact((Aht x s).append_left r).trans List.perm_middle
def ApU (l:List Bs):(l.foldl (fun s x=>gY x s) []).flatten=YS l:=by
 unfold YS;congr 1;obtain⟨h1,h2⟩:=Ap1 l [] List.Pairwise.nil;rw[Ee]at h2;refine List.Perm.eq_of_pairwise (le:=fun a b=>a<=b) (fun a b _ _ h3 h4=>IU h3 h4) h1 ?_ (h2.trans (Iq l _).symm)
 have:=List.pairwise_mergeSort (le:=fun x y:Bs=>decide (x<=y)) (fun a b c h3 h4=>by
  rw[DJ]at *
  exact List.le_trans h3 h4) (fun a b=>by
  rw[Gs,DJ,DJ];exact List.le_total a b) l
 exact this.imp (fun h=>by simpa using h)
abbrev MF:Type:=Bs×Int×Bs
def WX {t:Nat} {c:Bs} (h:c.length<=131072):Y9 t c=some (Sp.elem t c):=by unfold Y9;rw[Dw h]
def Ub (N t:Nat) (l:List Bs) (ht:t<256) (h31:t % 32≠31) (hN:1048578<N) (hl:l.length<=1000) (hs:l.flatten.length<=131072):Ko N (t:Int) l=some (Sp.elem t l.flatten,0):=by rw[Aau N t l ht h31 (by omega) (by omega),WX hs];rfl
def V5 (N t:Nat) (b:Bool) (l:List Bs) (ht:t<256) (h31:t % 32≠31) (hN:1048578<N) (hl:l.length<=1000) (hs:l.flatten.length<=131072):JB N b (t:Int) l=some (Sp.elem t l.flatten,b):=by rw[AjB N t b l ht h31 (by omega) (by omega),WX hs];simp
def KJ (a:Bs): [a].flatten=a:=by simp
def YI (a b:Bs): [a,b].flatten=a++b:=by simp
def kN (a b c:Bs): [a,b,c].flatten=a++(b++c):=by simp
def ofM {N:Nat} (hN:1048578<N): ∃ M,N=M+300:=⟨N - 300,by omega⟩
def Yz:List MF:=[([50,46,53,46,52,46,51],12,[65,110,110]),([50,46,53,46,52,46,51],19,[32,97,110,110]),([50,46,53,46,52,46,51],12,[103,114,195,182,195,159,101]),([50,46,53,46,52,46,54],19,[85,83]),([50,46,53,46,52,46,49,48],19,[69,120,97,109,112,108,101,32,32,67,111,114,112]),([50,46,53,46,52,46,49,48],12,[101,120,97,109,112,108,101,32,99,111,114,112]),([50,46,53,46,52,46,49,49],22,[97,44,98,43,99,61,100,92,101]),([48,46,57,46,50,51,52,50,46,49,57,50,48,48,51,48,48,46,49,48,48,46,49,46,50,53],22,[111,114,103]),([49,46,50,46,56,52,48,46,49,49,51,53,52,57,46,49,46,57,46,49],22,[97,110,110,64,101,120,97,109,112,108,101,46,111,114,103]),([49,46,50,46,56,52,48,46,49,49,51,53,52,57,46,49,46,57,46,49],22,[110,111,32,97,100,100,114,101,115,115]),([50,46,53,46,52,46,57,57],19,[120]),([50,46,53,46,52,46,55],12,[76])]
def AuU:List MF:=[[48],[49],[50],[51]].flatMap fun k=>[([50,46,53,46,52,46,49,48],19,[67,65,32]++k),([50,46,53,46,52,46,49,48],19,[32,99,97,32,32]++k)]
def AuD:MF:=([50,46,53,46,52,46,49,49],12,[85,110,105,116])
def NP:List (List MF):=Yz.map (fun a=>[a])++(Yz.flatMap fun a=>(Yz.filter fun b=>a.1 != b.1).map fun b=>[a,b])++(AuD::AuU).map fun a=>[a]
def At6 (l:List Bs):Bs:=(l.foldl (fun s x=>gY x s) []).flatten
def mD (a:MF):Bs:=((O6 300 a).getD default).1
def SI (r:List MF):Bs:=At6 (r.map mD)
def Abs (r:List MF):Bs:=Sp.elem 49 (SI r)
def iP (r:List MF):List MF:=((LY 300 (JQ 49 (SI r))).getD default).1
structure Aut (N:Nat) (r:List MF):Prop where
 chk:Ry N r=some 0
 AtO:True
 Avg:True
 att: ∀ a∈r,O6 N a=some (mD a,0)
 dec:LY N (JQ 49 (SI r))=some (iP r,0)
 inC:iP r∈NP
 enc:SI (iP r)=SI r
 len:(SI r).length<=200
 lens:(r.map mD).flatten.length<=200
 p0:0<r.length
 p2:r.length<=2
 nest:V6 9 (SI r)
def XD (M:Nat) (r:List MF):Bool :=
 Ry (M+300) r==some 0&&(true&&(true&&(r.all (fun a=>O6 (M+300) a==some (mD a,0)) &&
 (LY (M+300) (JQ 49 (SI r))==some (iP r,0)&&(NP.contains (iP r)&&(SI (iP r)==SI r&&(decide ((SI r).length<=200)&&(decide ((r.map mD).flatten.length<=200)&&(decide (0<r.length)&&(decide (r.length<=2)&&(Sp.within ((SI r).length+1) 9 (SI r)==0)))))))))))
def Aks {α :Type} (p: α ->Bool) (l:List α) (n:Nat) (h: ∀ i,i<n->((l.drop (12*i)).take 12).all p=true) (hl:l.length<=12*n):l.all p=true:=by rw[D7];intro x hx;obtain⟨j,hj,rfl⟩:=List.getElem_of_mem hx;refine D7.1 (h (j / 12) (by omega)) _ ?_;rw[F9];refine⟨j % 12,by rw[Ea,Ew];omega,?_⟩;rw[IG,List.getElem_drop];congr 1;omega
def ck0 (M:Nat):((NP.drop (12*0)).take 12).all (XD M)=true:=by kernel_rfl
def ck1 (M:Nat):((NP.drop (12*1)).take 12).all (XD M)=true:=by kernel_rfl
def ck2 (M:Nat):((NP.drop (12*2)).take 12).all (XD M)=true:=by kernel_rfl
def ck3 (M:Nat):((NP.drop (12*3)).take 12).all (XD M)=true:=by kernel_rfl
def ck4 (M:Nat):((NP.drop (12*4)).take 12).all (XD M)=true:=by kernel_rfl
def ck5 (M:Nat):((NP.drop (12*5)).take 12).all (XD M)=true:=by kernel_rfl
def ck6 (M:Nat):((NP.drop (12*6)).take 12).all (XD M)=true:=by kernel_rfl
def ck7 (M:Nat):((NP.drop (12*7)).take 12).all (XD M)=true:=by kernel_rfl
def ck8 (M:Nat):((NP.drop (12*8)).take 12).all (XD M)=true:=by kernel_rfl
def ck9 (M:Nat):((NP.drop (12*9)).take 12).all (XD M)=true:=by kernel_rfl
def AuV (M:Nat):((NP.drop (12*10)).take 12).all (XD M)=true:=by kernel_rfl
def AuW (M:Nat):((NP.drop (12*11)).take 12).all (XD M)=true:=by kernel_rfl
def Aqd:NP.length<=144:=of_decide_eq_true (by kernel_rfl)
def Asj (M:Nat):NP.all (XD M)=true:=by
 refine Aks _ _ 12 (fun i hi=> ?_) Aqd
 match i,hi with
 | 0,_=>exact ck0 M
 | 1,_=>exact ck1 M
 | 2,_=>exact ck2 M
 | 3,_=>exact ck3 M
 | 4,_=>exact ck4 M
 | 5,_=>exact ck5 M
 | 6,_=>exact ck6 M
 | 7,_=>exact ck7 M
 | 8,_=>exact ck8 M
 | 9,_=>exact ck9 M
 | 10,_=>exact AuV M
 | 11,_=>exact AuW M
def XE {N:Nat} (hN:1048578<N) {r:List MF} (h:r∈NP):Aut N r:=by obtain⟨M,rfl⟩:=ofM hN;have h:=D7.1 (Asj M) r h;unfold XD at h;simp only[Dq,EK,D7,DJ,FT]at h;obtain⟨h1,h2,h3,h4,h5,h6,h7,h8,h9,h10,h11,h12⟩:=h;exact⟨h1,h2,h3,h4,h5,h6,h7,h8,h9,h10,h11,h12⟩
def Aqc {N:Nat} (hN:1048578<N) {r:List MF} (h:r∈NP):(Abs r).length<=205:=by have:=(XE hN h).len;have:=Sp.JD 49 (SI r);unfold Abs;omega
def okN (n:List (List MF)):Prop:=n.length<=3/\ ∀ r∈n,r∈NP
def nmC (n:List (List MF)):List (List MF):=n.map iP
def UK (n:List (List MF)):Bs:=(n.map Abs).flatten
def nmT (n:List (List MF)):Bs:=Sp.elem 48 (UK n)
section
variable {N:Nat} (hN:1048578<N) {n:List (List MF)} (hn:okN n)
include hN hn
theorem AcR:okN (nmC n):=⟨by unfold nmC;rw[Dx];exact hn.1,fun r hr=>by obtain⟨x,hx,rfl⟩:=DF.1 hr;exact(XE hN (hn.2 x hx)).inC⟩
theorem AqW:UK (nmC n)=UK n:=by unfold UK nmC;rw[EO];congr 1;exact Ej fun r hr=>by show Sp.elem 49 _=Sp.elem 49 _;rw[(XE hN (hn.2 r hr)).enc]
theorem oH:(UK n).length<=615:=by have:=MK (g:=Abs) (M:=205) (l:=n) fun r hr=>Aqc hN (hn.2 r hr);have:=hn.1;unfold UK;omega
theorem yL:(nmT n).length<=620:=by have:=oH hN hn;have:=Sp.JD 48 (UK n);unfold nmT;omega
theorem AnY:Par 8 (UK n) (n.map fun r=>JQ 49 (SI r)):=WR fun r hr=>NS (MC (by decide) (by decide) (by have:=(XE hN (hn.2 r hr)).len;omega)) (by decide) (XE hN (hn.2 r hr)).nest
theorem AjT:Fine (48,UK n):=(MC (by decide) (by decide) (by have:=oH hN hn;omega))
theorem QN:Ob N n=some 0:=by
 have h3:=hn.1;unfold Ob;try simp only[clR]
 simp (disch:=omega) only[JO];refine MZ (fun i=>(i:Int)) n.length _ ?_ ?_ N
 .intro i hi k;have h:=(XE hN (hn.2 _ (getD_mem [] hi))).chk;simp (disch:=omega) only[JO,h,LC];try rfl
 .intro k;simp (disch:=omega) only[JO]
theorem iH:Tt N n=some (nmT n,0):=by
 have h3:=hn.1;have hl:=oH hN hn;unfold Tt;try simp only[clR]
 rw[QN hN hn,Jr,show((0:Int) != 0)=false from rfl,cond_false];refine(QC (mk:=fun i acc=>((i:Int),acc)) n [] Abs (fun l=>Jq (Ko N 48 l) fun r62=>some (r62.fst,r62.snd)) ?_ ?_ N).trans ?_
 .intro i acc hi hacc k;have h:=XE hN (hn.2 _ (getD_mem [] hi));dsimp only[U2];rw[Int.toNat_natCast];generalize n.getD i []=r at *
  have p0:=h.p0;have p2:=h.p2;simp (disch:=omega) only[JO];refine(QC (mk:=fun j a=>((j:Int),a,acc)) r ([],0,[]) mD (fun l=>Jq (UX N l) fun r48=>Jq (Ko N 49 [r48]) fun r50=>bif r50.snd != 0 then some ([],r50.snd)else chk (decide ((acc.length+1)*17<=140737488355328)) (k ((i:Int)+1,acc++[r50.fst]))) ?_ ?_ N).trans ?_
  .intro j a hj ha k;have he:=h.att _ (getD_mem ([],0,[]) hj);simp (disch:=omega) only[JO,he,LC]
  .intro a k ha;simp (disch:=omega) only[JO]
  .have hlen:=h.len;have hlens:=h.lens;have e:YS (r.map mD)=SI r:=(ApU _).symm;have w:Ko N 49 [YS (r.map mD)]=_:=Ub N 49 [YS (r.map mD)] (by omega) (by omega) hN (by simp) (by rw[KJ,e];omega);rw[KJ,e]at w;unfold UX;rw[AqV (by rw[Dx];omega),AlD (by rw[Dx];omega),AlD (by omega)];simp only[Ik,cond_true,Jr];rw[e,w,Jr];simp (disch:=omega) only[JO,LC];try rfl
 .intro acc k ha;simp (disch:=omega) only[JO]
 .have w:Ko N 48 (n.map Abs)=_:=Ub N 48 (n.map Abs) (by omega) (by omega) hN (by rw[Dx];omega) (by unfold UK at hl;omega);rw[w,Jr];rfl
theorem iG:UE N (nmT n)=some (nmC n,0):=by
 have h3:=hn.1;have hl:=oH hN hn;have hT:=yL hN hn;have hF:=AjT hN hn;have h1:=bP 48 (UK n) (by decide) (by decide) hF.len;have h2:=(AnY hN hn).list;have hC:=AcR hN hn;unfold UE;try simp only[clR]
 rw[V3 N _,show iI (nmT n)=_ from h1,Jr];have h4:=Oi N (UK n);rw[h2]at h4;dsimp only[JQ];simp (disch:=omega) only[JO,h4];refine(QC (mk:=fun i acc=>((i:Int),acc)) (n.map fun r=>JQ 49 (SI r)) (0,[],[]) (fun e=>((LY N e).getD default).1) (fun acc=>Jq (Ob N acc) fun r60=>bif r60 != 0 then some ([],r60)else some (acc,0)) ?_ ?_ N (by rw[Dx];omega)).trans ?_
 .intro i acc hi ha k;rw[Dx]at hi;have hr:=(XE hN (hn.2 _ (getD_mem [] hi))).dec;have hg:(n.map fun r=>JQ 49 (SI r)).getD i (0,[],[])=JQ 49 (SI (n.getD i [])):=by rw[getD_lt _ _ _ (by rw[Dx];exact hi),Fa,getD_lt n i [] hi]
  have hlm:(n.map fun r=>JQ 49 (SI r)).length=n.length:=Dx _;simp (disch:=omega) only[JO,hg,hlm,hr,LC,Option.getD_some];try rfl
 .intro acc k ha;simp (disch:=omega) only[JO]
 .have e:(n.map fun r=>JQ 49 (SI r)).map (fun e=>((LY N e).getD default).1)=nmC n:=by
   rw[EO];exact Ej fun r hr=>by show((LY N _).getD default).1=_;rw[(XE hN (hn.2 r hr)).dec];rfl
  rw[e,QN hN hC];rfl
end
abbrev GnL:Type:=Int×Bs×List (List MF)
def Adt:List GnL:=[[97,110,110,64,101,120,97,109,112,108,101,46,111,114,103],[65,78,78,64,101,120,97,109,112,108,101,46,111,114,103],[97,110,110,64,69,120,97,109,112,108,101,46,79,82,71],[98,46,99,64,109,97,105,108,46,101,120,97,109,112,108,101,46,111,114,103],[120,64,111,114,103],[97,39,98,64,97,46,98]].map (fun s=>(1,s,[])) ++
 [[101,120,97,109,112,108,101,46,111,114,103],[119,119,119,46,101,120,97,109,112,108,101,46,111,114,103],[87,87,87,46,69,120,97,109,112,108,101,46,111,114,103],[42,46,101,120,97,109,112,108,101,46,111,114,103],[97,46,98],[111,114,103],[109,121,101,120,97,109,112,108,101,46,111,114,103]].map (fun s=>(2,s,[])) ++
 [[10,0,0,1],[10,1,2,3],[192,168,1,7],[32,1,13,184,0,0,0,0,0,0,0,0,0,0,0,1]].map (fun s=>(7,s,[]))
def okG (g:GnL):Prop:=g∈Adt\/ ∃ n,okN n/\g=(4,[],n)
def gnK (g:GnL):GnL:=(g.1,g.2.1,nmC g.2.2)
def gnT (g:GnL):Nat×Bs:=bif g.1==4 then(164,nmT g.2.2)else((128+g.1).toNat,g.2.1)
def KW (g:GnL):Bs:=Sp.elem (gnT g).1 (gnT g).2
def Xq (g:GnL):El:=JQ (gnT g).1 (gnT g).2
def Arf (M:Nat) (g:GnL):Bool:=MW (M+300) g false==some 0&&(true&&(MS (M+300) g false==some (KW g,0)&&(true &&
 (Np (M+300) (Xq g) false==some (g,0)&&(g.2.2.isEmpty&&(decide ((gnT g).2.length<=40)&&(decide ((gnT g).1<256)&&(decide ((gnT g).1 % 32≠31)&& !Sp.cons (gnT g).1))))))))
def Aqy (M:Nat):Adt.all (Arf M)=true:=by kernel_rfl
structure As8 (N:Nat) (g:GnL):Prop where
 chk:MW N g false=some 0
 AtO:True
 enc:MS N g false=some (KW g,0)
 AtW:True
 dec:Np N (Xq g) false=some (gnK g,0)
 fine:Fine (gnT g)
 len:(gnT g).2.length<=620
 AgO:gnT (gnK g)=gnT g
 okK:okG (gnK g)
 par: ∀ d,d<=6->Par d (KW g) [Xq g]
section
variable {N:Nat} (hN:1048578<N)
include hN
theorem ArZ {n:List (List MF)} (hn:okN n) {d:Nat} (hd:d<=8):V6 d (UK n):=AjS hd (AnY hN hn).nest
theorem Aes {n:List (List MF)} (hn:okN n) {d:Nat} (hd:d<=7):Par d (nmT n) [JQ 48 (UK n)]:=NS (AjT hN hn) (by omega) (ArZ hN hn (by omega))
theorem Ar8 {n:List (List MF)} (hn:okN n):As8 N (4,[],n):=by
 have h1:=QN hN hn;have h3:=iH hN hn;have h5:=iG hN hn;have hC:=AcR hN hn;have h6:=QN hN hC;have hl:=yL hN hn;have w:Ko N 164 [nmT n]=_:=Ub N 164 [nmT n] (by omega) (by omega) hN (by simp) (by rw[KJ];omega);rw[KJ]at w
 have c1: ∀ m:List (List MF),Ob N m=some 0->MW N (4,[],m) false=some 0:=by
  intro m hm;unfold MW nO;try simp only[clR]
  simp (disch:=omega) only[JO,hm,Option.isSome_some,Option.getD_some];try rfl
 have hf:Fine (164,nmT n):=(MC (by decide) (by decide))
 refine⟨c1 n h1,trivial,?_,trivial,?_,hf,hl,?_,Or.inr ⟨_,hC,rfl⟩,fun d hd=>NS hf (by omega) (Aes hN hn (by omega)).nest⟩
 .unfold MS;try simp only[clR]
  simp (disch:=omega) only[JO,c1 n h1,h3];show Jq (Ko N 164 [nmT n]) _=_;rw[w];rfl
 .have c3:=c1 _ h6;unfold Np;try simp only[clR]
  show _=some ((4,[],nmC n),0);dsimp only[Xq,gnT,JQ];simp (disch:=omega) only[JO,h5,c3,Aa2];try rfl
 .show(164,nmT (nmC n))=(164,nmT n);unfold nmT;rw[AqW hN hn]
theorem VS {g:GnL} (h:okG g):As8 N g:=by
 rcases h with h | ⟨n,hn,rfl⟩
 .have hh:=h;obtain⟨M,rfl⟩:=ofM hN;have h:=D7.1 (Aqy M) g h;unfold Arf at h;simp only[Dq,EK,DJ,Ef,Fg]at h;obtain⟨h1,h2,h3,h4,h5,h6,h7,h8,h9,h10⟩:=h;have hk:gnK g=g:=by obtain⟨k,s,n⟩:=g;dsimp only at h6;subst h6;rfl
  have hf:Fine (gnT g):=⟨h8,h9,by omega⟩
  exact⟨h1,h2,h3,h4,by rw[hk];exact h5,hf,by omega,by rw[hk],by rw[hk];exact Or.inl hh,fun d hd=>QD hf (by omega) h10⟩
 .exact Ar8 hN hn
theorem dW {g:GnL} (h:okG g):(KW g).length<=625:=by have:=(VS hN h).len;have:=Sp.JD (gnT g).1 (gnT g).2;unfold KW;omega
end
def AhJ (l:List GnL):Prop:=l.length<=2/\ ∀ g∈l,okG g
def KH (l:List GnL):Bs:=(l.map KW).flatten
section
variable {N:Nat} (hN:1048578<N) {l:List GnL} (hl:AhJ l)
include hN hl
theorem TN:(KH l).length<=1250:=by have:=MK (g:=KW) (M:=625) (l:=l) fun g hg=>dW hN (hl.2 g hg);have:=hl.1;unfold KH;omega
theorem AaY {d:Nat} (hd:d<=6):Par d (KH l) (l.map Xq):=WR fun g hg=>(VS hN (hl.2 g hg)).par d hd
theorem Atz:AhJ (l.map gnK):=⟨by rw[Dx];exact hl.1,fun g hg=>by obtain⟨x,hx,rfl⟩:=DF.1 hg;exact(VS hN (hl.2 x hx)).okK⟩
theorem ArV:KH (l.map gnK)=KH l:=by unfold KH;rw[EO];congr 1;exact Ej fun g hg=>by show Sp.elem _ _=Sp.elem _ _;rw[(VS hN (hl.2 g hg)).AgO]
theorem Aan:Oz N l=some 0:=by
 have h2:=hl.1;unfold Oz;try simp only[clR]
 refine MZ (fun i=>(i:Int)) l.length _ ?_ ?_ N
 .intro i hi k;have h:=(VS hN (hl.2 _ (getD_mem (0,[],[]) hi))).chk;simp (disch:=omega) only[JO,h,LC];try rfl
 .intro k;simp (disch:=omega) only[JO]
theorem Aal (h0:l≠ []):PY N l=some (KH l,0):=by
 have h2:=hl.1;have hp:=EW.2 h0;have hb:=TN hN hl;unfold KH at hb;unfold PY VH;try simp only[clR]
 simp (disch:=omega) only[JO];refine(Ary (mk:=fun i t=>(t,(i:Int))) l (0,[],[]) KW (fun t=>some (t,0)) ?_ ?_ N (by omega)).trans rfl
 .intro i t hi ht k;have h:=(VS hN (hl.2 _ (getD_mem (0,[],[]) hi))).enc;simp (disch:=omega) only[JO,h,LC];try rfl
 .intro t k;simp (disch:=omega) only[JO]
theorem iC (h0:l≠ []):Ot N (KH l)=some (l.map gnK,0):=by
 have h2:=hl.1;have hp:=EW.2 h0;have hb:=TN hN hl;have h3:=(AaY hN hl (d:=0) (by omega)).list;have h4:=Oi N (KH l);rw[h3]at h4;have hlm:(l.map Xq).length=l.length:=Dx _;unfold Ot VH;try simp only[clR]
 simp (disch:=omega) only[JO,h4,hlm];refine(QC (mk:=fun i acc=>((i:Int),acc)) (l.map Xq) (0,[],[]) (fun e=>((Np N e false).getD default).1) (fun acc=>some (acc,0)) ?_ ?_ N).trans ?_
 .intro i acc hi ha k;rw[hlm]at hi;have hr:=(VS hN (hl.2 _ (getD_mem (0,[],[]) hi))).dec;have hg:(l.map Xq).getD i (0,[],[])=Xq (l.getD i (0,[],[])):=by rw[getD_lt _ _ _ (by rw[hlm];exact hi),Fa,getD_lt l i _ hi]
  simp (disch:=omega) only[JO,hg,hlm,hr,LC,Option.getD_some];try rfl
 .intro acc k ha;simp (disch:=omega) only[JO,hlm]
 .rw[EO];congr 2;exact Ej fun g hg=>by show((Np N (Xq g) false).getD default).1=_;rw[(VS hN (hl.2 g hg)).dec];rfl
end
end Go.Proofs.YtbgjmioccbacdaaGreatDoor.Pl
