import Derived.Test.YtbgjmioccbacdaaGreatDoorA10
set_option linter.all false
namespace Go.Proofs.YtbgjmioccbacdaaGreatDoor.Vm
open IntKind (i64 u8 u32 u64)
open Go
theorem w64 {x:Int} (h1: -9223372036854775808<=x:=by omega) (h2:x<=9223372036854775807:=by omega):i64.wrap x=x:=by
 have e:i64.wrap x=if 9223372036854775808<=x % 18446744073709551616 then x % 18446744073709551616 - 18446744073709551616 else x % 18446744073709551616:=by show(if(true&&decide (x % 18446744073709551616>=9223372036854775808))=true then _ else _)=_;simp only[Ij,DJ,ge_iff_le];rfl
 rw[e];split<;>omega
def w8 (x:Int):u8.wrap x=x % 256:=by
 have hp:(2:Int) ^ 8=256:=by decide
 simp only[IntKind.wrap,IntKind.bits,IntKind.signed,F5,GM,Gu,hp]
theorem O9 (x:Int):isByte (u8.wrap x)=true:=by rw[w8];unfold isByte;simp;omega
def wu64 {x:Int} (h1:0<=x:=by omega) (h2:x<=18446744073709551615:=by omega):u64.wrap x=x:=by
 have hp:(2:Int) ^ 64=18446744073709551616:=by decide
 simp only[IntKind.wrap,IntKind.bits,IntKind.signed,F5,GM,Gu,hp];omega
def Aq9 (a:Nat) (h:a<256):JJ .and .i64 (a:Int) 31=((a % 32:Nat):Int):=by
 have: ∀ a:Fin 256,JJ .and .i64 ((a.val:Nat):Int) 31=((a.val % 32:Nat):Int):=by decide +kernel
 exact this ⟨a,h⟩
def AqA (a:Nat) (h:a<256):JJ .and .i64 (a:Int) 32=((if a / 32 % 2=1 then 32 else 0:Nat):Int):=by
 have: ∀ a:Fin 256,JJ .and .i64 ((a.val:Nat):Int) 32=((if a.val / 32 % 2=1 then 32 else 0:Nat):Int):=by decide +kernel
 exact this ⟨a,h⟩
def or8 (t b:Nat) (ht:t<36028797018963968) (hb:b<256):JJ .or .i64 (((t*256:Nat)):Int) (b:Int)=((t*256+b:Nat):Int):=by
 have e: ∀ n:Nat,n<2 ^ 64->(BitVec.ofInt 64 (n:Int))=BitVec.ofNat 64 n:=fun n _=>by simp
 show i64.wrap _=_;rw[show(BitVec.ofInt (i64).bits ((t*256:Nat):Int))=BitVec.ofNat 64 (t*256)from e _ (by omega),show(BitVec.ofInt (i64).bits ((b:Nat):Int))=BitVec.ofNat 64 b from e _ (by omega)];show i64.wrap (((BitVec.ofNat 64 (t*256)) ||| (BitVec.ofNat 64 b)).toNat:Int)=_;rw[BitVec.toNat_or,I7,I7,Hf (by omega),Hf (by omega)];rw[show t*256=t <<< 8 by rw[IM],<- Nat.shiftLeft_add_eq_or_of_lt (by omega:b<2 ^ 8),IM];exact w64
theorem uM {ρ :Type} (p:Prop) [Decidable p] (k:Option ρ):chk (decide p) k=if p then k else none:=by by_cases h:p<;>simp [chk,h]
def LG {ρ :Type} (k:Option ρ):chk true k=k:=rfl
def AmU {ρ :Type} (b:Bool) (k:Option ρ):chk (!b|| !!b) k=k:=by cases b<;>rfl
def AjH {ρ :Type} (b:Bool) (k:Option ρ):chk (b|| !b) k=k:=by cases b<;>rfl
def Arz {ρ :Type} (b:Bool) (k:Option ρ):chk (bif b then true else !b) k=k:=by cases b<;>rfl
def Apk {ρ :Type} (b:Bool) (k:Option ρ):chk (bif b then true else true) k=k:=by cases b<;>rfl
def AmM (a b:Bool):(bif a then true else b)=(a||b):=by cases a<;>rfl
def jB {α :Type} (p:Prop) [Decidable p] (a b: α):(bif decide p then a else b)=if p then a else b:=by by_cases h:p<;>simp [h]
def AjI {ρ :Type} (b:Bool) (k:Option ρ):chk (b||true) k=k:=by cases b<;>rfl
def XV {α :Type} (b:Bool) (x y: α):(bif b then x else y)=if b=true then x else y:=by cases b<;>rfl
def Ar0 {ρ :Type} (b:Bool) (k:Option ρ):chk b k=if b=true then k else none:=by cases b<;>rfl
theorem Jr {α ρ :Type} [Inhabited α] (a: α) (k: α ->Option ρ):Jq (some a) k=k a:=rfl
def WL {α ρ :Type} (A:(α ->Option ρ)->Option ρ) (f: α ->Option ρ):Ou A f=A f:=rfl
def Afg {α ρ :Type} {A:(α ->Option ρ)->Option ρ} {f: α ->Option ρ} (P: α ->Prop) (Q:Option ρ ->Prop) (hA: ∀ j: α ->Option ρ,(∀ x,P x->Q (j x))->Q (A j)) (hf: ∀ x,P x->Q (f x)):Q (Ou A f):=hA f hf
def KO {X Y ρ :Type} (B:X->(X->Option ρ)->(Y->Option ρ)->Option ρ) (n:Nat) (x:X) (kx:Y->Option ρ):J4 B (n+1) x kx=B x (fun x'=>J4 B n x' kx) kx:=rfl
def Yl {X Y ρ :Type} {B:X->(X->Option ρ)->(Y->Option ρ)->Option ρ} {kx:Y->Option ρ} (I:X->Prop) (μ :X->Nat) (F:X->Option ρ)
 (h: ∀ x,I x-> ∀ k:X->Option ρ,(∀ x',I x'-> μ x'< μ x->k x'=F x')->B x k kx=F x): ∀(N:Nat) (x:X),I x-> μ x<N->J4 B N x kx=F x:=by
 intro N
 induction N with
 | zero=>intro x _ h;omega
 | succ N ih=>intro x hI hm;exact h x hI _ (fun x' hI' hm'=>ih x' hI' (by omega))
def RZ {X Y ρ :Type} {B:X->(X->Option ρ)->(Y->Option ρ)->Option ρ} {kx:Y->Option ρ} (I:X->Prop) (μ :X->Nat) (Q:Option ρ ->Prop)
 (h: ∀ x,I x-> ∀ k:X->Option ρ,(∀ x',I x'-> μ x'< μ x->Q (k x'))->Q (B x k kx)): ∀(N:Nat) (x:X),I x-> μ x<N->Q (J4 B N x kx):=by
 intro N
 induction N with
 | zero=>intro x _ h;omega
 | succ N ih=>intro x hI hm;exact h x hI _ (fun x' hI' hm'=>ih x' hI' (by omega))
def yF {E S ρ :Type} (step:E->S->(S->Option ρ)->Option ρ) (fin:S->Option ρ):List E->S->Option ρ
 | [],s=>fin s
 | e::r,s=>step e s (fun s'=>yF step fin r s')
def Alp {X Y S E ρ :Type} {B:X->(X->Option ρ)->(Y->Option ρ)->Option ρ} {kx:Y->Option ρ} (mk:Int->S->X) (l:List E) (d:E) (step:E->S->(S->Option ρ)->Option ρ) (fin:S->Option ρ)
 (h: ∀(i:Nat) (s:S) (k:X->Option ρ),i<l.length->B (mk (i:Int) s) k kx=step (l.getD i d) s (fun s'=>k (mk ((i:Int)+1) s')))
 (hend: ∀(s:S) (k:X->Option ρ),B (mk (l.length:Int) s) k kx=fin s) (N:Nat) (s:S) (hN:l.length<N):J4 B N (mk 0 s) kx=yF step fin l s:=by
 have key: ∀(n i:Nat) (s:S),i<=l.length->l.length - i<n->J4 B n (mk (i:Int) s) kx=yF step fin (l.drop i) s:=by
  intro n
  induction n with
  | zero=>intro i s _ h;omega
  | succ n ih =>
   intro i s hi hn;rw[KO];by_cases hl:i<l.length
   .rw[h i s _ hl,Et hl];show _=step l[i] s (fun s'=>yF step fin (l.drop (i+1)) s');rw[show l.getD i d=l[i] by simp [Dj,hl]];congr 1;funext s';exact ih (i+1) s' (by omega) (by omega)
   .have:i=l.length:=by omega
    rw[this,hend,FO];rfl
 exact key N 0 s (by omega) (by omega)
def Oe {E:Type} (f:E->Int):List E->Int
 | []=>0
 | e::r=>if f e≠0 then f e else Oe f r
set_option linter.defProp false in
def Aa_r {ρ:Type} (b:Bool) (k:Option ρ):Aa b k=chk (b||!b) k:=rfl
def Aa_e {ρ:Type} (b:Bool) (k:Option ρ):Aa b k=k:=by cases b<;>rfl
def Ac_r {ρ:Type} (b:Bool) (k:Option ρ):Ac b k=chk (b||!b) (chk (b||!b) k):=rfl
def Ac_e {ρ:Type} (b:Bool) (k:Option ρ):Ac b k=k:=by cases b<;>rfl
def Ad_r {ρ:Type} (b:Bool) (k:Option ρ):Ad b k=chk (b||!b) (chk (b||!b) (chk (b||!b) k)):=rfl
def Ad_e {ρ:Type} (b:Bool) (k:Option ρ):Ad b k=k:=by cases b<;>rfl
def Ae_r {ρ:Type} (b:Bool) (k:Option ρ):Ae b k=chk (b||!b) (chk (b||!b) (chk (b||!b) (chk (b||!b) k))):=rfl
def Ae_e {ρ:Type} (b:Bool) (k:Option ρ):Ae b k=k:=by cases b<;>rfl
def Af_r {ρ:Type} (b:Bool) (k:Option ρ):Af b k=chk (b||!b) (chk (b||!b) (chk (b||!b) (chk (b||!b) (chk (b||!b) k)))):=rfl
def Af_e {ρ:Type} (b:Bool) (k:Option ρ):Af b k=k:=by cases b<;>rfl
def Ag_r {ρ:Type} (b:Bool) (k:Option ρ):Ag b k=chk (b||!b) (chk (b||!b) (chk (b||!b) (chk (b||!b) (chk (b||!b) (chk (b||!b) k))))):=rfl
def Ag_e {ρ:Type} (b:Bool) (k:Option ρ):Ag b k=k:=by cases b<;>rfl
def Ah_r {ρ:Type} (b:Bool) (k:Option ρ):Ah b k=chk (bif b then b else true) (chk (bif b then true else true) k):=rfl
def Ah_e {ρ:Type} (b:Bool) (k:Option ρ):Ah b k=k:=by cases b<;>rfl
def Ai_r {ρ:Type} (b:Bool) (k:Option ρ):Ai b k=chk (bif b then true else !b) (chk (bif b then true else true) k):=rfl
def Ai_e {ρ:Type} (b:Bool) (k:Option ρ):Ai b k=k:=by cases b<;>rfl
def Aj_r {ρ:Type} (i:Int) (n:Nat) (k:Option ρ):Aj i n k=chk (decide (0<=i)) (chk (decide (i<(n:Int))) k):=rfl
def Aj_e {ρ:Type} (i:Int) (n:Nat) (k:Option ρ):Aj i n k=chk (decide (0<=i)) (chk (decide (i<(n:Int))) k):=rfl
def Ak_r {ρ:Type} (p:Prop) [Decidable p] (k:Option ρ):Ak p k=chk (decide p) k:=rfl
def Ak_e {ρ:Type} (p:Prop) [Decidable p] (k:Option ρ):Ak p k=chk (decide p) k:=rfl
def Am_r {ρ:Type} (n:Nat) (k:Option ρ):Am n k=chk (decide (n<=140737488355328)) k:=rfl
def Am_e {ρ:Type} (n:Nat) (k:Option ρ):Am n k=chk (decide (n<=140737488355328)) k:=rfl
def CX_e {a b c d e:Type} (x:a×b×c×d×e):CX x=x.2.2.2.2:=rfl
def CY_e {a b c d e f g h i:Type} (x:a×b×c×d×e×f×g×h×i):CY x=x.2.2.2.2.2.2.2.2:=rfl
def CZ_e {a b c d e f g h i j k l m:Type} (x:a×b×c×d×e×f×g×h×i×j×k×l×m):CZ x=x.2.2.2.2.2.2.2.2.2.2.2.2:=rfl
def Dc_e {a b c d e f g h i j k l m n o p q:Type} (x:a×b×c×d×e×f×g×h×i×j×k×l×m×n×o×p×q):Dc x=x.2.2.2.2.2.2.2.2.2.2.2.2.2.2.2.2:=rfl
def Df_e {a b c d e f g h i j k l m n o p q r s t u:Type} (x:a×b×c×d×e×f×g×h×i×j×k×l×m×n×o×p×q×r×s×t×u):Df x=x.2.2.2.2.2.2.2.2.2.2.2.2.2.2.2.2.2.2.2.2:=rfl
def Dh_e {a b c d e f g h i j k l m n o p q r s t u v w x y:Type} (x:a×b×c×d×e×f×g×h×i×j×k×l×m×n×o×p×q×r×s×t×u×v×w×x×y):Dh x=x.2.2.2.2.2.2.2.2.2.2.2.2.2.2.2.2.2.2.2.2.2.2.2.2:=rfl
def Di_e {a b c d e f g h i j k l m n o p q r s t u v w x y z A B C:Type} (x:a×b×c×d×e×f×g×h×i×j×k×l×m×n×o×p×q×r×s×t×u×v×w×x×y×z×A×B×C):Di x=x.2.2.2.2.2.2.2.2.2.2.2.2.2.2.2.2.2.2.2.2.2.2.2.2.2.2.2.2:=rfl
def Aq:=And.intro @Di_e (And.intro @Dh_e (And.intro @Df_e (And.intro @Dc_e (And.intro @CZ_e (And.intro @CY_e (And.intro @CX_e (And.intro @Am_r (And.intro @Ak_r (And.intro @Aj_r (And.intro @Ai_r (And.intro @Ah_r (And.intro @Ag_r (And.intro @Af_r (And.intro @Ae_r (And.intro @Ad_r (And.intro @Ac_r (@Aa_r)))))))))))))))))
def clR:=And.intro @Di_e (And.intro @Dh_e (And.intro @Df_e (And.intro @Dc_e (And.intro @CZ_e (And.intro @CY_e (And.intro @CX_e (And.intro @Am_e (And.intro @Ak_e (And.intro @Aj_e (And.intro @Ai_e (And.intro @Ah_e (And.intro @Ag_e (And.intro @Af_e (And.intro @Ae_e (And.intro @Ad_e (And.intro @Ac_e (And.intro @Aa_e (And.intro @Ym (And.intro @Iu (And.intro @Ig (And.intro @Ih (And.intro @H7 (And.intro @Ho (And.intro @IP (And.intro @Bool.not_not (And.intro @LG (And.intro @Ff (And.intro @EJ (And.intro @Hq (@H8.{1}))))))))))))))))))))))))))))))
end Go.Proofs.YtbgjmioccbacdaaGreatDoor.Vm
namespace Go.Proofs.YtbgjmioccbacdaaGreatDoor.Sp
def beNat (l:List UInt8):Nat:=l.foldl (fun v b=>v*256+b.toNat) 0
def leastOf (k:Nat):Nat:=if k=1 then 128 else 2 ^ (8*(k - 1))
def Akz (l:List UInt8) (b:UInt8):beNat (l++[b])=beNat l*256+b.toNat:=by simp [beNat,List.foldl_append]
def Apa (l:List UInt8):beNat l<256 ^ l.length:=by
 have h: ∀(l:List UInt8) (v h:Nat),v<h->l.foldl (fun v b=>v*256+b.toNat) v<h*256 ^ l.length:=by
  intro l
  induction l with
  | nil=>intro v h hv;simpa using hv
  | cons b r ih =>intro v h hv;have hb:=b.toNat_lt;have:=ih (v*256+b.toNat) (h*256) (by omega);rw[List.foldl_cons,List.length_cons,Nat.pow_succ];rw[He (256 ^ r.length) 256,<- Nat.mul_assoc];exact this
 have:=h l 0 1 (by omega);simpa [beNat]using this
def head (l:List UInt8):Int×Nat×Nat :=
 match l with
 | []=>(3,0,0)
 | t::r =>
  if t.toNat % 32=31 then(5,0,0)else
  match r with
  | []=>(3,0,0)
  | n::r =>
   if n.toNat<128 then(0,2,n.toNat)else
   if n.toNat=128\/131<n.toNat then(6,0,0)else
   if r.length<n.toNat - 128 then(3,0,0)else
   if beNat (r.take (n.toNat - 128))<leastOf (n.toNat - 128)\/131072<beNat (r.take (n.toNat - 128))then(6,0,0)else
   (0,2+(n.toNat - 128),beNat (r.take (n.toNat - 128)))
def rd (l:List UInt8):Int×Nat×Nat:=if(head l).1=0/\l.length - (head l).2.1<(head l).2.2 then(3,0,0)else head l
def err (l:List UInt8):Int:=(rd l).1
def tag (l:List UInt8):Nat:=(l.headD 0).toNat
def content (l:List UInt8):List UInt8:=(l.drop (rd l).2.1).take (rd l).2.2
def raw (l:List UInt8):List UInt8:=l.take ((rd l).2.1+(rd l).2.2)
def rest (l:List UInt8):List UInt8:=l.drop ((rd l).2.1+(rd l).2.2)
def ArK (l:List UInt8) (h:(head l).1=0):2<=(head l).2.1/\(head l).2.1<=l.length/\(head l).2.1<=5/\(head l).2.2<=131072:=by
 unfold head at *
 split at h
 .simp at h
 .split at h
  .simp at h
  .split at h
   .simp at h
   .split at h
    .simp only[*,I9,Gu,List.length_cons];omega
    .split at h
     .simp at h
     .split at h
      .simp at h
      .split at h
       .simp at h
       .simp only[*,Gu,List.length_cons];omega
def Ade (l:List UInt8) (h:err l=0):2<=(rd l).2.1/\(rd l).2.1+(rd l).2.2<=l.length/\(rd l).2.1<=5/\(rd l).2.2<=131072:=by
 unfold err rd at *
 by_cases hc:(head l).1=0/\l.length - (head l).2.1<(head l).2.2
 .rw[Dw hc]at h;simp at h
 .rw[Dt hc]at h ⊢;have:=ArK l h;omega
theorem yS (l:List UInt8) (h:err l=0):(rest l).length<l.length:=by have:=Ade l h;unfold rest;rw[Ew];omega
theorem Xm (l:List UInt8) (h:err l=0):(content l).length<l.length:=by have:=Ade l h;unfold content;rw[Ea,Ew];omega
def AdM (l:List UInt8) (h:err l=0):(content l).length=(rd l).2.2:=by have:=Ade l h;unfold content;rw[Ea,Ew];omega
def AlZ (l:List UInt8) (h:err l=0):(raw l).length=(rd l).2.1+(rd l).2.2:=by have:=Ade l h;unfold raw;rw[Ea];omega
def TB (l:List UInt8):Int:=if err l≠0 then err l else if rest l=[]then 0 else 4
def cons (t:Nat):Bool:=decide (t / 32 % 2=1)
def within:Nat->Nat->List UInt8->Int
 | 0,_,_=>0
 | f+1,d,l =>
  if l=[]then 0 else
  if err l≠0 then err l else
  if 16<=d then 8 else
  if(if cons (tag l)then within f (d+1) (content l)else 0)≠0 then(if cons (tag l)then within f (d+1) (content l)else 0)
  else within f d (rest l)
def inner (f d:Nat) (t:Nat) (c:List UInt8):Int:=if cons t then within f d c else 0
def Am5 (f d:Nat):within f d []=0:=by cases f<;>simp [within]
theorem Am4 (f d:Nat) (l:List UInt8) (h:l≠ []) (he:err l≠0):within (f+1) d l=err l:=by rw[within,Dt h,Dw he]
def Aj6 (f d:Nat) (l:List UInt8) (h:l≠ []) (he:err l=0) (hd:16<=d):within (f+1) d l=8:=by rw[within,Dt h,Dt (by simp [he]),Dw hd]
def Am3 (f d:Nat) (l:List UInt8) (h:l≠ []) (he:err l=0) (hd: ¬ 16<=d) (hi:inner f (d+1) (tag l) (content l)≠0):within (f+1) d l=inner f (d+1) (tag l) (content l):=by rw[within,Dt h,Dt (by simp [he]),Dt hd];unfold inner at hi ⊢;rw[Dw hi]
def Aay (f d:Nat) (l:List UInt8) (h:l≠ []) (he:err l=0) (hd: ¬ 16<=d) (hi:inner f (d+1) (tag l) (content l)=0):within (f+1) d l=within f d (rest l):=by rw[within,Dt h,Dt (by simp [he]),Dt hd];unfold inner at hi;rw[Dt (by simp [hi])]
def chk (l:List UInt8):Int:=if TB l≠0 then TB l else inner (l.length+1) 1 (tag l) (content l)
def PZ (n:Nat):List UInt8 :=
 if n<128 then [UInt8.ofNat n]else if n<256 then [129,UInt8.ofNat n]else if n<65536 then [130,UInt8.ofNat (n / 256),UInt8.ofNat n]
 else [131,UInt8.ofNat (n / 65536),UInt8.ofNat (n / 256),UInt8.ofNat n]
def elem (t:Nat) (c:List UInt8):List UInt8:=UInt8.ofNat t::PZ c.length++c
def wrap (t:Int) (c:List UInt8):List UInt8×Int :=
 if t<0\/255<t\/t % 32=31 then([],5)else if 131072<c.length then([],6)else(elem t.toNat c,0)
def Ac8 (n:Nat):(PZ n).length<=4:=by unfold PZ;split<;>(try split)<;>(try split)<;>simp
def JD (t:Nat) (c:List UInt8):(elem t c).length<=c.length+5:=by have:=Ac8 c.length;unfold elem;simp;omega
end Go.Proofs.YtbgjmioccbacdaaGreatDoor.Sp
