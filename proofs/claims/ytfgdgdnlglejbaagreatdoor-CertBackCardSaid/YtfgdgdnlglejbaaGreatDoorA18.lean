import Derived.Test.YtfgdgdnlglejbaaGreatDoorA9
set_option linter.all false
namespace Go.Proofs.YtfgdgdnlglejbaaGreatDoor.Vm
open IntKind (i64)
open Go
theorem w64 {x:Int} (h1: -9223372036854775808<=x) (h2:x<=9223372036854775807):i64.wrap x=x:=by
 have e:i64.wrap x=if 9223372036854775808<=x % 18446744073709551616 then x % 18446744073709551616 - 18446744073709551616 else x % 18446744073709551616:=by show(if(true&&decide (x % 18446744073709551616>=9223372036854775808))=true then _ else _)=_;simp only[Bool.true_and,decide_eq_true_eq,ge_iff_le];rfl
 rw[e];split<;>omega
theorem w8 (x:Int):IntKind.u8.wrap x=x % 256:=by
 have hp:(2:Int) ^ 8=256:=by decide
 simp only[IntKind.wrap,IntKind.bits,IntKind.signed,Bool.false_and,Bool.false_eq_true,if_false,hp]
theorem MQ (x:Int):isByte (IntKind.u8.wrap x)=true:=by rw[w8];unfold isByte;simp;omega
theorem wu64 {x:Int} (h1:0<=x) (h2:x<=18446744073709551615):IntKind.u64.wrap x=x:=by
 have hp:(2:Int) ^ 64=18446744073709551616:=by decide
 simp only[IntKind.wrap,IntKind.bits,IntKind.signed,Bool.false_and,Bool.false_eq_true,if_false,hp];omega
theorem Arp (a:Nat) (h:a<256):DV .and .i64 (a:Int) 31=((a % 32:Nat):Int):=by
 have: ∀ a:Fin 256,DV .and .i64 ((a.val:Nat):Int) 31=((a.val % 32:Nat):Int):=by decide +kernel
 exact this ⟨a,h⟩
theorem Arq (a:Nat) (h:a<256):DV .and .i64 (a:Int) 32=((if a / 32 % 2=1 then 32 else 0:Nat):Int):=by
 have: ∀ a:Fin 256,DV .and .i64 ((a.val:Nat):Int) 32=((if a.val / 32 % 2=1 then 32 else 0:Nat):Int):=by decide +kernel
 exact this ⟨a,h⟩
theorem or8 (t b:Nat) (ht:t<36028797018963968) (hb:b<256):DV .or .i64 (((t*256:Nat)):Int) (b:Int)=((t*256+b:Nat):Int):=by
 have e: ∀ n:Nat,n<2 ^ 64->(BitVec.ofInt 64 (n:Int))=BitVec.ofNat 64 n:=fun n _=>by simp
 show i64.wrap _=_;rw[show(BitVec.ofInt (i64).bits ((t*256:Nat):Int))=BitVec.ofNat 64 (t*256)from e _ (by omega),show(BitVec.ofInt (i64).bits ((b:Nat):Int))=BitVec.ofNat 64 b from e _ (by omega)];show i64.wrap (((BitVec.ofNat 64 (t*256)) ||| (BitVec.ofNat 64 b)).toNat:Int)=_;rw[BitVec.toNat_or,BitVec.toNat_ofNat,BitVec.toNat_ofNat,Nat.mod_eq_of_lt (by omega),Nat.mod_eq_of_lt (by omega)];rw[show t*256=t <<< 8 by rw[Nat.shiftLeft_eq],<- Nat.shiftLeft_add_eq_or_of_lt (by omega:b<2 ^ 8),Nat.shiftLeft_eq];exact w64 (by omega) (by omega)
theorem YQ {ρ :Type} (p:Prop) [Decidable p] (k:Option ρ):chk (decide p) k=if p then k else none:=by by_cases h:p<;>simp [chk,h]
theorem Gh {ρ :Type} (k:Option ρ):chk true k=k:=rfl
theorem AhW {ρ :Type} (b:Bool) (k:Option ρ):chk (!b|| !!b) k=k:=by cases b<;>rfl
theorem AeI {ρ :Type} (b:Bool) (k:Option ρ):chk (b|| !b) k=k:=by cases b<;>rfl
theorem AkH {ρ :Type} (b:Bool) (k:Option ρ):chk (bif b then true else !b) k=k:=by cases b<;>rfl
theorem AhV {ρ :Type} (b:Bool) (k:Option ρ):chk (bif b then true else true) k=k:=by cases b<;>rfl
theorem AhQ (a b:Bool):(bif a then true else b)=(a||b):=by cases a<;>rfl
theorem PO {α :Type} (p:Prop) [Decidable p] (a b: α):(bif decide p then a else b)=if p then a else b:=by by_cases h:p<;>simp [h]
theorem AeJ {ρ :Type} (b:Bool) (k:Option ρ):chk (b||true) k=k:=by cases b<;>rfl
theorem Ve {α :Type} (b:Bool) (x y: α):(bif b then x else y)=if b=true then x else y:=by cases b<;>rfl
theorem ArU {ρ :Type} (b:Bool) (k:Option ρ):chk b k=if b=true then k else none:=by cases b<;>rfl
theorem Dn {α ρ :Type} [Inhabited α] (a: α) (k: α ->Option ρ):Dj (some a) k=k a:=rfl
theorem Tt {α ρ :Type} (A:(α ->Option ρ)->Option ρ) (f: α ->Option ρ):Gm A f=A f:=rfl
theorem Agn {α ρ :Type} {A:(α ->Option ρ)->Option ρ} {f: α ->Option ρ} (P: α ->Prop) (Q:Option ρ ->Prop) (hA: ∀ j: α ->Option ρ,(∀ x,P x->Q (j x))->Q (A j)) (hf: ∀ x,P x->Q (f x)):Q (Gm A f):=hA f hf
theorem Fa {X Y ρ :Type} (B:X->(X->Option ρ)->(Y->Option ρ)->Option ρ) (n:Nat) (x:X) (kx:Y->Option ρ):Dz B (n+1) x kx=B x (fun x'=>Dz B n x' kx) kx:=rfl
theorem Sz {X Y ρ :Type} {B:X->(X->Option ρ)->(Y->Option ρ)->Option ρ} {kx:Y->Option ρ} (I:X->Prop) (μ :X->Nat) (F:X->Option ρ)
 (h: ∀ x,I x-> ∀ k:X->Option ρ,(∀ x',I x'-> μ x'< μ x->k x'=F x')->B x k kx=F x): ∀(N:Nat) (x:X),I x-> μ x<N->Dz B N x kx=F x:=by
 intro N
 induction N with
 | zero=>intro x _ h;omega
 | succ N ih=>intro x hI hm;exact h x hI _ (fun x' hI' hm'=>ih x' hI' (by omega))
theorem MR {X Y ρ :Type} {B:X->(X->Option ρ)->(Y->Option ρ)->Option ρ} {kx:Y->Option ρ} (I:X->Prop) (μ :X->Nat) (Q:Option ρ ->Prop)
 (h: ∀ x,I x-> ∀ k:X->Option ρ,(∀ x',I x'-> μ x'< μ x->Q (k x'))->Q (B x k kx)): ∀(N:Nat) (x:X),I x-> μ x<N->Q (Dz B N x kx):=by
 intro N
 induction N with
 | zero=>intro x _ h;omega
 | succ N ih=>intro x hI hm;exact h x hI _ (fun x' hI' hm'=>ih x' hI' (by omega))
def zJ {E S ρ :Type} (step:E->S->(S->Option ρ)->Option ρ) (fin:S->Option ρ):List E->S->Option ρ
 | [],s=>fin s
 | e::r,s=>step e s (fun s'=>zJ step fin r s')
theorem Amw {X Y S E ρ :Type} {B:X->(X->Option ρ)->(Y->Option ρ)->Option ρ} {kx:Y->Option ρ} (mk:Int->S->X) (l:List E) (d:E) (step:E->S->(S->Option ρ)->Option ρ) (fin:S->Option ρ)
 (h: ∀(i:Nat) (s:S) (k:X->Option ρ),i<l.length->B (mk (i:Int) s) k kx=step (l.getD i d) s (fun s'=>k (mk ((i:Int)+1) s')))
 (hend: ∀(s:S) (k:X->Option ρ),B (mk (l.length:Int) s) k kx=fin s) (N:Nat) (s:S) (hN:l.length<N):Dz B N (mk 0 s) kx=zJ step fin l s:=by
 have key: ∀(n i:Nat) (s:S),i<=l.length->l.length - i<n->Dz B n (mk (i:Int) s) kx=zJ step fin (l.drop i) s:=by
  intro n
  induction n with
  | zero=>intro i s _ h;omega
  | succ n ih =>
   intro i s hi hn;rw[Fa];by_cases hl:i<l.length
   ·rw[h i s _ hl,List.drop_eq_getElem_cons hl];show _=step l[i] s (fun s'=>zJ step fin (l.drop (i+1)) s');rw[show l.getD i d=l[i] by simp [List.getD_eq_getElem?_getD,hl]];congr 1;funext s';exact ih (i+1) s' (by omega) (by omega)
   ·have:i=l.length:=by omega
    rw[this,hend,List.drop_length];rfl
 exact key N 0 s (by omega) (by omega)
def Ig {E:Type} (f:E->Int):List E->Int
 | []=>0
 | e::r=>if f e≠0 then f e else Ig f r
set_option linter.defProp false in
theorem Aa_r {ρ:Type} (b:Bool) (k:Option ρ):Aa b k=chk (b||!b) k:=rfl
theorem Aa_e {ρ:Type} (b:Bool) (k:Option ρ):Aa b k=k:=by cases b<;>rfl
theorem Ac_r {ρ:Type} (b:Bool) (k:Option ρ):Ac b k=chk (b||!b) (chk (b||!b) k):=rfl
theorem Ac_e {ρ:Type} (b:Bool) (k:Option ρ):Ac b k=k:=by cases b<;>rfl
theorem Ad_r {ρ:Type} (b:Bool) (k:Option ρ):Ad b k=chk (b||!b) (chk (b||!b) (chk (b||!b) k)):=rfl
theorem Ad_e {ρ:Type} (b:Bool) (k:Option ρ):Ad b k=k:=by cases b<;>rfl
theorem Ae_r {ρ:Type} (b:Bool) (k:Option ρ):Ae b k=chk (b||!b) (chk (b||!b) (chk (b||!b) (chk (b||!b) k))):=rfl
theorem Ae_e {ρ:Type} (b:Bool) (k:Option ρ):Ae b k=k:=by cases b<;>rfl
theorem Af_r {ρ:Type} (b:Bool) (k:Option ρ):Af b k=chk (b||!b) (chk (b||!b) (chk (b||!b) (chk (b||!b) (chk (b||!b) k)))):=rfl
theorem Af_e {ρ:Type} (b:Bool) (k:Option ρ):Af b k=k:=by cases b<;>rfl
theorem Ag_r {ρ:Type} (b:Bool) (k:Option ρ):Ag b k=chk (b||!b) (chk (b||!b) (chk (b||!b) (chk (b||!b) (chk (b||!b) (chk (b||!b) k))))):=rfl
theorem Ag_e {ρ:Type} (b:Bool) (k:Option ρ):Ag b k=k:=by cases b<;>rfl
theorem Ah_r {ρ:Type} (b:Bool) (k:Option ρ):Ah b k=chk (bif b then b else true) (chk (bif b then true else true) k):=rfl
theorem Ah_e {ρ:Type} (b:Bool) (k:Option ρ):Ah b k=k:=by cases b<;>rfl
theorem Ai_r {ρ:Type} (b:Bool) (k:Option ρ):Ai b k=chk (bif b then true else !b) (chk (bif b then true else true) k):=rfl
theorem Ai_e {ρ:Type} (b:Bool) (k:Option ρ):Ai b k=k:=by cases b<;>rfl
theorem Aj_r {ρ:Type} (i:Int) (n:Nat) (k:Option ρ):Aj i n k=chk (decide (0<=i)) (chk (decide (i<(n:Int))) k):=rfl
theorem Aj_e {ρ:Type} (i:Int) (n:Nat) (k:Option ρ):Aj i n k=chk (decide (0<=i)) (chk (decide (i<(n:Int))) k):=rfl
theorem Ak_r {ρ:Type} (p:Prop) [Decidable p] (k:Option ρ):Ak p k=chk (decide p) k:=rfl
theorem Ak_e {ρ:Type} (p:Prop) [Decidable p] (k:Option ρ):Ak p k=chk (decide p) k:=rfl
theorem Am_r {ρ:Type} (n:Nat) (k:Option ρ):Am n k=chk (decide (n<=140737488355328)) k:=rfl
theorem Am_e {ρ:Type} (n:Nat) (k:Option ρ):Am n k=chk (decide (n<=140737488355328)) k:=rfl
theorem CX_e {a b c d e:Type} (x:a×b×c×d×e):CX x=x.2.2.2.2:=rfl
theorem CY_e {a b c d e f g h i:Type} (x:a×b×c×d×e×f×g×h×i):CY x=x.2.2.2.2.2.2.2.2:=rfl
theorem CZ_e {a b c d e f g h i j k l m:Type} (x:a×b×c×d×e×f×g×h×i×j×k×l×m):CZ x=x.2.2.2.2.2.2.2.2.2.2.2.2:=rfl
theorem Dc_e {a b c d e f g h i j k l m n o p q:Type} (x:a×b×c×d×e×f×g×h×i×j×k×l×m×n×o×p×q):Dc x=x.2.2.2.2.2.2.2.2.2.2.2.2.2.2.2.2:=rfl
theorem Df_e {a b c d e f g h i j k l m n o p q r s t u:Type} (x:a×b×c×d×e×f×g×h×i×j×k×l×m×n×o×p×q×r×s×t×u):Df x=x.2.2.2.2.2.2.2.2.2.2.2.2.2.2.2.2.2.2.2.2:=rfl
theorem Dh_e {a b c d e f g h i j k l m n o p q r s t u v w x y:Type} (x:a×b×c×d×e×f×g×h×i×j×k×l×m×n×o×p×q×r×s×t×u×v×w×x×y):Dh x=x.2.2.2.2.2.2.2.2.2.2.2.2.2.2.2.2.2.2.2.2.2.2.2.2:=rfl
theorem Di_e {a b c d e f g h i j k l m n o p q r s t u v w x y z A B C:Type} (x:a×b×c×d×e×f×g×h×i×j×k×l×m×n×o×p×q×r×s×t×u×v×w×x×y×z×A×B×C):Di x=x.2.2.2.2.2.2.2.2.2.2.2.2.2.2.2.2.2.2.2.2.2.2.2.2.2.2.2.2:=rfl
def Ap:=And.intro @Di_e (And.intro @Dh_e (And.intro @Df_e (And.intro @Dc_e (And.intro @CZ_e (And.intro @CY_e (And.intro @CX_e (And.intro @Am_r (And.intro @Ak_r (And.intro @Aj_r (And.intro @Ai_r (And.intro @Ah_r (And.intro @Ag_r (And.intro @Af_r (And.intro @Ae_r (And.intro @Ad_r (And.intro @Ac_r (@Aa_r)))))))))))))))))
def clR:=And.intro @Di_e (And.intro @Dh_e (And.intro @Df_e (And.intro @Dc_e (And.intro @CZ_e (And.intro @CY_e (And.intro @CX_e (And.intro @Am_e (And.intro @Ak_e (And.intro @Aj_e (And.intro @Ai_e (And.intro @Ah_e (And.intro @Ag_e (And.intro @Af_e (And.intro @Ae_e (And.intro @Ad_e (And.intro @Ac_e (And.intro @Aa_e (And.intro @Yx (And.intro @Bool.cond_true_left (And.intro @Bool.cond_false_left (And.intro @Bool.cond_true_right (And.intro @Bool.cond_false_right (And.intro @Bool.or_not_self (And.intro @Bool.not_or_self (And.intro @Bool.not_not (And.intro @Gh (And.intro @Bool.or_true (And.intro @Bool.true_or (And.intro @Bool.or_self (@Bool.cond_self.{1}))))))))))))))))))))))))))))))
end Go.Proofs.YtfgdgdnlglejbaaGreatDoor.Vm
namespace Go.Proofs.YtfgdgdnlglejbaaGreatDoor.Sp
def beNat (l:List UInt8):Nat:=l.foldl (fun v b=>v*256+b.toNat) 0
def leastOf (k:Nat):Nat:=if k=1 then 128 else 2 ^ (8*(k - 1))
theorem Al6 (l:List UInt8) (b:UInt8):beNat (l++[b])=beNat l*256+b.toNat:=by simp [beNat,List.foldl_append]
theorem ApD (l:List UInt8):beNat l<256 ^ l.length:=by
 have h: ∀(l:List UInt8) (v h:Nat),v<h->l.foldl (fun v b=>v*256+b.toNat) v<h*256 ^ l.length:=by
  intro l
  induction l with
  | nil=>intro v h hv;simpa using hv
  | cons b r ih =>intro v h hv;have hb:=b.toNat_lt;have:=ih (v*256+b.toNat) (h*256) (by omega);rw[List.foldl_cons,List.length_cons,Nat.pow_succ];rw[Nat.mul_comm (256 ^ r.length) 256,<- Nat.mul_assoc];exact this
 have:=h l 0 1 (by omega);simpa [beNat]using this
def head (l:List UInt8):Int×Nat×Nat :=
 match l with
 | []=>(3,0,0)
 | t::r =>
  if t.toNat % 32=31 then(5,0,0)else
  match r with
  | []=>(3,0,0)
  | n::r =>
   if n.toNat<128 then(0,2,n.toNat)else
   if n.toNat=128\/131<n.toNat then(6,0,0)else
   if r.length<n.toNat - 128 then(3,0,0)else
   if beNat (r.take (n.toNat - 128))<leastOf (n.toNat - 128)\/131072<beNat (r.take (n.toNat - 128))then(6,0,0)else
   (0,2+(n.toNat - 128),beNat (r.take (n.toNat - 128)))
def rd (l:List UInt8):Int×Nat×Nat:=if(head l).1=0/\l.length - (head l).2.1<(head l).2.2 then(3,0,0)else head l
def err (l:List UInt8):Int:=(rd l).1
def tag (l:List UInt8):Nat:=(l.headD 0).toNat
def content (l:List UInt8):List UInt8:=(l.drop (rd l).2.1).take (rd l).2.2
def raw (l:List UInt8):List UInt8:=l.take ((rd l).2.1+(rd l).2.2)
def rest (l:List UInt8):List UInt8:=l.drop ((rd l).2.1+(rd l).2.2)
theorem Asq (l:List UInt8) (h:(head l).1=0):2<=(head l).2.1/\(head l).2.1<=l.length/\(head l).2.1<=5/\(head l).2.2<=131072:=by
 unfold head at *
 split at h
 ·simp at h
 ·split at h
  ·simp at h
  ·split at h
   ·simp at h
   ·split at h
    ·simp only[*,if_true,if_false,List.length_cons];omega
    ·split at h
     ·simp at h
     ·split at h
      ·simp at h
      ·split at h
       ·simp at h
       ·simp only[*,if_false,List.length_cons];omega
theorem Aea (l:List UInt8) (h:err l=0):2<=(rd l).2.1/\(rd l).2.1+(rd l).2.2<=l.length/\(rd l).2.1<=5/\(rd l).2.2<=131072:=by
 unfold err rd at *
 by_cases hc:(head l).1=0/\l.length - (head l).2.1<(head l).2.2
 ·rw[if_pos hc]at h;simp at h
 ·rw[if_neg hc]at h ⊢;have:=Asq l h;omega
theorem Aad (l:List UInt8) (h:err l=0):(rest l).length<l.length:=by have:=Aea l h;unfold rest;rw[List.length_drop];omega
theorem TT (l:List UInt8) (h:err l=0):(content l).length<l.length:=by have:=Aea l h;unfold content;rw[List.length_take,List.length_drop];omega
theorem AeL (l:List UInt8) (h:err l=0):(content l).length=(rd l).2.2:=by have:=Aea l h;unfold content;rw[List.length_take,List.length_drop];omega
theorem AmW (l:List UInt8) (h:err l=0):(raw l).length=(rd l).2.1+(rd l).2.2:=by have:=Aea l h;unfold raw;rw[List.length_take];omega
def NL (l:List UInt8):Int:=if err l≠0 then err l else if rest l=[]then 0 else 4
def cons (t:Nat):Bool:=decide (t / 32 % 2=1)
def within:Nat->Nat->List UInt8->Int
 | 0,_,_=>0
 | f+1,d,l =>
  if l=[]then 0 else
  if err l≠0 then err l else
  if 16<=d then 8 else
  if(if cons (tag l)then within f (d+1) (content l)else 0)≠0 then(if cons (tag l)then within f (d+1) (content l)else 0)
  else within f d (rest l)
def inner (f d:Nat) (t:Nat) (c:List UInt8):Int:=if cons t then within f d c else 0
theorem An0 (f d:Nat):within f d []=0:=by cases f<;>simp [within]
theorem Anz (f d:Nat) (l:List UInt8) (h:l≠ []) (he:err l≠0):within (f+1) d l=err l:=by rw[within,if_neg h,if_pos he]
theorem Ak5 (f d:Nat) (l:List UInt8) (h:l≠ []) (he:err l=0) (hd:16<=d):within (f+1) d l=8:=by rw[within,if_neg h,if_neg (by simp [he]),if_pos hd]
theorem Anx (f d:Nat) (l:List UInt8) (h:l≠ []) (he:err l=0) (hd: ¬ 16<=d) (hi:inner f (d+1) (tag l) (content l)≠0):within (f+1) d l=inner f (d+1) (tag l) (content l):=by rw[within,if_neg h,if_neg (by simp [he]),if_neg hd];unfold inner at hi ⊢;rw[if_pos hi]
theorem Abn (f d:Nat) (l:List UInt8) (h:l≠ []) (he:err l=0) (hd: ¬ 16<=d) (hi:inner f (d+1) (tag l) (content l)=0):within (f+1) d l=within f d (rest l):=by rw[within,if_neg h,if_neg (by simp [he]),if_neg hd];unfold inner at hi;rw[if_neg (by simp [hi])]
def chk (l:List UInt8):Int:=if NL l≠0 then NL l else inner (l.length+1) 1 (tag l) (content l)
def JC (n:Nat):List UInt8 :=
 if n<128 then [UInt8.ofNat n]else if n<256 then [129,UInt8.ofNat n]else if n<65536 then [130,UInt8.ofNat (n / 256),UInt8.ofNat n]
 else [131,UInt8.ofNat (n / 65536),UInt8.ofNat (n / 256),UInt8.ofNat n]
def elem (t:Nat) (c:List UInt8):List UInt8:=UInt8.ofNat t::JC c.length++c
def wrap (t:Int) (c:List UInt8):List UInt8×Int :=
 if t<0\/255<t\/t % 32=31 then([],5)else if 131072<c.length then([],6)else(elem t.toNat c,0)
theorem Ad9 (n:Nat):(JC n).length<=4:=by unfold JC;split<;>(try split)<;>(try split)<;>simp
theorem DF (t:Nat) (c:List UInt8):(elem t c).length<=c.length+5:=by have:=Ad9 c.length;unfold elem;simp;omega
