import Derived.Test.YtmgpaalplkkpnaaGreatDoorA11
set_option linter.all false
namespace Go.Proofs.YtmgpaalplkkpnaaGreatDoor.Vm
open IntKind (i64 u8 u32 u64)
open Go
theorem w64 {x:Int} (h1: -9223372036854775808<=x:=by omega) (h2:x<=9223372036854775807:=by omega):i64.wrap x=x:=by
 have e:i64.wrap x=if 9223372036854775808<=x % 18446744073709551616 then x % 18446744073709551616 - 18446744073709551616 else x % 18446744073709551616:=by show(if(true&&decide (x % 18446744073709551616>=9223372036854775808))=true then _ else _)=_;simp only[FD,D5,ge_iff_le];rfl
 rw[e];split<;>omega
def w8 (x:Int):u8.wrap x=x % 256:=by
 have hp:(2:Int) ^ 8=256:=by decide
 simp only[IntKind.wrap,IntKind.bits,IntKind.signed,G9,Ig,Gz,hp]
theorem PY (x:Int):isByte (u8.wrap x)=true:=by rw[w8];unfold isByte;simp;omega
def wu64 {x:Int} (h1:0<=x) (h2:x<=18446744073709551615:=by omega):u64.wrap x=x:=by
 have hp:(2:Int) ^ 64=18446744073709551616:=by decide
 simp only[IntKind.wrap,IntKind.bits,IntKind.signed,G9,Ig,Gz,hp];omega
def A07 (a:Nat) (h:a<256):JF .and .i64 (a:Int) 31=((a % 32:Nat):Int):=by
 have: ∀ a:Fin 256,JF .and .i64 ((a.val:Nat):Int) 31=((a.val % 32:Nat):Int):=by decide +kernel
 exact this ⟨a,h⟩
def A08 (a:Nat) (h:a<256):JF .and .i64 (a:Int) 32=((if a / 32 % 2=1 then 32 else 0:Nat):Int):=by
 have: ∀ a:Fin 256,JF .and .i64 ((a.val:Nat):Int) 32=((if a.val / 32 % 2=1 then 32 else 0:Nat):Int):=by decide +kernel
 exact this ⟨a,h⟩
def or8 (t b:Nat) (ht:t<36028797018963968) (hb:b<256):JF .or .i64 (((t*256:Nat)):Int) (b:Int)=((t*256+b:Nat):Int):=by
 have e: ∀ n:Nat,n<2 ^ 64->(BitVec.ofInt 64 (n:Int))=BitVec.ofNat 64 n:=fun n _=>by simp
 show i64.wrap _=_;rw[show(BitVec.ofInt (i64).bits ((t*256:Nat):Int))=BitVec.ofNat 64 (t*256)from e _ (by omega),show(BitVec.ofInt (i64).bits ((b:Nat):Int))=BitVec.ofNat 64 b from e _ (by omega)];show i64.wrap (((BitVec.ofNat 64 (t*256)) ||| (BitVec.ofNat 64 b)).toNat:Int)=_;rw[BitVec.toNat_or,Gf,Gf,F6 (by omega),F6 (by omega)];rw[show t*256=t <<< 8 by rw[GL],<- G5 (by omega:b<2 ^ 8),GL];exact w64
def TL {ρ :Type} (p:Prop) [Decidable p] (k:Option ρ):chk (decide p) k=if p then k else none:=by by_cases h:p<;>simp [chk,h]
def JI {ρ :Type} (k:Option ρ):chk true k=k:=rfl
def Ad0 {ρ :Type} (b:Bool) (k:Option ρ):chk (!b|| !!b) k=k:=by cases b<;>rfl
def TM {ρ :Type} (b:Bool) (k:Option ρ):chk (b|| !b) k=k:=by cases b<;>rfl
def AkB {ρ :Type} (b:Bool) (k:Option ρ):chk (bif b then true else !b) k=k:=by cases b<;>rfl
def Tj {ρ :Type} (b:Bool) (k:Option ρ):chk (bif b then true else true) k=k:=by cases b<;>rfl
def VF {ρ :Type} (b:Bool) (k:Option ρ):chk (bif b then b else true) k=k:=by cases b<;>rfl
def Ai2 (a b:Bool):(bif a then true else b)=(a||b):=by cases a<;>rfl
def AsB (a b:Bool):(bif a then b else false)=(a&&b):=by cases a<;>rfl
def O8 {α :Type} (p:Prop) [Decidable p] (a b: α):(bif decide p then a else b)=if p then a else b:=by by_cases h:p<;>simp [h]
def Afw {ρ :Type} (b:Bool) (k:Option ρ):chk (b||true) k=k:=by cases b<;>rfl
def Qg {α :Type} (b:Bool) (x y: α):(bif b then x else y)=if b=true then x else y:=by cases b<;>rfl
def AsD {ρ :Type} (b:Bool) (k:Option ρ):chk b k=if b=true then k else none:=by cases b<;>rfl
theorem Jt {α ρ :Type} [Inhabited α] (a: α) (k: α ->Option ρ):Jr (some a) k=k a:=rfl
def TT {α ρ :Type} (A:(α ->Option ρ)->Option ρ) (f: α ->Option ρ):KC A f=A f:=rfl
def AmB {α ρ :Type} {A:(α ->Option ρ)->Option ρ} {f: α ->Option ρ} (P: α ->Prop) (Q:Option ρ ->Prop) (hA: ∀ j: α ->Option ρ,(∀ x,P x->Q (j x))->Q (A j)) (hf: ∀ x,P x->Q (f x)):Q (KC A f):=hA f hf
def bY {X Y ρ :Type} (B:X->(X->Option ρ)->(Y->Option ρ)->Option ρ) (n:Nat) (x:X) (kx:Y->Option ρ):JB B (n+1) x kx=B x (fun x'=>JB B n x' kx) kx:=rfl
def NU {X Y ρ :Type} {B:X->(X->Option ρ)->(Y->Option ρ)->Option ρ} {kx:Y->Option ρ} (I:X->Prop) (μ :X->Nat) (F:X->Option ρ)
 (h: ∀ x,I x-> ∀ k:X->Option ρ,(∀ x',I x'-> μ x'< μ x->k x'=F x')->B x k kx=F x): ∀(N:Nat) (x:X),I x-> μ x<N->JB B N x kx=F x:=by
 intro N
 induction N with
 | zero=>intro x _ h;omega
 | succ N ih=>intro x hI hm;exact h x hI _ (fun x' hI' hm'=>ih x' hI' (by omega))
def QE {X Y ρ :Type} {B:X->(X->Option ρ)->(Y->Option ρ)->Option ρ} {kx:Y->Option ρ} (I:X->Prop) (μ :X->Nat) (Q:Option ρ ->Prop)
 (h: ∀ x,I x-> ∀ k:X->Option ρ,(∀ x',I x'-> μ x'< μ x->Q (k x'))->Q (B x k kx)): ∀(N:Nat) (x:X),I x-> μ x<N->Q (JB B N x kx):=by
 intro N
 induction N with
 | zero=>intro x _ h;omega
 | succ N ih=>intro x hI hm;exact h x hI _ (fun x' hI' hm'=>ih x' hI' (by omega))
def Af0 {E S ρ :Type} (step:E->S->(S->Option ρ)->Option ρ) (fin:S->Option ρ):List E->S->Option ρ
 | [],s=>fin s
 | e::r,s=>step e s (fun s'=>Af0 step fin r s')
def Au8 {X Y S E ρ :Type} {B:X->(X->Option ρ)->(Y->Option ρ)->Option ρ} {kx:Y->Option ρ} (mk:Int->S->X) (l:List E) (d:E) (step:E->S->(S->Option ρ)->Option ρ) (fin:S->Option ρ)
 (h: ∀(i:Nat) (s:S) (k:X->Option ρ),i<l.length->B (mk (i:Int) s) k kx=step (l.getD i d) s (fun s'=>k (mk ((i:Int)+1) s')))
 (hend: ∀(s:S) (k:X->Option ρ),B (mk (l.length:Int) s) k kx=fin s) (N:Nat) (s:S) (hN:l.length<N):JB B N (mk 0 s) kx=Af0 step fin l s:=by
 have key: ∀(n i:Nat) (s:S),i<=l.length->l.length - i<n->JB B n (mk (i:Int) s) kx=Af0 step fin (l.drop i) s:=by
  intro n
  induction n with
  | zero=>intro i s _ h;omega
  | succ n ih =>
   intro i s hi hn;rw[bY];by_cases hl:i<l.length
   .rw[h i s _ hl,E8 hl];show _=step l[i] s (fun s'=>Af0 step fin (l.drop (i+1)) s');rw[show l.getD i d=l[i] by simp [Dj,hl]];congr 1;funext s';exact ih (i+1) s' (by omega) (by omega)
   .have:i=l.length:=by omega
    rw[this,hend,Gv];rfl
 exact key N 0 s (by omega) (by omega)
def KW {E:Type} (f:E->Int):List E->Int
 | []=>0
 | e::r=>if f e≠0 then f e else KW f r
set_option linter.defProp false in
def Aa_r {ρ:Type} (b:Bool) (k:Option ρ):Aa b k=chk (b||!b) k:=rfl
def Aa_e {ρ:Type} (b:Bool) (k:Option ρ):Aa b k=k:=by cases b<;>rfl
def Ac_r {ρ:Type} (b:Bool) (k:Option ρ):Ac b k=chk (b||!b) (chk (b||!b) k):=rfl
def Ac_e {ρ:Type} (b:Bool) (k:Option ρ):Ac b k=k:=by cases b<;>rfl
def Ad_r {ρ:Type} (b:Bool) (k:Option ρ):Ad b k=chk (b||!b) (chk (b||!b) (chk (b||!b) k)):=rfl
def Ad_e {ρ:Type} (b:Bool) (k:Option ρ):Ad b k=k:=by cases b<;>rfl
def Ae_r {ρ:Type} (b:Bool) (k:Option ρ):Ae b k=chk (b||!b) (chk (b||!b) (chk (b||!b) (chk (b||!b) k))):=rfl
def Ae_e {ρ:Type} (b:Bool) (k:Option ρ):Ae b k=k:=by cases b<;>rfl
def Af_r {ρ:Type} (b:Bool) (k:Option ρ):Af b k=chk (b||!b) (chk (b||!b) (chk (b||!b) (chk (b||!b) (chk (b||!b) k)))):=rfl
def Af_e {ρ:Type} (b:Bool) (k:Option ρ):Af b k=k:=by cases b<;>rfl
def Ag_r {ρ:Type} (b:Bool) (k:Option ρ):Ag b k=chk (b||!b) (chk (b||!b) (chk (b||!b) (chk (b||!b) (chk (b||!b) (chk (b||!b) k))))):=rfl
def Ag_e {ρ:Type} (b:Bool) (k:Option ρ):Ag b k=k:=by cases b<;>rfl
def Ah_r {ρ:Type} (b:Bool) (k:Option ρ):Ah b k=chk (bif b then b else true) (chk (bif b then true else true) k):=rfl
def Ah_e {ρ:Type} (b:Bool) (k:Option ρ):Ah b k=k:=by cases b<;>rfl
def Ai_r {ρ:Type} (b:Bool) (k:Option ρ):Ai b k=chk (bif b then true else !b) (chk (bif b then true else true) k):=rfl
def Ai_e {ρ:Type} (b:Bool) (k:Option ρ):Ai b k=k:=by cases b<;>rfl
def Aj_r {ρ:Type} (i:Int) (n:Nat) (k:Option ρ):Aj i n k=chk (decide (0<=i)) (chk (decide (i<(n:Int))) k):=rfl
def Aj_e {ρ:Type} (i:Int) (n:Nat) (k:Option ρ):Aj i n k=chk (decide (0<=i)) (chk (decide (i<(n:Int))) k):=rfl
def Ak_r {ρ:Type} (p:Prop) [Decidable p] (k:Option ρ):Ak p k=chk (decide p) k:=rfl
def Ak_e {ρ:Type} (p:Prop) [Decidable p] (k:Option ρ):Ak p k=chk (decide p) k:=rfl
def Am_r {ρ:Type} (n:Nat) (k:Option ρ):Am n k=chk (decide (n<=140737488355328)) k:=rfl
def Am_e {ρ:Type} (n:Nat) (k:Option ρ):Am n k=chk (decide (n<=140737488355328)) k:=rfl
def CW_e {a b c d e:Type} (x:a×b×c×d×e):CW x=x.2.2.2.2:=rfl
def CX_e {a b c d e f g h i:Type} (x:a×b×c×d×e×f×g×h×i):CX x=x.2.2.2.2.2.2.2.2:=rfl
def CY_e {a b c d e f g h i j k l m:Type} (x:a×b×c×d×e×f×g×h×i×j×k×l×m):CY x=x.2.2.2.2.2.2.2.2.2.2.2.2:=rfl
def CZ_e {a b c d e f g h i j k l m n o p q:Type} (x:a×b×c×d×e×f×g×h×i×j×k×l×m×n×o×p×q):CZ x=x.2.2.2.2.2.2.2.2.2.2.2.2.2.2.2.2:=rfl
def Dc_e {a b c d e f g h i j k l m n o p q r s t u:Type} (x:a×b×c×d×e×f×g×h×i×j×k×l×m×n×o×p×q×r×s×t×u):Dc x=x.2.2.2.2.2.2.2.2.2.2.2.2.2.2.2.2.2.2.2.2:=rfl
def Df_e {a b c d e f g h i j k l m n o p q r s t u v w x y:Type} (x:a×b×c×d×e×f×g×h×i×j×k×l×m×n×o×p×q×r×s×t×u×v×w×x×y):Df x=x.2.2.2.2.2.2.2.2.2.2.2.2.2.2.2.2.2.2.2.2.2.2.2.2:=rfl
def Dh_e {a b c d e f g h i j k l m n o p q r s t u v w x y z A B C:Type} (x:a×b×c×d×e×f×g×h×i×j×k×l×m×n×o×p×q×r×s×t×u×v×w×x×y×z×A×B×C):Dh x=x.2.2.2.2.2.2.2.2.2.2.2.2.2.2.2.2.2.2.2.2.2.2.2.2.2.2.2.2:=rfl
def Ap:=And.intro @Dh_e (And.intro @Df_e (And.intro @Dc_e (And.intro @CZ_e (And.intro @CY_e (And.intro @CX_e (And.intro @CW_e (And.intro @Am_r (And.intro @Ak_r (And.intro @Aj_r (And.intro @Ai_r (And.intro @Ah_r (And.intro @Ag_r (And.intro @Af_r (And.intro @Ae_r (And.intro @Ad_r (And.intro @Ac_r (@Aa_r)))))))))))))))))
def clR:=And.intro @Dh_e (And.intro @Df_e (And.intro @Dc_e (And.intro @CZ_e (And.intro @CY_e (And.intro @CX_e (And.intro @CW_e (And.intro @Am_e (And.intro @Ak_e (And.intro @Aj_e (And.intro @Ai_e (And.intro @Ah_e (And.intro @Ag_e (And.intro @Af_e (And.intro @Ae_e (And.intro @Ad_e (And.intro @Ac_e (And.intro @Aa_e (And.intro @o8 (And.intro @GU (And.intro @IJ (And.intro @IK (And.intro @IB (And.intro @FH (And.intro @FW (And.intro @Iw (And.intro @JI (And.intro @EF (And.intro @DU (And.intro @FM (@GG.{1}))))))))))))))))))))))))))))))
def LZ {ρ :Type} {c:Bool} (k:Option ρ) (h:c=true):chk c k=k:=by rw[h];rfl
def o6 (c:UInt8):c.toNat<256:=Ib c
def getD_lt {α :Type} (l:List α) (i:Nat) (d: α) (h:i<l.length:=by omega):l.getD i d=l[i]:=by rw[Dj,DD h];rfl
def As8 {α :Type} {p: α ->Bool} {l:List α} (h:l.all p=true) {i:Nat} (hi:i<l.length):p l[i]=true:=D8.1 h _ (Eo hi)
def RV {E S ρ :Type} (step:E->S->Option ρ ⊕ S) (fin:S->Option ρ):List E->S->Option ρ
 | [],s=>fin s
 | e::r,s=>match step e s with
  | .inl x=>x
  | .inr s'=>RV step fin r s'
def AaK {X S ρ :Type} (b:(X->Option ρ)->Option ρ) (nx:S->X) (I:S->Prop):Option ρ ⊕ S->Prop
 | .inl x=> ∀ k,b k=x
 | .inr s'=>(∀ k,b k=k (nx s'))/\I s'
def vJ {X Y S E ρ :Type} {B:X->(X->Option ρ)->(Y->Option ρ)->Option ρ} {kx:Y->Option ρ} (mk:Int->S->X) (l:List E) (d:E) (I:Nat->S->Prop) (step:E->S->Option ρ ⊕ S) (fin:S->Option ρ)
 (h: ∀(i:Nat) (s:S),i<l.length->I i s->AaK (fun k=>B (mk (i:Int) s) k kx) (mk ((i:Int)+1)) (I (i+1)) (step (l.getD i d) s))
 (hend: ∀(s:S) (k:X->Option ρ),I l.length s->B (mk (l.length:Int) s) k kx=fin s) (N:Nat) (s:S) (h0:I 0 s) (hN:l.length<N):JB B N (mk 0 s) kx=RV step fin l s:=by
 have key: ∀(n i:Nat) (s:S),I i s->i<=l.length->l.length - i<n->JB B n (mk (i:Int) s) kx=RV step fin (l.drop i) s:=by
  intro n
  induction n with
  | zero=>intro i s _ _ h;omega
  | succ n ih =>
   intro i s hI hi hn;rw[bY];by_cases hl:i<l.length
   .have h1:=h i s hl hI;rw[E8 hl];show _=(match step l[i] s with | .inl x=>x | .inr s'=>RV step fin (l.drop (i+1)) s');rw[show l.getD i d=l[i] by simp [Dj,hl]]at h1;cases hs:step l[i] s with
    | inl x=>rw[hs]at h1;exact h1 _
    | inr s' =>rw[hs]at h1;obtain⟨h2,h3⟩:=h1;exact(h2 _).trans (ih (i+1) _ h3 (by omega) (by omega))
   .have:i=l.length:=by omega
    subst this;rw[hend s _ hI,Gv];rfl
 exact key N 0 s h0 (by omega) (by omega)
def Uw {X Y S E ρ :Type} {B:X->(X->Option ρ)->(Y->Option ρ)->Option ρ} {kx:Y->Option ρ} (mk:Int->S->X) (out:S->Y) (l:List E) (d:E) (I:Nat->S->Prop) (step:E->S->Option ρ ⊕ S)
 (h: ∀(i:Nat) (s:S),i<l.length->I i s->AaK (fun k=>B (mk (i:Int) s) k kx) (mk ((i:Int)+1)) (I (i+1)) (step (l.getD i d) s))
 (hend: ∀(s:S) (k:X->Option ρ),I l.length s->B (mk (l.length:Int) s) k kx=kx (out s)) (N:Nat) (s:S) (h0:I 0 s) (hN:l.length<N:=by omega):JB B N (mk 0 s) kx=RV step (fun s=>kx (out s)) l s :=
 vJ mk l d I step _ h hend N s h0 hN
def Rj {α β :Type} (f: α ->Option β):List α ->Option (List β)
 | []=>some []
 | a::r=>match f a,Rj f r with
  | some b,some t=>some (b::t)
  | _,_=>none
def nV {E β S ρ :Type} (f:E->Option β) (g:S-> β ->S) (bad:Option ρ) (e:E) (s:S):Option ρ ⊕ S:=(f e).elim (.inl bad) (fun b=>.inr (g s b))
def AqN {X E β S ρ :Type} {f:E->Option β} {g:S-> β ->S} {bad:Option ρ} {e:E} {s:S} {b:(X->Option ρ)->Option ρ} {nx:S->X} {I:S->Prop} (h1:f e=none-> ∀ k,b k=bad) (h2: ∀ v,f e=some v->(∀ k,b k=k (nx (g s v)))/\I (g s v)):AaK b nx I (nV f g bad e s):=by
 unfold nV;cases h:f e with
 | none=>exact h1 h
 | some v=>exact h2 v h
def AqG {E β S ρ :Type} (f:E->Option β) (g:S-> β ->S) (bad:Option ρ) (fin:S->Option ρ): ∀(l:List E) (s:S),RV (nV f g bad) fin l s=(Rj f l).elim bad (fun bs=>fin (bs.foldl g s)):=by
 intro l
 induction l with
 | nil=>intro s;rfl
 | cons e r ih =>
  intro s;have h1:nV f g bad e s=(f e).elim (.inl bad) (fun b=>.inr (g s b)):=rfl;unfold RV Rj;rw[h1];cases f e with
  | none=>rfl
  | some b =>show RV (nV f g bad) fin r (g s b)=_;rw[ih];cases Rj f r<;>rfl
def Am5 {α β :Type} (h: α -> β): ∀(l:List α) (a:List β),l.foldl (fun a x=>a++[h x]) a=a++l.map h:=by
 intro l
 induction l with
 | nil=>intro a;simp
 | cons x r ih=>intro a;rw[List.foldl_cons,ih];simp
def Ah9 {α β :Type} {f: α ->Option β}: ∀ {l:List α} {r:List β},Rj f l=some r->r.length=l.length:=by
 intro l
 induction l with
 | nil=>intro r h;injection h with h;subst h;rfl
 | cons a t ih =>
  intro r h;unfold Rj at h;split at h
  .rename_i b q h1 h2;injection h with h;subst h;simp [ih h2]
  .cases h
def uS {a b:Int} {q:Decidable (a<b)} (h:a<b:=by omega): @decide (a<b) q=true:= @Di _ q h
def Aou {a b:Int} {q:Decidable (a<b)} (h:b<=a:=by omega): @decide (a<b) q=false:= @Dw _ q (by omega)
def Abh {a b:Int} {q:Decidable (a<=b)} (h:a<=b:=by omega): @decide (a<=b) q=true:= @Di _ q h
def A0G {a b:Int} {q:Decidable (a<=b)} (h:b<a): @decide (a<=b) q=false:= @Dw _ q (by omega)
def A0F {a b:Int} {q:Decidable (a>b)} (h:b<a): @decide (a>b) q=true:= @Di _ q h
def Aos {a b:Int} {q:Decidable (a>b)} (h:a<=b:=by omega): @decide (a>b) q=false:= @Dw _ q (by omega)
def A4e {a b:Int} {q:Decidable (a>=b)} (h:b<=a): @decide (a>=b) q=true:= @Di _ q h
def A0E {a b:Int} {q:Decidable (a>=b)} (h:a<b): @decide (a>=b) q=false:= @Dw _ q (by omega)
def Ao3 {a b:Nat} {q:Decidable (a<b)} (h:a<b): @decide (a<b) q=true:= @Di _ q h
def A4l {a b:Nat} {q:Decidable (a<b)} (h:b<=a): @decide (a<b) q=false:= @Dw _ q (by omega)
def Ab9 {a b:Nat} {q:Decidable (a<=b)} (h:a<=b): @decide (a<=b) q=true:= @Di _ q h
def AuW {a b:Nat} {q:Decidable (a<=b)} (h:b<a): @decide (a<=b) q=false:= @Dw _ q (by omega)
def UT {a b:Int} (h:a=b):(a==b)=true:=by subst h;exact ET _
def MO {a b:Int} (h:a≠b:=by omega):(a==b)=false:=EP h
def UU {a b:Int} (h:a≠b):(a != b)=true:=by unfold bne;rw[MO h];rfl
def YQ {a b:Int} (h:a=b):(a != b)=false:=by unfold bne;rw[UT h];rfl
def toNat_add (a b:Nat):((a:Int)+(b:Int)).toNat=a+b:=by omega
def toNat_sub (a b:Nat):((a:Int) - (b:Int)).toNat=a - b:=by omega
def AvI (a:Nat):((a:Int)+1).toNat=a+1:=by omega
def AvJ (a:Nat):((a:Int) - 1).toNat=a - 1:=by omega
def KX (a:Nat):((a:Int)+1)=((a+1:Nat):Int):=rfl
def Azt {α :Type} (a: α):(some a).isSome=true:=rfl
def getD_mem {α :Type} {l:List α} {i:Nat} (d: α) (h:i<l.length:=by omega):l.getD i d∈l:=by rw[getD_lt l i d h];exact Eo h
def TA {R S ρ :Type} (x:R ⊕ S) (ret:R->Option ρ) (k:S->Option ρ):Option ρ :=match x with
 | .inl r=>ret r
 | .inr s=>k s
def A1j {R S ρ :Type} (r:R) (ret:R->Option ρ) (k:S->Option ρ):TA (.inl r) ret k=ret r:=rfl
def AkD {R S ρ :Type} (s:S) (ret:R->Option ρ) (k:S->Option ρ):TA (.inr s) ret k=k s:=rfl
def QP {R S ρ :Type} (b:Bool) (x y:R ⊕ S) (ret:R->Option ρ) (k:S->Option ρ):TA (bif b then x else y) ret k=bif b then TA x ret k else TA y ret k:=by cases b<;>rfl
def Awn {R S ρ :Type} (b:Prop) [Decidable b] (x y:R ⊕ S) (ret:R->Option ρ) (k:S->Option ρ):TA (if b then x else y) ret k=if b then TA x ret k else TA y ret k:=by split<;>rfl
def AtX {R S ρ :Type} (x:R ⊕ S) (f:R-> ρ) (g:S-> ρ):TA x (fun r=>some (f r)) (fun s=>some (g s))=some (x.elim f g):=by cases x<;>rfl
def RG {E R S:Type} (step:E->S->R ⊕ S):List E->S->R ⊕ S
 | [],s=>.inr s
 | e::r,s=>match step e s with
  | .inl x=>.inl x
  | .inr s'=>RG step r s'
def Axq {E R S:Type} (step:E->S->R ⊕ S) (s:S):RG step [] s= .inr s:=rfl
def QF {E R S:Type} (step:E->S->R ⊕ S) (e:E) (l:List E) (s:S):RG step (e::l) s=(step e s).elim Sum.inl (fun s'=>RG step l s'):=by simp only[RG];cases step e s<;>rfl
def wF {X Y S E R ρ :Type} {B:X->(X->Option ρ)->(Y->Option ρ)->Option ρ} {kx:Y->Option ρ} (mk:Nat->S->X) (l:List E) (d:E) (I:Nat->S->Prop) (step:E->S->R ⊕ S) (ret:R->Option ρ) (fin:S->Option ρ)
 (h: ∀(i:Nat) (s:S),i<l.length->I i s-> ∀ k,B (mk i s) k kx=TA (step (l.getD i d) s) ret fun s'=>k (mk (i+1) s'))
 (hI: ∀(i:Nat) (s s':S),i<l.length->I i s->step (l.getD i d) s= .inr s'->I (i+1) s')
 (hend: ∀(s:S) (k:X->Option ρ),I l.length s->B (mk l.length s) k kx=fin s) (N:Nat) (s:S) (h0:I 0 s) (hN:l.length<N):JB B N (mk 0 s) kx=TA (RG step l s) ret fin:=by
 have key: ∀(n i:Nat) (s:S),I i s->i<=l.length->l.length - i<n->JB B n (mk i s) kx=TA (RG step (l.drop i) s) ret fin:=by
  intro n
  induction n with
  | zero=>intro i s _ _ h;omega
  | succ n ih =>
   intro i s hi hil hn;rw[bY];by_cases hl:i<l.length
   .rw[h i s hl hi,E8 hl];have hs:=hI i s;rw[show l.getD i d=l[i]from getD_lt l i d hl]at *
    rw[QF];cases hst:step l[i] s with
    | inl x=>rfl
    | inr s'=>exact ih (i+1) _ (hs _ hl hi hst) (by omega) (by omega)
   .have:i=l.length:=by omega
    subst this;rw[hend s _ hi,Gv];rfl
 exact key N 0 s h0 (by omega) (by omega)
def iQ {X Y S E R ρ :Type} {B:X->(X->Option ρ)->(Y->Option ρ)->Option ρ} {kx:Y->Option ρ} (mk:Nat->S->X) (l:List E) (d:E) (step:E->S->R ⊕ S) (ret:R->Option ρ) (fin:S->Option ρ)
 (h: ∀(i:Nat) (s:S),i<l.length-> ∀ k,B (mk i s) k kx=TA (step (l.getD i d) s) ret fun s'=>k (mk (i+1) s'))
 (hend: ∀(s:S) (k:X->Option ρ),B (mk l.length s) k kx=fin s) (N:Nat) (s:S) (hN:l.length<N):JB B N (mk 0 s) kx=TA (RG step l s) ret fin :=
 wF mk l d (fun _ _=>True) step ret fin (fun i s hi _=>h i s hi) (fun _ _ _ _ _ _=>trivial) (fun s k _=>hend s k) N s trivial hN
def A0m {X Y S E R ρ :Type} {B:X->(X->Option ρ)->(Y->Option ρ)->Option ρ} {kx:Y->Option ρ} (mk:List E->S->X) (I:List E->S->Prop) (step:E->S->R ⊕ S) (ret:R->Option ρ) (fin:S->Option ρ)
 (h: ∀(e:E) (r:List E) (s:S),I (e::r) s-> ∀ k,B (mk (e::r) s) k kx=TA (step e s) ret fun s'=>k (mk r s'))
 (hI: ∀(e:E) (r:List E) (s s':S),I (e::r) s->step e s= .inr s'->I r s')
 (hend: ∀(s:S) (k:X->Option ρ),I [] s->B (mk [] s) k kx=fin s): ∀(N:Nat) (l:List E) (s:S),I l s->l.length<N->JB B N (mk l s) kx=TA (RG step l s) ret fin:=by
 intro N
 induction N with
 | zero=>intro l s _ h;omega
 | succ N ih =>
  intro l s hi hn;rw[bY];cases l with
  | nil=>rw[hend s _ hi];rfl
  | cons e r =>
   rw[h e r s hi,QF];cases hst:step e s with
   | inl x=>rfl
   | inr s'=>exact ih r s' (hI e r s s' hi hst) (by simp at hn;omega)
def AzZ {X Y E ρ :Type} {B:X->(X->Option ρ)->(Y->Option ρ)->Option ρ} {kx:Y->Option ρ} (mk:Nat->X) (out:Nat->Y) (l:List E) (d:E) (p:E->Bool)
 (h: ∀(i:Nat) (k:X->Option ρ),i<l.length->B (mk i) k kx=bif p (l.getD i d)then kx (out i)else k (mk (i+1)))
 (hend: ∀ k:X->Option ρ,B (mk l.length) k kx=kx (out l.length)) (N:Nat) (hN:l.length<N):JB B N (mk 0) kx=kx (out (l.findIdx p)):=by
 have key: ∀(n i:Nat),i<=l.length->l.length - i<n->JB B n (mk i) kx=kx (out (i+(l.drop i).findIdx p)):=by
  intro n
  induction n with
  | zero=>intro i _ h;omega
  | succ n ih =>
   intro i hi hn;rw[bY];by_cases hl:i<l.length
   .rw[h i _ hl,E8 hl,Jj,show l.getD i d=l[i]from getD_lt l i d hl];cases p l[i]with
    | true=>rfl
    | false =>rw[cond_false,cond_false,ih (i+1) (by omega) (by omega)];congr 2;omega
   .have:i=l.length:=by omega
    subst this;rw[hend,Gv];rfl
 have:=key N 0 (DN _) (by omega);rwa [DT,Ic]at this
def Axo {E R:Type} (p:E->Bool) (r:R): ∀ l:List E,RG (fun e (_:Unit)=>bif p e then .inr ()else .inl r) l ()=bif l.all p then .inr ()else .inl r:=by
 intro l
 induction l with
 | nil=>rfl
 | cons e t ih =>
  rw[QF,List.all_cons];cases p e with
  | true=>exact ih
  | false=>rfl
def Axp {E R:Type} (p:E->Bool) (r:R): ∀ l:List E,RG (fun e (_:Unit)=>bif p e then .inl r else .inr ()) l ()=bif l.any p then .inl r else .inr ():=by
 intro l
 induction l with
 | nil=>rfl
 | cons e t ih =>
  rw[QF,List.any_cons];cases p e with
  | true=>rfl
  | false=>exact ih
def ArO {E:Type} (f:E->Int): ∀ l:List E,RG (fun e (_:Unit)=>bif f e != 0 then .inl (f e)else .inr ()) l ()=bif KW f l != 0 then .inl (KW f l)else .inr ():=by
 intro l
 induction l with
 | nil=>rfl
 | cons e t ih =>
  rw[QF];unfold KW;by_cases h:f e=0
  .rw[h,show((0:Int) != 0)=false from rfl];exact ih
  .rw[Dn h,show(f e != 0)=true from FK.2 h];rfl
def AbJ {n i:Nat} (h:i<n):(List.range n).getD i 0=i:=by rw[getD_lt _ _ _ (by rw[Ef];exact h),Jb]
section
variable {X Y E ρ :Type} {B:X->(X->Option ρ)->(Y->Option ρ)->Option ρ} {kx:Y->Option ρ}
theorem AdR (mk:Nat->X) (l:List E) (d:E) (f:E->Int) (ret:Int->Option ρ) (fin:Option ρ)
 (h: ∀ i,i<l.length-> ∀ k,B (mk i) k kx=bif f (l.getD i d) != 0 then ret (f (l.getD i d))else k (mk (i+1)))
 (hend: ∀ k,B (mk l.length) k kx=fin) (N:Nat) (hN:l.length<N):JB B N (mk 0) kx=bif KW f l != 0 then ret (KW f l)else fin:=by
 refine ER (iQ (S:=Unit) (R:=Int) (mk:=fun i _=>mk i) l d (fun e _=>bif f e != 0 then .inl (f e)else .inr ()) ret (fun _=>fin) ?_ (fun _ k=>hend k) N () hN) ?_
 .intro i _ hi k;rw[h i hi,QP];rfl
 .rw[ArO,QP];rfl
theorem Auq (mk:Nat->X) (n:Nat) (f:Nat->Int) (ret:Int->Option ρ) (fin:Option ρ)
 (h: ∀ i,i<n-> ∀ k,B (mk i) k kx=bif f i != 0 then ret (f i)else k (mk (i+1)))
 (hend: ∀ k,B (mk n) k kx=fin) (N:Nat) (hN:n<N):JB B N (mk 0) kx=bif KW f (List.range n) != 0 then ret (KW f (List.range n))else fin:=by
 refine AdR mk (List.range n) 0 f ret fin ?_ ?_ N (by rw[Ef];exact hN)
 .intro i hi k;rw[Ef]at hi;rw[AbJ hi];exact h i hi k
 .intro k;rw[Ef];exact hend k
theorem A1b (mk:Nat->X) (l:List E) (d:E) (p:E->Bool) (x fin:Option ρ)
 (h: ∀ i,i<l.length-> ∀ k,B (mk i) k kx=bif p (l.getD i d)then x else k (mk (i+1)))
 (hend: ∀ k,B (mk l.length) k kx=fin) (N:Nat) (hN:l.length<N):JB B N (mk 0) kx=bif l.any p then x else fin:=by
 refine ER (iQ (S:=Unit) (R:=Unit) (mk:=fun i _=>mk i) l d (fun e _=>bif p e then .inl ()else .inr ()) (fun _=>x) (fun _=>fin) ?_ (fun _ k=>hend k) N () hN) ?_
 .intro i _ hi k;rw[h i hi,QP];rfl
 .rw[Axp,QP];rfl
end
def first_some (e:Int):(bif e != 0 then some e else some 0)=some e:=by
 by_cases h:e=0
 .subst h;rfl
 .rw[show(e != 0)=true from FK.2 h];rfl
def Lr {α :Type} (b:Bool) (x y: α):(bif b then some x else some y)=some (bif b then x else y):=by cases b<;>rfl
def eF {E:Type} (f:E->Int) (x:E) (r:List E):KW f (x::r)=bif f x != 0 then f x else KW f r:=by
 show(if f x≠0 then f x else KW f r)=_;by_cases h:f x=0
 .rw[Dk (fun hn=>hn h),h];rfl
 .rw[Dn h,show(f x != 0)=true from FK.2 h];rfl
def Ayc {α :Type} (l:List α) (d: α) {i j:Nat} (h:j<i):(l.take i).getD j d=l.getD j d:=by rw[Dj,FY,Dn h,<- Dj]
def Awr {α :Type} (l:List α) (i:Nat):JD l 0 i=l.take i:=rfl
section
variable {X Y E A ρ :Type} {B:X->(X->Option ρ)->(Y->Option ρ)->Option ρ} {kx:Y->Option ρ}
theorem Aj9 (er:E->Int) (g:E->A): ∀(l:List E) (acc:List A),RG (fun e (acc:List A)=>bif er e != 0 then Sum.inl (er e)else Sum.inr (acc++[g e])) l acc=bif KW er l != 0 then .inl (KW er l)else .inr (acc++l.map g):=by
 intro l
 induction l with
 | nil=>intro acc;rw[Ff,DX];rfl
 | cons e r ih =>
  intro acc;rw[QF,eF];cases h:er e != 0 with
  | true=>rw[cond_true,cond_true,h];rfl
  | false =>rw[cond_false,cond_false];show RG _ r (acc++[g e])=_;rw[ih,DZ];rfl
theorem Abn (mk:Nat->List A->X) (l:List E) (d:E) (er:E->Int) (g:E->A) (ret:Int->Option ρ) (fin:List A->Option ρ)
 (h: ∀(i:Nat) (acc:List A),i<l.length->acc.length=i-> ∀ k,B (mk i acc) k kx=bif er (l.getD i d) != 0 then ret (er (l.getD i d))else k (mk (i+1) (acc++[g (l.getD i d)])))
 (hend: ∀(acc:List A) (k:X->Option ρ),acc.length=l.length->B (mk l.length acc) k kx=fin acc) (N:Nat) (hN:l.length<N:=by omega):JB B N (mk 0 []) kx=bif KW er l != 0 then ret (KW er l)else fin (l.map g):=by
 refine(wF (S:=List A) (R:=Int) mk l d (fun i acc=>acc.length=i) (fun e acc=>bif er e != 0 then .inl (er e)else .inr (acc++[g e])) ret fin ?_ ?_ (fun acc k ha=>hend acc k ha) N [] rfl hN).trans ?_
 .intro i acc hi ha k;rw[h i acc hi ha,QP];rfl
 .intro i acc acc' hi ha he;cases hb:er (l.getD i d) != 0 with
  | true=>rw[hb]at he;cases he
  | false =>rw[hb]at he;injection he with he;subst he;rw[Dp,ha];rfl
 .rw[Aj9,QP,List.nil_append];rfl
theorem Ahp: ∀ l:List E,KW (fun _=>(0:Int)) l=0:=by
 intro l
 induction l with
 | nil=>rfl
 | cons e r ih=>rw[eF];exact ih
theorem Yi (mk:Nat->List A->X) (l:List E) (d:E) (g:E->A) (fin:List A->Option ρ)
 (h: ∀(i:Nat) (acc:List A),i<l.length->acc.length=i-> ∀ k,B (mk i acc) k kx=k (mk (i+1) (acc++[g (l.getD i d)])))
 (hend: ∀(acc:List A) (k:X->Option ρ),acc.length=l.length->B (mk l.length acc) k kx=fin acc) (N:Nat) (hN:l.length<N:=by omega):JB B N (mk 0 []) kx=fin (l.map g):=by
 refine(Abn mk l d (fun _=>0) g (fun _=>none) fin (fun i acc hi ha k=>h i acc hi ha k) hend N hN).trans ?_;rw[Ahp];rfl
theorem Am4 (g:E->Bs) (l:List E) (d:E) {i:Nat} (h:i<l.length):((l.take i).map g).flatten++g (l.getD i d)=((l.take (i+1)).map g).flatten:=by rw[getD_lt l i d h,FO,DD h,EX,EZ];simp
theorem A10 (g:E->Bs) (l:List E) (i:Nat):((l.take i).map g).flatten.length<=(l.map g).flatten.length:=by
 conv=>rhs;rw[<- GH i l,EX,EZ,Dp]
 omega
theorem AoZ (mk:Nat->Bs->X) (l:List E) (d:E) (er:E->Int) (g:E->Bs) (ret:Int->Option ρ) (fin:Bs->Option ρ)
 (h: ∀(i:Nat) (t:Bs),i<l.length->t.length+(g (l.getD i d)).length<=(l.map g).flatten.length-> ∀ k,B (mk i t) k kx=bif er (l.getD i d) != 0 then ret (er (l.getD i d))else k (mk (i+1) (t++g (l.getD i d))))
 (hend: ∀(t:Bs) (k:X->Option ρ),B (mk l.length t) k kx=fin t) (N:Nat) (hN:l.length<N):JB B N (mk 0 []) kx=bif KW er l != 0 then ret (KW er l)else fin (l.map g).flatten:=by
 refine(wF (S:=Bs) (R:=Int) mk l d (fun i t=>t=((l.take i).map g).flatten) (fun e t=>bif er e != 0 then .inl (er e)else .inr (t++g e)) ret fin ?_ ?_ (fun t k _=>hend t k) N [] rfl hN).trans ?_
 .intro i t hi ht k;rw[h i t hi ?_,QP]
  .rfl
  .rw[ht,<- Dp,Am4 g l d hi];exact A10 g l (i+1)
 .intro i t t' hi ht he;cases hb:er (l.getD i d) != 0 with
  | true=>rw[hb]at he;cases he
  | false =>rw[hb]at he;injection he with he;rw[<- he,ht,Am4 g l d hi]
 .have: ∀(l:List E) (t:Bs),RG (fun e (t:Bs)=>bif er e != 0 then Sum.inl (er e)else Sum.inr (t++g e)) l t=bif KW er l != 0 then .inl (KW er l)else .inr (t++(l.map g).flatten):=by
   intro l
   induction l with
   | nil=>intro t;simp [Axq,KW]
   | cons e r ih =>
    intro t;rw[QF,eF];cases h:er e != 0 with
    | true=>rw[cond_true,cond_true,h];rfl
    | false=>rw[cond_false,cond_false,Ee,List.flatten_cons,<- DZ,<- ih];rfl
  rw[this,QP,List.nil_append];rfl
theorem yZ (mk:Nat->Bs->X) (l:List E) (d:E) (g:E->Bs) (fin:Bs->Option ρ)
 (h: ∀(i:Nat) (t:Bs),i<l.length->t.length+(g (l.getD i d)).length<=(l.map g).flatten.length-> ∀ k,B (mk i t) k kx=k (mk (i+1) (t++g (l.getD i d))))
 (hend: ∀(t:Bs) (k:X->Option ρ),B (mk l.length t) k kx=fin t) (N:Nat) (hN:l.length<N:=by omega):JB B N (mk 0 []) kx=fin (l.map g).flatten:=by
 refine(AoZ mk l d (fun _=>0) g (fun _=>none) fin (fun i t hi ht k=>h i t hi ht k) hend N hN).trans ?_;rw[Ahp];rfl
theorem Ae2 {f:E->Int}: ∀ {l:List E},KW f l=0-> ∀ e∈l,f e=0:=by
 intro l
 induction l with
 | nil=>intro _ e he;cases he
 | cons x r ih =>
  intro h e he;rw[eF]at h;cases hx:f x != 0 with
  | true=>rw[hx]at h;rw[show f x=0 from h]at hx;cases hx
  | false =>
   rw[hx]at h;rcases D7.1 he with rfl | he
   .simpa using hx
   .exact ih h e he
theorem Oo {g:E->Bs} {M:Nat}: ∀ {l:List E},(∀ e∈l,(g e).length<=M)->(l.map g).flatten.length<=M*l.length:=by
 intro l
 induction l with
 | nil=>intro _;simp
 | cons e r ih =>intro h;have h1:=h e Dv;have h2:=ih fun e he=>h e (Dx _ he);rw[Ee,List.flatten_cons,Dp,List.length_cons,Nat.mul_succ];omega
end
def Ao9 (x y:Bool):(x|| !y&& !x||y)=true:=by cases x<;>cases y<;>rfl
def OQ {α :Type} {c:Bool} {a x y: α} (h:c=false->x=y):(bif c then a else x)=bif c then a else y:=by
 cases c with
 | true=>rfl
 | false=>exact h rfl
set_option linter.defProp false in
def JH:=And.intro @o8 (And.intro @TT (And.intro @JI (And.intro @Jt (And.intro @cond_true.{1} (And.intro @cond_false.{1} (And.intro @uS (And.intro @Aou (And.intro @Abh (And.intro @A0G (And.intro @A0F (And.intro @Aos (And.intro @A4e (And.intro @A0E (And.intro @Ao3 (And.intro @A4l (And.intro @Ab9 (And.intro @AuW (And.intro @UT (And.intro @MO (And.intro @UU (And.intro @YQ (And.intro @w64 (And.intro @Int.toNat_natCast (And.intro @toNat_add (And.intro @toNat_sub (And.intro @AvI (And.intro @AvJ (And.intro @DU (And.intro @EF (And.intro @F7 (And.intro @FP (And.intro @FD (And.intro @GN (And.intro @G9 (And.intro @Ha (And.intro @EI (And.intro @Et (And.intro @Iw (And.intro @FH (And.intro @FW (And.intro @GG.{1} (And.intro @GU (And.intro @IJ (And.intro @IK (And.intro @IB (And.intro @FM (And.intro @Ij (And.intro @A1j (And.intro @AkD (And.intro @QP (And.intro @Awn (And.intro @U2.eq_1 (And.intro @U3.eq_1 (And.intro @U4.eq_1 (And.intro @U5.eq_1 (And.intro @U6.eq_1 (And.intro @U7.eq_1 (And.intro @U8.eq_1 (And.intro @U9.eq_1 (@U10.eq_1))))))))))))))))))))))))))))))))))))))))))))))))))))))))))))
end Go.Proofs.YtmgpaalplkkpnaaGreatDoor.Vm
namespace Go.Proofs.YtmgpaalplkkpnaaGreatDoor.Pl
open IntKind (i64 u8 u32 u64)
open Go Vm
def OX {α :Type} {P: α ->Prop} {l:List α} {x: α} (h: ∀ y∈l,P y) (hx:P x): ∀ y∈l++[x],P y:=by
 intro y hy;rcases DK.1 hy with hy | hy
 .exact h y hy
 .rw[DR.1 hy];exact hx
def Ends {α :Type} (Q: α ->Prop) (o:Option α):Prop:= ∃ v,o=some v/\Q v
theorem Ju {α :Type} {Q: α ->Prop} {v: α} (h:Q v):Ends Q (some v):=⟨v,rfl,h⟩
theorem Jz {α ρ :Type} [Inhabited α] {P: α ->Prop} {Q: ρ ->Prop} {o:Option α} {k: α ->Option ρ} (h:Ends P o) (hk: ∀ v,P v->Ends Q (k v)):Ends Q (Jr o k):=by obtain⟨v,rfl,hv⟩:=h;exact hk v hv
theorem J9 {ρ :Type} {Q: ρ ->Prop} {c:Bool} {k:Option ρ} (h:c=true) (hk:Ends Q k):Ends Q (Vm.chk c k):=by rw[h];exact hk
def Jv {ρ :Type} {Q: ρ ->Prop} {c:Bool} {x y:Option ρ} (h1:c=true->Ends Q x) (h2:c=false->Ends Q y):Ends Q (bif c then x else y):=by
 cases c with
 | true=>exact h1 rfl
 | false=>exact h2 rfl
def KE {α ρ :Type} {P: α ->Prop} {Q: ρ ->Prop} {A:(α ->Option ρ)->Option ρ} {f: α ->Option ρ} (hA: ∀ j: α ->Option ρ,(∀ x,P x->Ends Q (j x))->Ends Q (A j)) (hf: ∀ x,P x->Ends Q (f x)):Ends Q (KC A f):=hA f hf
def KP {X Y ρ :Type} {B:X->(X->Option ρ)->(Y->Option ρ)->Option ρ} {kx:Y->Option ρ} {Q: ρ ->Prop} (I:X->Prop) (μ :X->Nat)
 (h: ∀ x,I x-> ∀ k:X->Option ρ,(∀ x',I x'-> μ x'< μ x->Ends Q (k x'))->Ends Q (B x k kx)) (N:Nat) (x:X) (hI:I x) (hm: μ x<N:=by omega):Ends Q (JB B N x kx):=QE I μ (Ends Q) h N x hI hm
def AwR {α :Type} {P Q: α ->Prop} {o:Option α} (h:Ends P o) (hq: ∀ v,P v->Q v):Ends Q o:=by obtain⟨v,rfl,hv⟩:=h;exact⟨v,rfl,hq v hv⟩
def KY (L:List Int) (d:List Int×Int):Prop:= ∃ k:Nat,d=(L,(k:Int))/\k<=L.length
def AmF (N:Nat) {L:List Int} (hL:L.length<=9223372036854775807) {d:List Int×Int} (hd:KY L d) (n:Nat) (hn:0<n) (hn':n<2147483648) :
 Ends (fun r=>0<=r.1/\r.1<(n:Int)/\KY L r.2) (JK N d (n:Int)):=by
 obtain⟨k,rfl,hk⟩:=hd;unfold JK;try simp -zeta only[Ap]
 try dsimp only
 by_cases h:k<L.length
 .rw[O8,A51,w64 (x:=(k:Int)+1),w64 (x:=(k:Int)+1 - 1),TL,A52,TL,A52];generalize L.getD _ _=x;have hne:((n:Int) != 0)=true:=by simp;omega
  rw[hne,JI,JI];have h1:=Jc x (show(0:Int)<(n:Int) by omega);have h2: -(n:Int)<x.tmod (n:Int):=Int.lt_tmod_of_pos x (by omega);rw[w64 (x:=x.tmod (n:Int)+(n:Int))];have h3:0<=(x.tmod (n:Int)+(n:Int)).tmod (n:Int):=Int.tmod_nonneg _ (by omega);have h4:=Jc (x.tmod (n:Int)+(n:Int)) (show(0:Int)<(n:Int) by omega);refine⟨_,rfl,h3,h4,k+1,by rw[show((k+1:Nat):Int)=(k:Int)+1 by omega],h⟩
 .rw[O8,A52];exact⟨_,rfl,Gq _,by show(0:Int)<n;omega,k,rfl,hk⟩
def VV {α :Type} {P: α ->Prop} {l:List α} {d: α} {i:Int} (h: ∀ x∈l,P x) (h0:0<=i) (hi:i<(l.length:Int)):P (l.getD i.toNat d):=h _ (getD_mem d)
section
variable (N:Nat) (hN:1048578<N) {L:List Int} (hL:L.length<=9223372036854775807)
include hL
theorem nx {d:List Int×Int} (hd:KY L d) (n:Int) (h0:0<n) (h1:n<2147483648:=by omega):Ends (fun r=>0<=r.1/\r.1<n/\KY L r.2) (JK N d n):=by
 have:=AmF N hL hd n.toNat (by omega) (by omega)
 rw[show((n.toNat:Nat):Int)=n by omega]at this;exact this
end
def Uy (y:Int):Bool:=bif y.tmod 4==0 then(bif y.tmod 100 != 0 then true else y.tmod 400==0)else false
def A1G (N:Nat) (y:Int):gU N y=some (Uy y):=by
 unfold gU Uy;try simp -zeta only[Ap]
 cases y.tmod 4==0<;>cases y.tmod 100 != 0<;>rfl
def Ab1 (y m:Int):Int:=bif (m==2)&&Uy y then 29 else([31,28,31,30,31,30,31,31,30,31,30,31]:List Int).getD (m - 1).toNat 0
def length_eq (N:Nat) (y m:Int) (h1:1<=m) (h2:m<=12):QQ N y m=some (Ab1 y m):=by
 unfold QQ Ab1;try simp -zeta only[Ap]
 rw[A1G,w64,Di (show(0:Int)<=m - 1 by omega),Di (show m - 1<12 by omega)];cases m==2<;>cases Uy y<;>rfl
def Xe (y:Int):Int:=365*(y - 1950)+((y - 1) / 4 - (y - 1) / 100+(y - 1) / 400) - 472
def Ai1 (N:Nat) (n:Int) (h1:0<=n:=by omega) (h2:n<=1000000:=by omega):Qv N n=some (n / 4 - n / 100+n / 400):=by unfold Qv;rw[EL h1,EL h1,EL h1,w64 (x:=n / 4),w64 (x:=n / 100),w64 (x:=n / 400),w64 (x:=n / 4 - n / 100)];dsimp only;rw[w64]
def Adn (N:Nat) (y:Int) (h1:1950<=y:=by omega) (h2:y<=10001:=by omega):Tn N y=some (Xe y):=by unfold Tn;rw[w64 (x:=y - 1),w64 (x:=y - 1950),w64 (x:=365*(y - 1950))];have e1:Aaa N 218 (y - 1)=Qv N (y - 1):=rfl;have e2:Aaa N 218 1949=Qv N 1949:=rfl;rw[e1,e2,Ai1 N _,Ai1 N _,Jt,Jt];rw[w64 (x:=365*(y - 1950)+((y - 1) / 4 - (y - 1) / 100+(y - 1) / 400)),w64];rfl
def AuG {y:Int} (h:0<=y):(Uy y=true/\Xe (y+1) - Xe y=366)\/(Uy y=false/\Xe (y+1) - Xe y=365):=by
 have e4:y.tmod 4=y % 4:=Em h;have e1:y.tmod 100=y % 100:=Em h;have e2:y.tmod 400=y % 400:=Em h;unfold Uy Xe;rw[e4,e1,e2];by_cases a:y % 4=0
 .rw[UT a,cond_true];by_cases b:y % 100=0
  .rw[show(y % 100 != 0)=false from YQ b,cond_false];by_cases c:y % 400=0
   .left;exact⟨UT c,by omega⟩
   .right;exact⟨MO c,by omega⟩
  .rw[show(y % 100 != 0)=true from UU b,cond_true];left;exact⟨rfl,by omega⟩
 .rw[MO a,cond_false];right;exact⟨rfl,by omega⟩
def AeZ (b:Bool) (m:Int):Int:=([365,334,306,275,245,214,184,153,122,92,61,31]:List Int).getD (m - 1).toNat 0+(bif decide (m<=2)&&b then 1 else 0)
def AzS (y m:Int) (h1:1<=m) (h2:m<=12):28<=Ab1 y m/\Ab1 y m<=31/\(m=12->AeZ (Uy y) m=Ab1 y m)/\(m<=11->AeZ (Uy y) (m+1)=AeZ (Uy y) m - Ab1 y m):=by
 unfold Ab1;generalize Uy y=b;have:m=1\/m=2\/m=3\/m=4\/m=5\/m=6\/m=7\/m=8\/m=9\/m=10\/m=11\/m=12:=by omega
 rcases this with rfl | rfl | rfl | rfl | rfl | rfl | rfl | rfl | rfl | rfl | rfl | rfl<;>cases b<;>decide
abbrev Dt:Type:=Int×Int×Int×Int×Int×Int
def A40 (d:Dt):Prop:=(1950<=d.1/\d.1<=9999)/\(1<=d.2.1/\d.2.1<=12)/\(1<=d.2.2.1/\d.2.2.1<=31)/\(0<=d.2.2.2.1/\d.2.2.2.1<=23)/\(0<=d.2.2.2.2.1/\d.2.2.2.2.1<=59)/\0<=d.2.2.2.2.2/\d.2.2.2.2.2<=59
section
variable (N:Nat) (hN:1048578<N)
include hN
theorem AvP (t:Int) (h0:0<=t) (h1:t<=254033452799):Ends (fun r=>A40 r.1/\r.2=0) (mJ N t):=by
 unfold mJ;try simp -zeta only[Ap]
 have a0:decide (t<0)=false:=A50;have a1:decide (t>254033452799)=false:=A50;rw[a0,a1];refine J9 rfl (J9 rfl (J9 rfl ?_));refine Jv (fun h=>by cases h) (fun _=> ?_);have q:t.tdiv 86400=t / 86400:=EL h0;have q2:t.tmod 86400=t % 86400:=Em h0;rw[q,q2];have hd0:0<=t / 86400:=by omega
 have hd1:t / 86400<=2940201:=by omega
 have hs0:0<=t % 86400:=by omega
 have hs1:t % 86400<=86399:=by omega
 generalize t / 86400=D at hd0 hd1 ⊢;generalize t % 86400=S at hs0 hs1 ⊢;rw[w64 (x:=D)];have q3:D.tdiv 366=D / 366:=EL hd0;have q4:S.tdiv 3600=S / 3600:=EL hs0;have q5:S.tdiv 60=S / 60:=EL hs0;have q6:S.tmod 60=S % 60:=Em hs0;have q7:(S / 60).tmod 60=S / 60 % 60:=Em (by omega);rw[q3,q4,q5,q6,w64 (x:=D / 366),w64 (x:=1950+D / 366),w64 (x:=S / 3600),w64 (x:=S / 60),q7];refine KP (fun(y:Int)=>1950<=y/\y<=9999/\Xe y<=D) (fun y=>(10000 - y).toNat) ?_ N _ ⟨by omega,by omega,by unfold Xe;omega⟩;intro y ⟨y0,y1,y2⟩ k hk;rw[w64 (x:=y+1),Adn N (y+1),Jt];refine Jv (fun h=> ?_) (fun h=> ?_)
 .have h:Xe (y+1)<=D:=D6 h
  have y9:y<=9998:=by
   by_cases e:y=9999
   .rw[e]at h;have h9:Xe (9999+1)=2940202:=by decide
    rw[h9]at h;omega
   .omega
  exact hk _ ⟨by omega,by omega,h⟩ (by omega)
 .have h: ¬ Xe (y+1)<=D:=DY h;show Ends _ (Jr (Tn N y) _);rw[Adn N y,Jt,w64 (x:=D - Xe y) (by omega) (by unfold Xe;omega)]
  have hr:0<=D - Xe y/\D - Xe y<AeZ (Uy y) 1:=by
   refine⟨by omega,?_⟩;rcases AuG (show 0<=y by omega)with ⟨a,b⟩ | ⟨a,b⟩<;>rw[a]
   .rw[show AeZ true 1=366 from rfl];omega
   .rw[show AeZ false 1=365 from rfl];omega
  generalize D - Xe y=E at hr ⊢;refine KP (fun(x:Int×Int)=>1<=x.2/\x.2<=12/\0<=x.1/\x.1<AeZ (Uy y) x.2/\x.1<=366) (fun x=>(13 - x.2).toNat) ?_ N _ ⟨by dsimp only;omega,by dsimp only;omega,hr.1,hr.2,?_⟩ (by dsimp only;omega)
  .rintro ⟨e,m⟩ ⟨m0,m1,e0,e1,e2⟩ k2 hk2;dsimp only at m0 m1 e0 e1 e2 hk2;dsimp only[U2];rw[length_eq N y m m0 m1,Jt,Jt];obtain⟨l0,l1,l2,l3⟩:=AzS y m m0 m1;refine Jv (fun h=> ?_) (fun h=> ?_)
   .have h:e>=Ab1 y m:=D6 h
    have m9:m<=11:=by
     by_cases q:m=12
     .have:=l2 q;omega
     .omega
    rw[w64,w64];refine hk2 _ ⟨?_,?_,?_,?_,?_⟩ ?_
    .dsimp only;omega
    .dsimp only;omega
    .dsimp only;omega
    .dsimp only;rw[l3 m9];omega
    .dsimp only;omega
    .dsimp only;omega
   .have h: ¬ e>=Ab1 y m:=DY h;rw[w64];refine Ju ⟨⟨⟨y0,y1⟩,⟨m0,m1⟩,?_,?_,?_,?_⟩,rfl⟩
    .dsimp only;omega
    .dsimp only;omega
    .dsimp only;omega
    .dsimp only;omega
  .have:AeZ (Uy y) 1<=366:=by cases Uy y<;>decide
   omega
omit hN in
theorem tt {α :Type} {o:Option α} {Q: α ->Prop} (h:Ends Q o):Ends (fun _=>True) o:=AwR h fun _ _=>trivial
theorem WM (s:Bs) (hs:s.length<=1048576):Ends (fun _=>True) (PT N s):=by
 unfold PT;try simp only[clR]
 refine J9 (Di) ?_;have hl:(List.map (fun(b:UInt8)=>((b.toNat:Int))) s).length=s.length:=Dz _;generalize List.map (fun(b:UInt8)=>((b.toNat:Int))) s=L at hl ⊢;refine KP (fun(x:Int×Int×List Int)=>0<=x.2.1/\x.2.1<=(s.length:Int)/\x.2.2=L) (fun x=>((s.length:Int) - x.2.1).toNat) ?_ N _ ⟨by dsimp only;omega,by dsimp only;omega,rfl⟩ (by dsimp only;omega);rintro ⟨v,i,L2⟩ ⟨i0,i1,rfl⟩ k hk;dsimp only at i0 i1 hk;dsimp only[U3];rw[hl];refine Jv (fun h=> ?_) (fun _=>Ju trivial);have h:=D6 h;refine J9 (Di i0) (J9 (Di h) (J9 (Di) ?_));refine Jv (fun _=>Ju trivial) (fun _=> ?_);rw[w64 (x:=i+1)];exact hk _ ⟨by dsimp only;omega,by dsimp only;omega,rfl⟩ (by dsimp only;omega)
theorem AxC (y:Int) (s:Bs) (hs:s.length=11):Ends (fun _=>True) (mM N y s):=by
 unfold mM;try simp -zeta only[Ap]
 have hc: ∀ a b,(JD s a b).length<=1048576:=fun a b=>by unfold JD;rw[Ew,Eb];omega
 rw[hs];refine J9 rfl (Jz (WM N hN _ (hc _ _)) fun _ _=>J9 rfl (Jz (WM N hN _ (hc _ _)) fun _ _=>J9 rfl (Jz (WM N hN _ (hc _ _)) fun _ _=>J9 rfl (Jz (WM N hN _ (hc _ _)) fun _ _=>J9 rfl (Jz (WM N hN _ (hc _ _)) fun _ _=>Ju trivial)))))
theorem Ari (d:Dt):Ends (fun _=>True) (Zd N d):=by
 obtain⟨y,m,d,h,mi,s⟩:=d;unfold Zd;try simp -zeta only[Ap]
 try dsimp only
 by_cases hm:1<=m/\m<=12
 .rw[length_eq N y m hm.1 hm.2];simp only[o8,Option.isSome_some,Option.getD_some,GU,DU,FH,FW,Iw,JI,EF,FM];refine Jv (fun _=>Ju trivial) (fun h1=>Jv (fun _=>Ju trivial) (fun _=> ?_));simp only[EU,EG]at h1;rw[Adn N y,Jt];refine KP (fun(x:Int×Int×Dt)=>1<=x.2.1/\x.2.1<=m/\x.2.2=(y,m,d,h,mi,s)) (fun x=>(m - x.2.1).toNat) ?_ N _ ⟨by dsimp only;omega,by dsimp only;omega,rfl⟩ (by dsimp only;omega);rintro ⟨v,i,d2⟩ ⟨i0,i1,rfl⟩ k hk;dsimp only at i0 i1 hk;dsimp only[U8];refine Jv (fun h=> ?_) (fun _=>Ju trivial);have h:i<m:=D6 h;rw[length_eq N y i (by omega) (by omega),Jt,w64 (x:=i+1)];exact hk _ ⟨by dsimp only;omega,by dsimp only;omega,rfl⟩ (by dsimp only;omega)
 .have hb:(decide (m<1)||decide (m>12))=true:=by
   rw[EE,D5,D5];omega
  rcases EE _ _▸hb with hb | hb<;>rw[hb] <;>
   simp only[o8,GU,DU,FH,FW,Iw,JI,EF,FM,cond_true,EI,Et]<;>exact Ju trivial
theorem Agv (t:Int) (s:Bs) (hs:s.length<=1048576):Ends (fun _=>True) (Tm N t s):=by
 unfold Tm;try simp only[clR]
 refine KE (P:=fun x=>x=2\/x=4) (fun j hj=>Jv (fun _=>hj _ (.inl rfl)) (fun _=>Jv (fun _=>hj _ (.inr rfl)) (fun _=>Ju trivial))) ?_;intro x hx;have hx0:2<=x/\x<=4:=by omega
 rw[w64 (x:=x+11),w64 (x:=x+10)];by_cases hn:(s.length:Int)=x+11
 .rw[YQ hn];rw[Di (show(0:Int)<=x+10 by omega),Di (show x+10<(s.length:Int) by omega)];refine J9 rfl (J9 rfl ?_);refine Jv (fun _=>Ju trivial) (fun _=> ?_);refine J9 (Di) (J9 (Di) ?_);have hc: ∀ a b,(JD s a b).length=min b s.length - a:=fun a b=>by unfold JD;rw[Ew,Eb]
  refine Jz (WM N hN _ (by rw[hc];omega)) fun(v:Int) _=> ?_;refine KE (P:=fun _=>True) (fun j hj=> ?_) fun w _=> ?_
  .refine J9 ?_ ?_
   .generalize decide (v<0)=a;generalize (x==4)=b;cases a<;>cases b<;>rfl
   exact Jv (fun _=>Ju trivial) (fun _=>Jv (fun _=>hj _ trivial) (fun _=>Jv (fun _=>hj _ trivial) (fun _=>hj _ trivial)))
  refine J9 (Di (show(0:Int)<=x by omega)) (J9 (Di (show x<=(s.length:Int) by omega)) ?_);refine Jz (AxC N hN _ _ (by rw[hc];omega)) fun v _=>Jz (Ari N hN v) fun _ _=>Ju trivial
 .rw[UU hn];simp only[EF,DU,EI,Et,JI,cond_true];exact Ju trivial
end
end Go.Proofs.YtmgpaalplkkpnaaGreatDoor.Pl
namespace Go.Proofs.YtmgpaalplkkpnaaGreatDoor.Sp
def beNat (l:List UInt8):Nat:=l.foldl (fun v b=>v*256+b.toNat) 0
def leastOf (k:Nat):Nat:=if k=1 then 128 else 2 ^ (8*(k - 1))
def At6 (l:List UInt8) (b:UInt8):beNat (l++[b])=beNat l*256+b.toNat:=by simp [beNat,Ik]
def Ay4 (l:List UInt8):beNat l<256 ^ l.length:=by
 have h: ∀(l:List UInt8) (v h:Nat),v<h->l.foldl (fun v b=>v*256+b.toNat) v<h*256 ^ l.length:=by
  intro l
  induction l with
  | nil=>intro v h hv;simpa using hv
  | cons b r ih =>intro v h hv;have hb:=b.toNat_lt;have:=ih (v*256+b.toNat) (h*256) (by omega);rw[List.foldl_cons,List.length_cons,Nat.pow_succ];rw[H5 (256 ^ r.length) 256,<- Nat.mul_assoc];exact this
 have:=h l 0 1 (by omega);simpa [beNat]using this
def head (l:List UInt8):Int×Nat×Nat :=
 match l with
 | []=>(3,0,0)
 | t::r =>
  if t.toNat % 32=31 then(5,0,0)else
  match r with
  | []=>(3,0,0)
  | n::r =>
   if n.toNat<128 then(0,2,n.toNat)else
   if n.toNat=128\/131<n.toNat then(6,0,0)else
   if r.length<n.toNat - 128 then(3,0,0)else
   if beNat (r.take (n.toNat - 128))<leastOf (n.toNat - 128)\/131072<beNat (r.take (n.toNat - 128))then(6,0,0)else
   (0,2+(n.toNat - 128),beNat (r.take (n.toNat - 128)))
def rd (l:List UInt8):Int×Nat×Nat:=if(head l).1=0/\l.length - (head l).2.1<(head l).2.2 then(3,0,0)else head l
def err (l:List UInt8):Int:=(rd l).1
def tag (l:List UInt8):Nat:=(l.headD 0).toNat
def content (l:List UInt8):List UInt8:=(l.drop (rd l).2.1).take (rd l).2.2
def raw (l:List UInt8):List UInt8:=l.take ((rd l).2.1+(rd l).2.2)
def rest (l:List UInt8):List UInt8:=l.drop ((rd l).2.1+(rd l).2.2)
def Af3 (l:List UInt8) (h:(head l).1=0):2<=(head l).2.1/\(head l).2.1<=l.length/\(head l).2.1<=5/\(head l).2.2<=131072:=by
 unfold head at *
 split at h
 .simp at h
 .split at h
  .simp at h
  .split at h
   .simp at h
   .split at h
    .simp only[*,Jf,Gz,List.length_cons];omega
    .split at h
     .simp at h
     .split at h
      .simp at h
      .split at h
       .simp at h
       .simp only[*,Gz,List.length_cons];omega
def nH (l:List UInt8) (h:err l=0):2<=(rd l).2.1/\(rd l).2.1+(rd l).2.2<=l.length/\(rd l).2.1<=5/\(rd l).2.2<=131072:=by
 unfold err rd at *
 by_cases hc:(head l).1=0/\l.length - (head l).2.1<(head l).2.2
 .rw[Dn hc]at h;simp at h
 .rw[Dk hc]at h ⊢;have:=Af3 l h;omega
theorem dO (l:List UInt8) (h:err l=0):(rest l).length<l.length:=by have:=nH l h;unfold rest;rw[Ew];omega
theorem SG (l:List UInt8) (h:err l=0):(content l).length<l.length:=by have:=nH l h;unfold content;rw[Eb,Ew];omega
def zJ (l:List UInt8) (h:err l=0):(content l).length=(rd l).2.2:=by have:=nH l h;unfold content;rw[Eb,Ew];omega
def nG (l:List UInt8) (h:err l=0):(raw l).length=(rd l).2.1+(rd l).2.2:=by have:=nH l h;unfold raw;rw[Eb];omega
def NP (l:List UInt8):Int:=if err l≠0 then err l else if rest l=[]then 0 else 4
def cons (t:Nat):Bool:=decide (t / 32 % 2=1)
def within:Nat->Nat->List UInt8->Int
 | 0,_,_=>0
 | f+1,d,l =>
  if l=[]then 0 else
  if err l≠0 then err l else
  if 16<=d then 8 else
  if(if cons (tag l)then within f (d+1) (content l)else 0)≠0 then(if cons (tag l)then within f (d+1) (content l)else 0)
  else within f d (rest l)
def inner (f d:Nat) (t:Nat) (c:List UInt8):Int:=if cons t then within f d c else 0
def AvO (f d:Nat):within f d []=0:=by cases f<;>simp [within]
theorem AvN (f d:Nat) (l:List UInt8) (h:l≠ []) (he:err l≠0):within (f+1) d l=err l:=by rw[within,Dk h,Dn he]
def As0 (f d:Nat) (l:List UInt8) (h:l≠ []) (he:err l=0) (hd:16<=d):within (f+1) d l=8:=by rw[within,Dk h,Dk (by simp [he]),Dn hd]
def AvM (f d:Nat) (l:List UInt8) (h:l≠ []) (he:err l=0) (hd: ¬ 16<=d) (hi:inner f (d+1) (tag l) (content l)≠0):within (f+1) d l=inner f (d+1) (tag l) (content l):=by rw[within,Dk h,Dk (by simp [he]),Dk hd];unfold inner at hi ⊢;rw[Dn hi]
def AgZ (f d:Nat) (l:List UInt8) (h:l≠ []) (he:err l=0) (hd: ¬ 16<=d) (hi:inner f (d+1) (tag l) (content l)=0):within (f+1) d l=within f d (rest l):=by rw[within,Dk h,Dk (by simp [he]),Dk hd];unfold inner at hi;rw[Dk (by simp [hi])]
def chk (l:List UInt8):Int:=if NP l≠0 then NP l else inner (l.length+1) 1 (tag l) (content l)
def MG (n:Nat):List UInt8 :=
 if n<128 then [UInt8.ofNat n]else if n<256 then [129,UInt8.ofNat n]else if n<65536 then [130,UInt8.ofNat (n / 256),UInt8.ofNat n]
 else [131,UInt8.ofNat (n / 65536),UInt8.ofNat (n / 256),UInt8.ofNat n]
def elem (t:Nat) (c:List UInt8):List UInt8:=UInt8.ofNat t::MG c.length++c
def wrap (t:Int) (c:List UInt8):List UInt8×Int :=
 if t<0\/255<t\/t % 32=31 then([],5)else if 131072<c.length then([],6)else(elem t.toNat c,0)
def Aj6 (n:Nat):(MG n).length<=4:=by unfold MG;split<;>(try split)<;>(try split)<;>simp
def JM (t:Nat) (c:List UInt8):(elem t c).length<=c.length+5:=by have:=Aj6 c.length;unfold elem;simp;omega
end Go.Proofs.YtmgpaalplkkpnaaGreatDoor.Sp
