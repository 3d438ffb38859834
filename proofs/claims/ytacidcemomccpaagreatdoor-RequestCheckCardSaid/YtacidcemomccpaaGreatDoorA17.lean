import Derived.Test.YtacidcemomccpaaGreatDoorA11
import Derived.Lib.SplitLaws
set_option linter.all false
namespace Go.Proofs.YtacidcemomccpaaGreatDoor.Vm
open IntKind (i64 u8 u32 u64)
open Go
theorem w64 {x:Int} (h1: -9223372036854775808<=x:=by omega) (h2:x<=9223372036854775807:=by omega):i64.wrap x=x:=by
 have e:i64.wrap x=if 9223372036854775808<=x % 18446744073709551616 then x % 18446744073709551616 - 18446744073709551616 else x % 18446744073709551616:=by show(if(true&&decide (x % 18446744073709551616>=9223372036854775808))=true then _ else _)=_;simp only[ER,D6,ge_iff_le];rfl
 rw[e];split<;>omega
theorem w8 (x:Int):u8.wrap x=x % 256:=by
 have hp:(2:Int) ^ 8=256:=by decide
 simp only[IntKind.wrap,IntKind.bits,IntKind.signed,EW,Ib,G8,hp]
theorem OZ (x:Int):isByte (u8.wrap x)=true:=by rw[w8];unfold isByte;simp;omega
def wu64 {x:Int} (h1:0<=x) (h2:x<=18446744073709551615:=by omega):u64.wrap x=x:=by
 have hp:(2:Int) ^ 64=18446744073709551616:=by decide
 simp only[IntKind.wrap,IntKind.bits,IntKind.signed,EW,Ib,G8,hp];omega
def Ap3 (a:Nat) (h:a<256):J9 .and .i64 (a:Int) 31=((a % 32:Nat):Int):=by
 have: ∀ a:Fin 256,J9 .and .i64 ((a.val:Nat):Int) 31=((a.val % 32:Nat):Int):=by decide +kernel
 exact this ⟨a,h⟩
def AvT (a:Nat) (h:a<256):J9 .and .i64 (a:Int) 32=((if a / 32 % 2=1 then 32 else 0:Nat):Int):=by
 have: ∀ a:Fin 256,J9 .and .i64 ((a.val:Nat):Int) 32=((if a.val / 32 % 2=1 then 32 else 0:Nat):Int):=by decide +kernel
 exact this ⟨a,h⟩
def or8 (t b:Nat) (ht:t<36028797018963968) (hb:b<256):J9 .or .i64 (((t*256:Nat)):Int) (b:Int)=((t*256+b:Nat):Int):=by
 have e: ∀ n:Nat,n<2 ^ 64->(BitVec.ofInt 64 (n:Int))=BitVec.ofNat 64 n:=λn _=>by simp
 show i64.wrap _=_;rw[show(BitVec.ofInt (i64).bits ((t*256:Nat):Int))=BitVec.ofNat 64 (t*256)from e _ (by omega),show(BitVec.ofInt (i64).bits ((b:Nat):Int))=BitVec.ofNat 64 b from e _ (by omega)];show i64.wrap (((BitVec.ofNat 64 (t*256)) ||| (BitVec.ofNat 64 b)).toNat:Int)=_;rw[BitVec.toNat_or,Gh,Gh,F5 (by omega),F5 (by omega)];rw[show t*256=t <<< 8 by rw[Hq],<- H8 (by omega:b<2 ^ 8),Hq];exact w64
theorem qI {ρ :Type} (p:Prop) [Decidable p] (k:Option ρ):chk (decide p) k=if p then k else none:=by by_cases h:p<;>simp [chk,h]
theorem Ju {ρ :Type} (k:Option ρ):chk true k=k:=rfl
def AeY {ρ :Type} (b:Bool) (k:Option ρ):chk (!b|| !!b) k=k:=by cases b<;>rfl
def AbN {ρ :Type} (b:Bool) (k:Option ρ):chk (b|| !b) k=k:=by cases b<;>rfl
def AoB {ρ :Type} (b:Bool) (k:Option ρ):chk (bif b then true else !b) k=k:=by cases b<;>rfl
def Ala {ρ :Type} (b:Bool) (k:Option ρ):chk (bif b then true else true) k=k:=by cases b<;>rfl
def AeM (a b:Bool):(bif a then true else b)=(a||b):=by cases a<;>rfl
def Xa {α :Type} (p:Prop) [Decidable p] (a b: α):(bif decide p then a else b)=if p then a else b:=by by_cases h:p<;>simp [h]
def AbO {ρ :Type} (b:Bool) (k:Option ρ):chk (b||true) k=k:=by cases b<;>rfl
def QS {α :Type} (b:Bool) (x y: α):(bif b then x else y)=if b=true then x else y:=by cases b<;>rfl
def AoC {ρ :Type} (b:Bool) (k:Option ρ):chk b k=if b=true then k else none:=by cases b<;>rfl
theorem Js {α ρ :Type} [Inhabited α] (a: α) (k: α ->Option ρ):Jq (some a) k=k a:=rfl
def OW {α ρ :Type} (A:(α ->Option ρ)->Option ρ) (f: α ->Option ρ):Ld A f=A f:=rfl
def Ai9 {α ρ :Type} {A:(α ->Option ρ)->Option ρ} {f: α ->Option ρ} (P: α ->Prop) (Q:Option ρ ->Prop) (hA: ∀ j: α ->Option ρ,(∀ x,P x->Q (j x))->Q (A j)) (hf: ∀ x,P x->Q (f x)):Q (Ld A f):=hA f hf
def KL {X Y ρ :Type} (B:X->(X->Option ρ)->(Y->Option ρ)->Option ρ) (n:Nat) (x:X) (kx:Y->Option ρ):Jy B (n+1) x kx=B x (λx'=>Jy B n x' kx) kx:=rfl
def Nc {X Y ρ :Type} {B:X->(X->Option ρ)->(Y->Option ρ)->Option ρ} {kx:Y->Option ρ} (I:X->Prop) (μ :X->Nat) (F:X->Option ρ)
 (h: ∀ x,I x-> ∀ k:X->Option ρ,(∀ x',I x'-> μ x'< μ x->k x'=F x')->B x k kx=F x): ∀(N:Nat) (x:X),I x-> μ x<N->Jy B N x kx=F x:=by
 intro N
 induction N with
 | zero=>intro x _ h;omega
 | succ N ih=>intro x hI hm;exact h x hI _ (λx' hI' hm'=>ih x' hI' (by omega))
def S9 {X Y ρ :Type} {B:X->(X->Option ρ)->(Y->Option ρ)->Option ρ} {kx:Y->Option ρ} (I:X->Prop) (μ :X->Nat) (Q:Option ρ ->Prop)
 (h: ∀ x,I x-> ∀ k:X->Option ρ,(∀ x',I x'-> μ x'< μ x->Q (k x'))->Q (B x k kx)): ∀(N:Nat) (x:X),I x-> μ x<N->Q (Jy B N x kx):=by
 intro N
 induction N with
 | zero=>intro x _ h;omega
 | succ N ih=>intro x hI hm;exact h x hI _ (λx' hI' hm'=>ih x' hI' (by omega))
def AbV {E S ρ :Type} (step:E->S->(S->Option ρ)->Option ρ) (fin:S->Option ρ):List E->S->Option ρ
 | [],s=>fin s
 | e::r,s=>step e s (λs'=>AbV step fin r s')
def Aq1 {X Y S E ρ :Type} {B:X->(X->Option ρ)->(Y->Option ρ)->Option ρ} {kx:Y->Option ρ} (mk:Int->S->X) (l:List E) (d:E) (step:E->S->(S->Option ρ)->Option ρ) (fin:S->Option ρ)
 (h: ∀(i:Nat) (s:S) (k:X->Option ρ),i<l.length->B (mk (i:Int) s) k kx=step (l.getD i d) s (λs'=>k (mk ((i:Int)+1) s')))
 (hend: ∀(s:S) (k:X->Option ρ),B (mk (l.length:Int) s) k kx=fin s) (N:Nat) (s:S) (hN:l.length<N):Jy B N (mk 0 s) kx=AbV step fin l s:=by
 have key: ∀(n i:Nat) (s:S),i<=l.length->l.length - i<n->Jy B n (mk (i:Int) s) kx=AbV step fin (l.drop i) s:=by
  intro n
  induction n with
  | zero=>intro i s _ h;omega
  | succ n ih =>
   intro i s hi hn;rw[KL];by_cases hl:i<l.length
   .rw[h i s _ hl,EN hl];show _=step l[i] s (λs'=>AbV step fin (l.drop (i+1)) s');rw[show l.getD i d=l[i] by simp [Dn,hl]];congr 1;funext s';exact ih (i+1) s' (by omega) (by omega)
   .have:i=l.length:=by omega
    rw[this,hend,GG];rfl
 exact key N 0 s (by omega) (by omega)
def Kw {E:Type} (f:E->Int):List E->Int
 | []=>0
 | e::r=>if f e≠0 then f e else Kw f r
set_option linter.defProp false in
def Aa_r {ρ:Type} (b:Bool) (k:Option ρ):Aa b k=chk (b||!b) k:=rfl
def Aa_e {ρ:Type} (b:Bool) (k:Option ρ):Aa b k=k:=by cases b<;>rfl
def Ac_r {ρ:Type} (b:Bool) (k:Option ρ):Ac b k=chk (b||!b) (chk (b||!b) k):=rfl
def Ac_e {ρ:Type} (b:Bool) (k:Option ρ):Ac b k=k:=by cases b<;>rfl
def Ad_r {ρ:Type} (b:Bool) (k:Option ρ):Ad b k=chk (b||!b) (chk (b||!b) (chk (b||!b) k)):=rfl
def Ad_e {ρ:Type} (b:Bool) (k:Option ρ):Ad b k=k:=by cases b<;>rfl
def Ae_r {ρ:Type} (b:Bool) (k:Option ρ):Ae b k=chk (b||!b) (chk (b||!b) (chk (b||!b) (chk (b||!b) k))):=rfl
def Ae_e {ρ:Type} (b:Bool) (k:Option ρ):Ae b k=k:=by cases b<;>rfl
def Af_r {ρ:Type} (b:Bool) (k:Option ρ):Af b k=chk (b||!b) (chk (b||!b) (chk (b||!b) (chk (b||!b) (chk (b||!b) k)))):=rfl
def Af_e {ρ:Type} (b:Bool) (k:Option ρ):Af b k=k:=by cases b<;>rfl
def Ag_r {ρ:Type} (b:Bool) (k:Option ρ):Ag b k=chk (b||!b) (chk (b||!b) (chk (b||!b) (chk (b||!b) (chk (b||!b) (chk (b||!b) k))))):=rfl
def Ag_e {ρ:Type} (b:Bool) (k:Option ρ):Ag b k=k:=by cases b<;>rfl
def Ah_r {ρ:Type} (b:Bool) (k:Option ρ):Ah b k=chk (bif b then b else true) (chk (bif b then true else true) k):=rfl
def Ah_e {ρ:Type} (b:Bool) (k:Option ρ):Ah b k=k:=by cases b<;>rfl
def Ai_r {ρ:Type} (b:Bool) (k:Option ρ):Ai b k=chk (bif b then true else !b) (chk (bif b then true else true) k):=rfl
def Ai_e {ρ:Type} (b:Bool) (k:Option ρ):Ai b k=k:=by cases b<;>rfl
def Aj_r {ρ:Type} (i:Int) (n:Nat) (k:Option ρ):Aj i n k=chk (decide (0<=i)) (chk (decide (i<(n:Int))) k):=rfl
def Aj_e {ρ:Type} (i:Int) (n:Nat) (k:Option ρ):Aj i n k=chk (decide (0<=i)) (chk (decide (i<(n:Int))) k):=rfl
def Ak_r {ρ:Type} (p:Prop) [Decidable p] (k:Option ρ):Ak p k=chk (decide p) k:=rfl
def Ak_e {ρ:Type} (p:Prop) [Decidable p] (k:Option ρ):Ak p k=chk (decide p) k:=rfl
def Am_r {ρ:Type} (n:Nat) (k:Option ρ):Am n k=chk (decide (n<=140737488355328)) k:=rfl
def Am_e {ρ:Type} (n:Nat) (k:Option ρ):Am n k=chk (decide (n<=140737488355328)) k:=rfl
def CY_e {a b c d e:Type} (x:a×b×c×d×e):CY x=x.2.2.2.2:=rfl
def CZ_e {a b c d e f g h i:Type} (x:a×b×c×d×e×f×g×h×i):CZ x=x.2.2.2.2.2.2.2.2:=rfl
def Dc_e {a b c d e f g h i j k l m:Type} (x:a×b×c×d×e×f×g×h×i×j×k×l×m):Dc x=x.2.2.2.2.2.2.2.2.2.2.2.2:=rfl
def Df_e {a b c d e f g h i j k l m n o p q:Type} (x:a×b×c×d×e×f×g×h×i×j×k×l×m×n×o×p×q):Df x=x.2.2.2.2.2.2.2.2.2.2.2.2.2.2.2.2:=rfl
def Dh_e {a b c d e f g h i j k l m n o p q r s t u:Type} (x:a×b×c×d×e×f×g×h×i×j×k×l×m×n×o×p×q×r×s×t×u):Dh x=x.2.2.2.2.2.2.2.2.2.2.2.2.2.2.2.2.2.2.2.2:=rfl
def Di_e {a b c d e f g h i j k l m n o p q r s t u v w x y:Type} (x:a×b×c×d×e×f×g×h×i×j×k×l×m×n×o×p×q×r×s×t×u×v×w×x×y):Di x=x.2.2.2.2.2.2.2.2.2.2.2.2.2.2.2.2.2.2.2.2.2.2.2.2:=rfl
def Dj_e {a b c d e f g h i j k l m n o p q r s t u v w x y z A B C:Type} (x:a×b×c×d×e×f×g×h×i×j×k×l×m×n×o×p×q×r×s×t×u×v×w×x×y×z×A×B×C):Dj x=x.2.2.2.2.2.2.2.2.2.2.2.2.2.2.2.2.2.2.2.2.2.2.2.2.2.2.2.2:=rfl
def Ap:=And.intro @Dj_e (And.intro @Di_e (And.intro @Dh_e (And.intro @Df_e (And.intro @Dc_e (And.intro @CZ_e (And.intro @CY_e (And.intro @Am_r (And.intro @Ak_r (And.intro @Aj_r (And.intro @Ai_r (And.intro @Ah_r (And.intro @Ag_r (And.intro @Af_r (And.intro @Ae_r (And.intro @Ad_r (And.intro @Ac_r (@Aa_r)))))))))))))))))
def clR:=And.intro @Dj_e (And.intro @Di_e (And.intro @Dh_e (And.intro @Df_e (And.intro @Dc_e (And.intro @CZ_e (And.intro @CY_e (And.intro @Am_e (And.intro @Ak_e (And.intro @Aj_e (And.intro @Ai_e (And.intro @Ah_e (And.intro @Ag_e (And.intro @Af_e (And.intro @Ae_e (And.intro @Ad_e (And.intro @Ac_e (And.intro @Aa_e (And.intro @XO (And.intro @Jc (And.intro @IW (And.intro @IX (And.intro @II (And.intro @Hr (And.intro @Iq (And.intro @Bool.not_not (And.intro @Ju (And.intro @EP (And.intro @DZ (And.intro @H5 (@IJ.{1}))))))))))))))))))))))))))))))
def JV {ρ :Type} {c:Bool} (k:Option ρ) (h:c=true:=by kernel_rfl):chk c k=k:=by rw[h];rfl
def Ny (c:UInt8):c.toNat<256:=Gz c
theorem getD_lt {α :Type} (l:List α) (i:Nat) (d: α) (h:i<l.length:=by omega):l.getD i d=l[i]:=by rw[Dn,D8 h];rfl
theorem Ao8 {α :Type} {p: α ->Bool} {l:List α} (h:l.all p=true) {i:Nat} (hi:i<l.length):p l[i]=true:=DI.1 h _ (Ej hi)
def Ub {E S ρ :Type} (step:E->S->Option ρ ⊕ S) (fin:S->Option ρ):List E->S->Option ρ
 | [],s=>fin s
 | e::r,s=>match step e s with
  | .inl x=>x
  | .inr s'=>Ub step fin r s'
def AbB {X S ρ :Type} (b:(X->Option ρ)->Option ρ) (nx:S->X) (I:S->Prop):Option ρ ⊕ S->Prop
 | .inl x=> ∀ k,b k=x
 | .inr s'=>(∀ k,b k=k (nx s'))/\I s'
def bH {X Y S E ρ :Type} {B:X->(X->Option ρ)->(Y->Option ρ)->Option ρ} {kx:Y->Option ρ} (mk:Int->S->X) (l:List E) (d:E) (I:Nat->S->Prop) (step:E->S->Option ρ ⊕ S) (fin:S->Option ρ)
 (h: ∀(i:Nat) (s:S),i<l.length->I i s->AbB (λk=>B (mk (i:Int) s) k kx) (mk ((i:Int)+1)) (I (i+1)) (step (l.getD i d) s))
 (hend: ∀(s:S) (k:X->Option ρ),I l.length s->B (mk (l.length:Int) s) k kx=fin s) (N:Nat) (s:S) (h0:I 0 s) (hN:l.length<N:=by omega):Jy B N (mk 0 s) kx=Ub step fin l s:=by
 have key: ∀(n i:Nat) (s:S),I i s->i<=l.length->l.length - i<n->Jy B n (mk (i:Int) s) kx=Ub step fin (l.drop i) s:=by
  intro n
  induction n with
  | zero=>intro i s _ _ h;omega
  | succ n ih =>
   intro i s hI hi hn;rw[KL];by_cases hl:i<l.length
   .have h1:=h i s hl hI;rw[EN hl];show _=(match step l[i] s with | .inl x=>x | .inr s'=>Ub step fin (l.drop (i+1)) s');rw[show l.getD i d=l[i] by simp [Dn,hl]]at h1;cases hs:step l[i] s with
    | inl x=>rw[hs]at h1;exact h1 _
    | inr s' =>rw[hs]at h1;obtain⟨h2,h3⟩:=h1;exact(h2 _).trans (ih (i+1) _ h3 (by omega) (by omega))
   .have:i=l.length:=by omega
    subst this;rw[hend s _ hI,GG];rfl
 exact key N 0 s h0 (by omega) (by omega)
def OI {X Y S E ρ :Type} {B:X->(X->Option ρ)->(Y->Option ρ)->Option ρ} {kx:Y->Option ρ} (mk:Int->S->X) (out:S->Y) (l:List E) (d:E) (I:Nat->S->Prop) (step:E->S->Option ρ ⊕ S)
 (h: ∀(i:Nat) (s:S),i<l.length->I i s->AbB (λk=>B (mk (i:Int) s) k kx) (mk ((i:Int)+1)) (I (i+1)) (step (l.getD i d) s))
 (hend: ∀(s:S) (k:X->Option ρ),I l.length s->B (mk (l.length:Int) s) k kx=kx (out s)) (N:Nat) (s:S) (h0:I 0 s) (hN:l.length<N:=by omega):Jy B N (mk 0 s) kx=Ub step (λs=>kx (out s)) l s :=
 bH mk l d I step _ h hend N s h0 hN
def Ri {α β :Type} (f: α ->Option β):List α ->Option (List β)
 | []=>some []
 | a::r=>match f a,Ri f r with
  | some b,some t=>some (b::t)
  | _,_=>none
def gW {E β S ρ :Type} (f:E->Option β) (g:S-> β ->S) (bad:Option ρ) (e:E) (s:S):Option ρ ⊕ S:=(f e).elim (.inl bad) (λb=>.inr (g s b))
def AvB {X E β S ρ :Type} {f:E->Option β} {g:S-> β ->S} {bad:Option ρ} {e:E} {s:S} {b:(X->Option ρ)->Option ρ} {nx:S->X} {I:S->Prop} (h1:f e=none-> ∀ k,b k=bad) (h2: ∀ v,f e=some v->(∀ k,b k=k (nx (g s v)))/\I (g s v)):AbB b nx I (gW f g bad e s):=by
 unfold gW;cases h:f e with
 | none=>exact h1 h
 | some v=>exact h2 v h
def AmV {E β S ρ :Type} (f:E->Option β) (g:S-> β ->S) (bad:Option ρ) (fin:S->Option ρ): ∀(l:List E) (s:S),Ub (gW f g bad) fin l s=(Ri f l).elim bad (λbs=>fin (bs.foldl g s)):=by
 intro l
 induction l with
 | nil=>intro s;rfl
 | cons e r ih =>
  intro s;have h1:gW f g bad e s=(f e).elim (.inl bad) (λb=>.inr (g s b)):=rfl;unfold Ub Ri;rw[h1];cases f e with
  | none=>rfl
  | some b =>show Ub (gW f g bad) fin r (g s b)=_;rw[ih];cases Ri f r<;>rfl
def AsB {α β :Type} (h: α -> β): ∀(l:List α) (a:List β),l.foldl (λa x=>a++[h x]) a=a++l.map h:=by
 intro l
 induction l with
 | nil=>intro a;simp
 | cons x r ih=>intro a;rw[List.foldl_cons,ih];simp
def Aei {α β :Type} {f: α ->Option β}: ∀ {l:List α} {r:List β},Ri f l=some r->r.length=l.length:=by
 intro l
 induction l with
 | nil=>intro r h;injection h with h;subst h;rfl
 | cons a t ih =>
  intro r h;unfold Ri at h;split at h
  .rename_i b q h1 h2;injection h with h;subst h;simp [ih h2]
  .cases h
def Vx {a b:Int} {q:Decidable (a<b)} (h:a<b:=by omega): @decide (a<b) q=true:= @Dk _ q h
def Vw {a b:Int} {q:Decidable (a<b)} (h:b<=a:=by omega): @decide (a<b) q=false:= @Dq _ q (by omega)
def Sv {a b:Int} {q:Decidable (a<=b)} (h:a<=b:=by omega): @decide (a<=b) q=true:= @Dk _ q h
def AvZ {a b:Int} {q:Decidable (a<=b)} (h:b<a): @decide (a<=b) q=false:= @Dq _ q (by omega)
def Afc {a b:Int} {q:Decidable (a>b)} (h:b<a): @decide (a>b) q=true:= @Dk _ q h
def Aky {a b:Int} {q:Decidable (a>b)} (h:a<=b): @decide (a>b) q=false:= @Dq _ q (by omega)
def AyI {a b:Int} {q:Decidable (a>=b)} (h:b<=a): @decide (a>=b) q=true:= @Dk _ q h
def AyH {a b:Int} {q:Decidable (a>=b)} (h:a<b): @decide (a>=b) q=false:= @Dq _ q (by omega)
def Ak8 {a b:Nat} {q:Decidable (a<b)} (h:a<b): @decide (a<b) q=true:= @Dk _ q h
def Ak7 {a b:Nat} {q:Decidable (a<b)} (h:b<=a): @decide (a<b) q=false:= @Dq _ q (by omega)
def Oz {a b:Nat} {q:Decidable (a<=b)} (h:a<=b:=by omega): @decide (a<=b) q=true:= @Dk _ q h
def AfO {a b:Nat} {q:Decidable (a<=b)} (h:b<a): @decide (a<=b) q=false:= @Dq _ q (by omega)
def TJ {a b:Int} (h:a=b):(a==b)=true:=by subst h;exact Es _
def QX {a b:Int} (h:a≠b:=by omega):(a==b)=false:=Ei h
def VB {a b:Int} (h:a≠b):(a != b)=true:=by unfold bne;rw[QX h];rfl
def iP {a b:Int} (h:a=b):(a != b)=false:=by unfold bne;rw[TJ h];rfl
def toNat_add (a b:Nat):((a:Int)+(b:Int)).toNat=a+b:=by omega
def toNat_sub (a b:Nat):((a:Int) - (b:Int)).toNat=a - b:=by omega
def Ar9 (a:Nat):((a:Int)+1).toNat=a+1:=by omega
def Ag0 (a:Nat):((a:Int) - 1).toNat=a - 1:=by omega
def JW (a:Nat):((a:Int)+1)=((a+1:Nat):Int):=rfl
def AuU {α :Type} (a: α):(some a).isSome=true:=rfl
def getD_mem {α :Type} {l:List α} {i:Nat} (d: α) (h:i<l.length):l.getD i d∈l:=by rw[getD_lt l i d h];exact Ej h
def Tt {R S ρ :Type} (x:R ⊕ S) (ret:R->Option ρ) (k:S->Option ρ):Option ρ :=match x with
 | .inl r=>ret r
 | .inr s=>k s
def AwC {R S ρ :Type} (r:R) (ret:R->Option ρ) (k:S->Option ρ):Tt (.inl r) ret k=ret r:=rfl
def AgO {R S ρ :Type} (s:S) (ret:R->Option ρ) (k:S->Option ρ):Tt (.inr s) ret k=k s:=rfl
def Sr {R S ρ :Type} (b:Bool) (x y:R ⊕ S) (ret:R->Option ρ) (k:S->Option ρ):Tt (bif b then x else y) ret k=bif b then Tt x ret k else Tt y ret k:=by cases b<;>rfl
def Asp {R S ρ :Type} (b:Prop) [Decidable b] (x y:R ⊕ S) (ret:R->Option ρ) (k:S->Option ρ):Tt (if b then x else y) ret k=if b then Tt x ret k else Tt y ret k:=by split<;>rfl
def Afb {R S ρ :Type} (x:R ⊕ S) (f:R-> ρ) (g:S-> ρ):Tt x (λr=>some (f r)) (λs=>some (g s))=some (x.elim f g):=by cases x<;>rfl
def Pn {E R S:Type} (step:E->S->R ⊕ S):List E->S->R ⊕ S
 | [],s=>.inr s
 | e::r,s=>match step e s with
  | .inl x=>.inl x
  | .inr s'=>Pn step r s'
def AsZ {E R S:Type} (step:E->S->R ⊕ S) (s:S):Pn step [] s= .inr s:=rfl
def NG {E R S:Type} (step:E->S->R ⊕ S) (e:E) (l:List E) (s:S):Pn step (e::l) s=(step e s).elim Sum.inl (λs'=>Pn step l s'):=by simp only[Pn];cases step e s<;>rfl
def Uj {X Y S E R ρ :Type} {B:X->(X->Option ρ)->(Y->Option ρ)->Option ρ} {kx:Y->Option ρ} (mk:Nat->S->X) (l:List E) (d:E) (I:Nat->S->Prop) (step:E->S->R ⊕ S) (ret:R->Option ρ) (fin:S->Option ρ)
 (h: ∀(i:Nat) (s:S),i<l.length->I i s-> ∀ k,B (mk i s) k kx=Tt (step (l.getD i d) s) ret λs'=>k (mk (i+1) s'))
 (hI: ∀(i:Nat) (s s':S),i<l.length->I i s->step (l.getD i d) s= .inr s'->I (i+1) s')
 (hend: ∀(s:S) (k:X->Option ρ),I l.length s->B (mk l.length s) k kx=fin s) (N:Nat) (s:S) (h0:I 0 s) (hN:l.length<N):Jy B N (mk 0 s) kx=Tt (Pn step l s) ret fin:=by
 have key: ∀(n i:Nat) (s:S),I i s->i<=l.length->l.length - i<n->Jy B n (mk i s) kx=Tt (Pn step (l.drop i) s) ret fin:=by
  intro n
  induction n with
  | zero=>intro i s _ _ h;omega
  | succ n ih =>
   intro i s hi hil hn;rw[KL];by_cases hl:i<l.length
   .rw[h i s hl hi,EN hl];have hs:=hI i s;rw[show l.getD i d=l[i]from getD_lt l i d hl]at *
    rw[NG];cases hst:step l[i] s with
    | inl x=>rfl
    | inr s'=>exact ih (i+1) _ (hs _ hl hi hst) (by omega) (by omega)
   .have:i=l.length:=by omega
    subst this;rw[hend s _ hi,GG];rfl
 exact key N 0 s h0 (by omega) (by omega)
def QM {X Y S E R ρ :Type} {B:X->(X->Option ρ)->(Y->Option ρ)->Option ρ} {kx:Y->Option ρ} (mk:Nat->S->X) (l:List E) (d:E) (step:E->S->R ⊕ S) (ret:R->Option ρ) (fin:S->Option ρ)
 (h: ∀(i:Nat) (s:S),i<l.length-> ∀ k,B (mk i s) k kx=Tt (step (l.getD i d) s) ret λs'=>k (mk (i+1) s'))
 (hend: ∀(s:S) (k:X->Option ρ),B (mk l.length s) k kx=fin s) (N:Nat) (s:S) (hN:l.length<N:=by omega):Jy B N (mk 0 s) kx=Tt (Pn step l s) ret fin :=
 Uj mk l d (λ_ _=>True) step ret fin (λi s hi _=>h i s hi) (λ_ _ _ _ _ _=>trivial) (λs k _=>hend s k) N s trivial hN
def AmX {X Y E ρ :Type} {B:X->(X->Option ρ)->(Y->Option ρ)->Option ρ} {kx:Y->Option ρ} (mk:Nat->X) (out:Nat->Y) (l:List E) (d:E) (p:E->Bool)
 (h: ∀(i:Nat) (k:X->Option ρ),i<l.length->B (mk i) k kx=bif p (l.getD i d)then kx (out i)else k (mk (i+1)))
 (hend: ∀ k:X->Option ρ,B (mk l.length) k kx=kx (out l.length)) (N:Nat) (hN:l.length<N):Jy B N (mk 0) kx=kx (out (l.findIdx p)):=by
 have key: ∀(n i:Nat),i<=l.length->l.length - i<n->Jy B n (mk i) kx=kx (out (i+(l.drop i).findIdx p)):=by
  intro n
  induction n with
  | zero=>intro i _ h;omega
  | succ n ih =>
   intro i hi hn;rw[KL];by_cases hl:i<l.length
   .rw[h i _ hl,EN hl,Gx,show l.getD i d=l[i]from getD_lt l i d hl];cases p l[i]with
    | true=>rfl
    | false =>rw[cond_false,cond_false,ih (i+1) (by omega) (by omega)];congr 2;omega
   .have:i=l.length:=by omega
    subst this;rw[hend,GG];rfl
 have:=key N 0 (Eb _) (by omega);rwa [DV,G5]at this
def Al2 {E:Type} (p:E->Bool): ∀ l:List E,(∀ x∈l,p x=false)->l.findIdx p=l.length:=by
 intro l
 induction l with
 | nil=>intro _;rfl
 | cons x r ih =>intro h;rw[Gx,h x Dy,ih (λy hy=>h y (Dz _ hy))];rfl
def Aqj {E:Type} (p:E->Bool): ∀(a:List E) (x:E) (r:List E),(∀ x∈a,p x=false)->p x=true->(a++x::r).findIdx p=a.length:=by
 intro a
 induction a with
 | nil=>intro x r _ h;rw[List.nil_append,Gx,h];rfl
 | cons y a ih =>intro x r h hx;rw[List.cons_append,Gx,h y Dy,ih x r (λy hy=>h y (Dz _ hy)) hx];rfl
def AaA {E R:Type} (p:E->Bool) (r:R): ∀ l:List E,Pn (λe (_:Unit)=>bif p e then .inr ()else .inl r) l ()=bif l.all p then .inr ()else .inl r:=by
 intro l
 induction l with
 | nil=>rfl
 | cons e t ih =>
  rw[NG,List.all_cons];cases p e with
  | true=>exact ih
  | false=>rfl
def AiA {E R:Type} (p:E->Bool) (r:R): ∀ l:List E,Pn (λe (_:Unit)=>bif p e then .inl r else .inr ()) l ()=bif l.any p then .inl r else .inr ():=by
 intro l
 induction l with
 | nil=>rfl
 | cons e t ih =>
  rw[NG,List.any_cons];cases p e with
  | true=>rfl
  | false=>exact ih
def AnK {E:Type} (f:E->Int): ∀ l:List E,Pn (λe (_:Unit)=>bif f e != 0 then .inl (f e)else .inr ()) l ()=bif Kw f l != 0 then .inl (Kw f l)else .inr ():=by
 intro l
 induction l with
 | nil=>rfl
 | cons e t ih =>
  rw[NG];unfold Kw;by_cases h:f e=0
  .rw[h,show((0:Int) != 0)=false from rfl];exact ih
  .rw[Du h,show(f e != 0)=true from EM.2 h];rfl
def wE {n i:Nat} (h:i<n):(List.range n).getD i 0=i:=by rw[getD_lt _ _ _ (by rw[DW];exact h),Jl]
section
variable {X Y E ρ :Type} {B:X->(X->Option ρ)->(Y->Option ρ)->Option ρ} {kx:Y->Option ρ}
def Uh (mk:Nat->X) (l:List E) (d:E) (f:E->Int) (ret:Int->Option ρ) (fin:Option ρ)
 (h: ∀ i,i<l.length-> ∀ k,B (mk i) k kx=bif f (l.getD i d) != 0 then ret (f (l.getD i d))else k (mk (i+1)))
 (hend: ∀ k,B (mk l.length) k kx=fin) (N:Nat) (hN:l.length<N:=by omega):Jy B N (mk 0) kx=bif Kw f l != 0 then ret (Kw f l)else fin:=by
 refine Ey (QM (S:=Unit) (R:=Int) (mk:=λi _=>mk i) l d (λe _=>bif f e != 0 then .inl (f e)else .inr ()) ret (λ_=>fin) ?_ (λ_ k=>hend k) N () hN) ?_
 .intro i _ hi k;rw[h i hi,Sr];rfl
 .rw[AnK,Sr];rfl
def Ut (mk:Nat->X) (n:Nat) (f:Nat->Int) (ret:Int->Option ρ) (fin:Option ρ)
 (h: ∀ i,i<n-> ∀ k,B (mk i) k kx=bif f i != 0 then ret (f i)else k (mk (i+1)))
 (hend: ∀ k,B (mk n) k kx=fin) (N:Nat) (hN:n<N:=by omega):Jy B N (mk 0) kx=bif Kw f (List.range n) != 0 then ret (Kw f (List.range n))else fin:=by
 refine Uh mk (List.range n) 0 f ret fin ?_ ?_ N (by rw[DW];exact hN)
 .intro i hi k;rw[DW]at hi;rw[wE hi];exact h i hi k
 .intro k;rw[DW];exact hend k
def QR (mk:Nat->X) (l:List E) (d:E) (p:E->Bool) (x fin:Option ρ)
 (h: ∀ i,i<l.length-> ∀ k,B (mk i) k kx=bif p (l.getD i d)then x else k (mk (i+1)))
 (hend: ∀ k,B (mk l.length) k kx=fin) (N:Nat) (hN:l.length<N:=by omega):Jy B N (mk 0) kx=bif l.any p then x else fin:=by
 refine Ey (QM (S:=Unit) (R:=Unit) (mk:=λi _=>mk i) l d (λe _=>bif p e then .inl ()else .inr ()) (λ_=>x) (λ_=>fin) ?_ (λ_ k=>hend k) N () hN) ?_
 .intro i _ hi k;rw[h i hi,Sr];rfl
 .rw[AiA,Sr];rfl
end
def first_some (e:Int):(bif e != 0 then some e else some 0)=some e:=by
 by_cases h:e=0
 .subst h;rfl
 .rw[show(e != 0)=true from EM.2 h];rfl
def JX {α :Type} (b:Bool) (x y: α):(bif b then some x else some y)=some (bif b then x else y):=by cases b<;>rfl
def Ajl {E:Type} (f:E->Int): ∀ a b:List E,Kw f (a++b)=bif Kw f a != 0 then Kw f a else Kw f b:=by
 intro a
 induction a with
 | nil=>intro b;rfl
 | cons x r ih =>
  intro b;show(if f x≠0 then f x else Kw f (r++b))=bif (if f x≠0 then f x else Kw f r) != 0 then(if f x≠0 then f x else Kw f r)else Kw f b;by_cases h:f x=0
  .rw[Dt (λhn=>hn h),Dt (λhn=>hn h)];exact ih b
  .rw[Du h,Du h,show(f x != 0)=true from EM.2 h];rfl
theorem PS {E:Type} (f:E->Int) (x:E) (r:List E):Kw f (x::r)=bif f x != 0 then f x else Kw f r:=by
 show(if f x≠0 then f x else Kw f r)=_;by_cases h:f x=0
 .rw[Dt (λhn=>hn h),h];rfl
 .rw[Du h,show(f x != 0)=true from EM.2 h];rfl
def AiT {α :Type} (l:List α) (d: α) {i j:Nat} (h:j<i):(l.take i).getD j d=l.getD j d:=by rw[Dn,Gg,Du h,<- Dn]
def VD {α :Type} (l:List α) (i:Nat):J4 l 0 i=l.take i:=rfl
section
variable {X Y E A ρ :Type} {B:X->(X->Option ρ)->(Y->Option ρ)->Option ρ} {kx:Y->Option ρ}
def AqA (er:E->Int) (g:E->A): ∀(l:List E) (acc:List A),Pn (λe (acc:List A)=>bif er e != 0 then Sum.inl (er e)else Sum.inr (acc++[g e])) l acc=bif Kw er l != 0 then .inl (Kw er l)else .inr (acc++l.map g):=by
 intro l
 induction l with
 | nil=>intro acc;rw[Fg,DT];rfl
 | cons e r ih =>
  intro acc;rw[NG,PS];cases h:er e != 0 with
  | true=>rw[cond_true,cond_true,h];rfl
  | false =>rw[cond_false,cond_false];show Pn _ r (acc++[g e])=_;rw[ih,Ea];rfl
def Al9 (mk:Nat->List A->X) (l:List E) (d:E) (er:E->Int) (g:E->A) (ret:Int->Option ρ) (fin:List A->Option ρ)
 (h: ∀(i:Nat) (acc:List A),i<l.length->acc.length=i-> ∀ k,B (mk i acc) k kx=bif er (l.getD i d) != 0 then ret (er (l.getD i d))else k (mk (i+1) (acc++[g (l.getD i d)])))
 (hend: ∀(acc:List A) (k:X->Option ρ),acc.length=l.length->B (mk l.length acc) k kx=fin acc) (N:Nat) (hN:l.length<N):Jy B N (mk 0 []) kx=bif Kw er l != 0 then ret (Kw er l)else fin (l.map g):=by
 refine(Uj (S:=List A) (R:=Int) mk l d (λi acc=>acc.length=i) (λe acc=>bif er e != 0 then .inl (er e)else .inr (acc++[g e])) ret fin ?_ ?_ (λacc k ha=>hend acc k ha) N [] rfl hN).trans ?_
 .intro i acc hi ha k;rw[h i acc hi ha,Sr];rfl
 .intro i acc acc' hi ha he;cases hb:er (l.getD i d) != 0 with
  | true=>rw[hb]at he;cases he
  | false =>rw[hb]at he;injection he with he;subst he;rw[Dp,ha];rfl
 .rw[AqA,Sr,List.nil_append];rfl
def Al3: ∀ l:List E,Kw (λ_=>(0:Int)) l=0:=by
 intro l
 induction l with
 | nil=>rfl
 | cons e r ih=>rw[PS];exact ih
def Tf (mk:Nat->List A->X) (l:List E) (d:E) (g:E->A) (fin:List A->Option ρ)
 (h: ∀(i:Nat) (acc:List A),i<l.length->acc.length=i-> ∀ k,B (mk i acc) k kx=k (mk (i+1) (acc++[g (l.getD i d)])))
 (hend: ∀(acc:List A) (k:X->Option ρ),acc.length=l.length->B (mk l.length acc) k kx=fin acc) (N:Nat) (hN:l.length<N:=by omega):Jy B N (mk 0 []) kx=fin (l.map g):=by
 refine(Al9 mk l d (λ_=>0) g (λ_=>none) fin (λi acc hi ha k=>h i acc hi ha k) hend N hN).trans ?_;rw[Al3];rfl
def Aiz (g:E->Bs) (l:List E) (d:E) {i:Nat} (h:i<l.length):((l.take i).map g).flatten++g (l.getD i d)=((l.take (i+1)).map g).flatten:=by rw[getD_lt l i d h,EY,D8 h,Fb,FX];simp
def AwM (g:E->Bs) (l:List E) (i:Nat):((l.take i).map g).flatten.length<=(l.map g).flatten.length:=by
 conv=>rhs;rw[<- G6 i l,Fb,FX,Dp]
 omega
def tK (mk:Nat->Bs->X) (l:List E) (d:E) (er:E->Int) (g:E->Bs) (ret:Int->Option ρ) (fin:Bs->Option ρ)
 (h: ∀(i:Nat) (t:Bs),i<l.length->t.length+(g (l.getD i d)).length<=(l.map g).flatten.length-> ∀ k,B (mk i t) k kx=bif er (l.getD i d) != 0 then ret (er (l.getD i d))else k (mk (i+1) (t++g (l.getD i d))))
 (hend: ∀(t:Bs) (k:X->Option ρ),B (mk l.length t) k kx=fin t) (N:Nat) (hN:l.length<N:=by omega):Jy B N (mk 0 []) kx=bif Kw er l != 0 then ret (Kw er l)else fin (l.map g).flatten:=by
 refine(Uj (S:=Bs) (R:=Int) mk l d (λi t=>t=((l.take i).map g).flatten) (λe t=>bif er e != 0 then .inl (er e)else .inr (t++g e)) ret fin ?_ ?_ (λt k _=>hend t k) N [] rfl hN).trans ?_
 .intro i t hi ht k;rw[h i t hi ?_,Sr]
  .rfl
  .rw[ht,<- Dp,Aiz g l d hi];exact AwM g l (i+1)
 .intro i t t' hi ht he;cases hb:er (l.getD i d) != 0 with
  | true=>rw[hb]at he;cases he
  | false =>rw[hb]at he;injection he with he;rw[<- he,ht,Aiz g l d hi]
 .have: ∀(l:List E) (t:Bs),Pn (λe (t:Bs)=>bif er e != 0 then Sum.inl (er e)else Sum.inr (t++g e)) l t=bif Kw er l != 0 then .inl (Kw er l)else .inr (t++(l.map g).flatten):=by
   intro l
   induction l with
   | nil=>intro t;simp [AsZ,Kw]
   | cons e r ih =>
    intro t;rw[NG,PS];cases h:er e != 0 with
    | true=>rw[cond_true,cond_true,h];rfl
    | false=>rw[cond_false,cond_false,Em,List.flatten_cons,<- Ea,<- ih];rfl
  rw[this,Sr,List.nil_append];rfl
def Zf (mk:Nat->Bs->X) (l:List E) (d:E) (g:E->Bs) (fin:Bs->Option ρ)
 (h: ∀(i:Nat) (t:Bs),i<l.length->t.length+(g (l.getD i d)).length<=(l.map g).flatten.length-> ∀ k,B (mk i t) k kx=k (mk (i+1) (t++g (l.getD i d))))
 (hend: ∀(t:Bs) (k:X->Option ρ),B (mk l.length t) k kx=fin t) (N:Nat) (hN:l.length<N:=by omega):Jy B N (mk 0 []) kx=fin (l.map g).flatten:=by
 refine(tK mk l d (λ_=>0) g (λ_=>none) fin (λi t hi ht k=>h i t hi ht k) hend N hN).trans ?_;rw[Al3];rfl
def VO {f:E->Int}: ∀ {l:List E},Kw f l=0-> ∀ e∈l,f e=0:=by
 intro l
 induction l with
 | nil=>intro _ e he;cases he
 | cons x r ih =>
  intro h e he;rw[PS]at h;cases hx:f x != 0 with
  | true=>rw[hx]at h;rw[show f x=0 from h]at hx;cases hx
  | false =>
   rw[hx]at h;rcases D7.1 he with rfl | he
   .simpa using hx
   .exact ih h e he
def Lp {g:E->Bs} {M:Nat}: ∀ {l:List E},(∀ e∈l,(g e).length<=M)->(l.map g).flatten.length<=M*l.length:=by
 intro l
 induction l with
 | nil=>intro _;simp
 | cons e r ih =>intro h;have h1:=h e Dy;have h2:=ih λe he=>h e (Dz _ he);rw[Em,List.flatten_cons,Dp,List.length_cons,Nat.mul_succ];omega
end
def Awt (x y:Bool):(!x|| !y&&x||y)=true:=by cases x<;>cases y<;>rfl
def mW (x y:Bool):(x|| !y&& !x||y)=true:=by cases x<;>cases y<;>rfl
def KN {α :Type} {c:Bool} {a x y: α} (h:c=false->x=y):(bif c then a else x)=bif c then a else y:=by
 cases c with
 | true=>rfl
 | false=>exact h rfl
set_option linter.defProp false in
def JD:=And.intro @XO (And.intro @OW (And.intro @Ju (And.intro @Js (And.intro @cond_true.{1} (And.intro @cond_false.{1} (And.intro @Vx (And.intro @Vw (And.intro @Sv (And.intro @AvZ (And.intro @Afc (And.intro @Aky (And.intro @AyI (And.intro @AyH (And.intro @Ak8 (And.intro @Ak7 (And.intro @Oz (And.intro @AfO (And.intro @TJ (And.intro @QX (And.intro @VB (And.intro @iP (And.intro @w64 (And.intro @Int.toNat_natCast (And.intro @toNat_add (And.intro @toNat_sub (And.intro @Ar9 (And.intro @Ag0 (And.intro @DZ (And.intro @EP (And.intro @EL (And.intro @EO (And.intro @ER (And.intro @GI (And.intro @EW (And.intro @IK (And.intro @ED (And.intro @EC (And.intro @Bool.not_not (And.intro @Hr (And.intro @Iq (And.intro @IJ.{1} (And.intro @Jc (And.intro @IW (And.intro @IX (And.intro @II (And.intro @H5 (And.intro @Gi (And.intro @AwC (And.intro @AgO (And.intro @Sr (And.intro @Asp (And.intro @U2.eq_1 (And.intro @U3.eq_1 (And.intro @U4.eq_1 (And.intro @U5.eq_1 (And.intro @U6.eq_1 (And.intro @U7.eq_1 (And.intro @U8.eq_1 (And.intro @U9.eq_1 (@U10.eq_1))))))))))))))))))))))))))))))))))))))))))))))))))))))))))))
end Go.Proofs.YtacidcemomccpaaGreatDoor.Vm
namespace Go.Proofs.YtacidcemomccpaaGreatDoor.Pl
open IntKind (i64 u8 u32 u64)
open Go Vm
def Z9 {α :Type} {P: α ->Prop} {l:List α} {x: α} (h: ∀ y∈l,P y) (hx:P x): ∀ y∈l++[x],P y:=by
 intro y hy;rcases DN.1 hy with hy | hy
 .exact h y hy
 .rw[Ec.1 hy];exact hx
def Ends {α :Type} (Q: α ->Prop) (o:Option α):Prop:= ∃ v,o=some v/\Q v
def KU {α :Type} {Q: α ->Prop} {v: α} (h:Q v):Ends Q (some v):=⟨v,rfl,h⟩
def JF {α ρ :Type} [Inhabited α] {P: α ->Prop} {Q: ρ ->Prop} {o:Option α} {k: α ->Option ρ} (h:Ends P o) (hk: ∀ v,P v->Ends Q (k v)):Ends Q (Jq o k):=by obtain⟨v,rfl,hv⟩:=h;exact hk v hv
def JK {ρ :Type} {Q: ρ ->Prop} {c:Bool} {k:Option ρ} (h:c=true) (hk:Ends Q k):Ends Q (Vm.chk c k):=by rw[h];exact hk
def Kt {ρ :Type} {Q: ρ ->Prop} {c:Bool} {x y:Option ρ} (h1:c=true->Ends Q x) (h2:c=false->Ends Q y):Ends Q (bif c then x else y):=by
 cases c with
 | true=>exact h1 rfl
 | false=>exact h2 rfl
def Aaw {α ρ :Type} {P: α ->Prop} {Q: ρ ->Prop} {A:(α ->Option ρ)->Option ρ} {f: α ->Option ρ} (hA: ∀ j: α ->Option ρ,(∀ x,P x->Ends Q (j x))->Ends Q (A j)) (hf: ∀ x,P x->Ends Q (f x)):Ends Q (Ld A f):=hA f hf
def Ou {X Y ρ :Type} {B:X->(X->Option ρ)->(Y->Option ρ)->Option ρ} {kx:Y->Option ρ} {Q: ρ ->Prop} (I:X->Prop) (μ :X->Nat)
 (h: ∀ x,I x-> ∀ k:X->Option ρ,(∀ x',I x'-> μ x'< μ x->Ends Q (k x'))->Ends Q (B x k kx)) (N:Nat) (x:X) (hI:I x) (hm: μ x<N):Ends Q (Jy B N x kx):=S9 I μ (Ends Q) h N x hI hm
def AsH {α :Type} {P Q: α ->Prop} {o:Option α} (h:Ends P o) (hq: ∀ v,P v->Q v):Ends Q o:=by obtain⟨v,rfl,hv⟩:=h;exact⟨v,rfl,hq v hv⟩
def KJ (L:List Int) (d:List Int×Int):Prop:= ∃ k:Nat,d=(L,(k:Int))/\k<=L.length
def Ate (N:Nat) {L:List Int} (hL:L.length<=9223372036854775807) {d:List Int×Int} (hd:KJ L d) (n:Nat) (hn:0<n) (hn':n<2147483648) :
 Ends (λr=>0<=r.1/\r.1<(n:Int)/\KJ L r.2) (JE N d (n:Int)):=by
 obtain⟨k,rfl,hk⟩:=hd;unfold JE;try simp -zeta only[Ap]
 try dsimp only
 by_cases h:k<L.length
 .rw[Xa,A0g,w64 (x:=(k:Int)+1),w64 (x:=(k:Int)+1 - 1),qI,A0h,qI,A0h];generalize L.getD _ _=x;have hne:((n:Int) != 0)=true:=by simp;omega
  rw[hne,Ju,Ju];have h1:=Jm x (show(0:Int)<(n:Int) by omega);have h2: -(n:Int)<x.tmod (n:Int):=Int.lt_tmod_of_pos x (by omega);rw[w64 (x:=x.tmod (n:Int)+(n:Int))];have h3:0<=(x.tmod (n:Int)+(n:Int)).tmod (n:Int):=Int.tmod_nonneg _ (by omega);have h4:=Jm (x.tmod (n:Int)+(n:Int)) (show(0:Int)<(n:Int) by omega);refine⟨_,rfl,h3,h4,k+1,by rw[show((k+1:Nat):Int)=(k:Int)+1 by omega],h⟩
 .rw[Xa,A0h];exact⟨_,rfl,F7 _,by show(0:Int)<n;omega,k,rfl,hk⟩
def Q7 {α :Type} {P: α ->Prop} {l:List α} {d: α} {i:Int} (h: ∀ x∈l,P x) (h0:0<=i) (hi:i<(l.length:Int)):P (l.getD i.toNat d):=h _ (getD_mem d (by omega))
section
variable (N:Nat) (hN:1048578<N) {L:List Int} (hL:L.length<=9223372036854775807)
include hL
theorem nx {d:List Int×Int} (hd:KJ L d) (n:Int) (h0:0<n) (h1:n<2147483648:=by omega):Ends (λr=>0<=r.1/\r.1<n/\KJ L r.2) (JE N d n):=by
 have:=Ate N hL hd n.toNat (by omega) (by omega)
 rw[show((n.toNat:Nat):Int)=n by omega]at this;exact this
end
section
variable (N:Nat) (hN:1048578<N)
include hN
omit hN in
theorem tt {α :Type} {o:Option α} {Q: α ->Prop} (h:Ends Q o):Ends (λ_=>True) o:=AsH h λ_ _=>trivial
end
end Go.Proofs.YtacidcemomccpaaGreatDoor.Pl
namespace Go.Proofs.YtacidcemomccpaaGreatDoor.Vm
open IntKind (i64 u8 u32 u64)
open Go
def Ky (c:UInt8):Bs->List Bs
 | []=>[[]]
 | b::r=>if b=c then []::Ky c r else match Ky c r with
  | []=>[[b]]
  | h::t=>(b::h)::t
def AiR (c:UInt8) (s:Bs):Ky c s≠ []:=by
 cases s with
 | nil=>simp [Ky]
 | cons b r =>
  unfold Ky;split
  .simp
  .split<;>simp
def aJ (c b:UInt8) (r:Bs) (h:b≠c):Ky c (b::r)=(b::(Ky c r).headD [])::(Ky c r).tail:=by
 have hn:=AiR c r;show(if b=c then _ else _)=_;rw[Dt h];cases hs:Ky c r with
 | nil=>exact absurd hs hn
 | cons x t=>rfl
def VV (c:UInt8): ∀(a r:Bs),c∉a->Ky c (a++c::r)=a::Ky c r:=by
 intro a
 induction a with
 | nil =>intro r _;show(if c=c then _ else _)=_;rw[Du rfl]
 | cons b a ih =>intro r h;have hb:b≠c:=λe=>h (by rw[e];exact Dy);have:=ih r (λhm=>h (Dz _ hm));show Ky c (b::(a++c::r))=_;rw[aJ _ _ _ hb,this];rfl
def aK (c:UInt8): ∀ a:Bs,c∉a->Ky c a=[a]:=by
 intro a
 induction a with
 | nil=>intro _;rfl
 | cons b a ih =>intro h;have hb:b≠c:=λe=>h (by rw[e];exact Dy);rw[aJ _ _ _ hb,ih (λhm=>h (Dz _ hm))];rfl
def index_none (c:UInt8): ∀ s:Bs,c∉s->Lib.index s [c]= -1:=by
 intro s
 induction s with
 | nil=>intro _;rfl
 | cons b r ih =>intro h;have hb: ¬ c=b:=λe=>h (by rw[e];exact Dy);have h2:=ih (λhm=>h (Dz _ hm));show(if List.isPrefixOf [c] (b::r)=true then(0:Int)else if Lib.index r [c]== -1 then -1 else Lib.index r [c]+1)= -1;rw[h2,Dt (by simp [List.isPrefixOf,hb])];rfl
def AdT (c:UInt8): ∀(a r:Bs),c∉a->Lib.index (a++c::r) [c]=(a.length:Int):=by
 intro a
 induction a with
 | nil =>intro r _;show(if List.isPrefixOf [c] (c::r)=true then(0:Int)else _)=_;rw[Du (by simp [List.isPrefixOf])];rfl
 | cons b a ih =>intro r h;have hb: ¬ c=b:=λe=>h (by rw[e];exact Dy);have h2:=ih r (λhm=>h (Dz _ hm));show(if List.isPrefixOf [c] (b::(a++c::r))=true then(0:Int)else if Lib.index (a++c::r) [c]== -1 then -1 else Lib.index (a++c::r) [c]+1)=_;rw[h2,Dt (by simp [List.isPrefixOf,hb]),Dt (by simp)];simp
def aY (c:UInt8) (s:Bs):c∉s\/ ∃ a r,s=a++c::r/\c∉a:=by
 induction s with
 | nil=>left;simp
 | cons b t ih =>
  by_cases hb:b=c
  .right;exact⟨[],t,by rw[hb];rfl,by simp⟩
  .rcases ih with h | ⟨a,r,h1,h2⟩
   .left;intro hm;rcases D7.1 hm with h3 | h3
    .exact hb h3.symm
    .exact h h3
   .right;refine⟨b::a,r,by rw[h1];rfl,λhm=> ?_⟩;rcases D7.1 hm with h3 | h3
    .exact hb h3.symm
    .exact h2 h3
def AtA (c:UInt8): ∀(n:Nat) (s:Bs),s.length<=n->Lib.splitK [c] 0 (Lib.count s [c]) s=Ky c s:=by
 intro n
 induction n with
 | zero =>intro s h;have:s=[]:=FU (by omega);subst this;rfl
 | succ n ih =>
  intro s h;rcases aY c s with hn | ⟨a,r,rfl,ha⟩
  .rw[Lib.count_miss (index_none c s hn),aK c s hn];rfl
  .have hi:=AdT c a r ha;rw[Lib.count_hit (by simp) hi,Nat.add_comm];show(if Lib.index (a++c::r) [c]== -1 then _ else _)=_;rw[hi,Dt (by simp),VV c a r ha];have e1:(a++c::r).take ((a.length:Int).toNat+0)=a:=by simp
   have e2:(a++c::r).drop ((a.length:Int).toNat+ [c].length)=r:=by rw[show((a.length:Int).toNat+ [c].length)=a.length+1 from by simp];rw[<- Fj,G7];rfl
   have e3:(a++c::r).drop (a.length+ [c].length)=r:=by rw[show(a.length+ [c].length)=a.length+1 from by simp,<- Fj,G7];rfl
   rw[e1,e2,e3,ih r (by simp at h;omega)]
theorem Ana (c:UInt8) (s:Bs):Lib.split s [c]=Ky c s:=AtA c s.length s (DD _)
def YU (c:UInt8): ∀ s:Bs,(Ky c s).length<=s.length+1/\0<(Ky c s).length/\ ∀ x∈Ky c s,x.length<=s.length:=by
 intro s
 induction s with
 | nil=>exact⟨by simp [Ky],by simp [Ky],by intro x hx;simp [Ky]at hx;simp [hx]⟩
 | cons b r ih =>
  obtain⟨h1,h2,h3⟩:=ih;by_cases hb:b=c
  .have e:Ky c (b::r)=[]::Ky c r:=by show(if b=c then _ else _)=_;rw[Du hb]
   rw[e];refine⟨by simp;omega,by simp,λx hx=> ?_⟩;rcases D7.1 hx with rfl | hx
   .simp
   .have:=h3 x hx;simp;omega
  .rw[aJ _ _ _ hb];cases hs:Ky c r with
   | nil=>rw[hs]at h2;simp at h2
   | cons y t =>
    rw[hs]at h1 h3;refine⟨by simp at h1 ⊢;omega,by simp,λx hx=> ?_⟩;rcases D7.1 hx with rfl | hx
    .have:=h3 y Dy;simp;omega
    .have:=h3 x (Dz _ hx);simp;omega
end Go.Proofs.YtacidcemomccpaaGreatDoor.Vm
namespace Go.Proofs.YtacidcemomccpaaGreatDoor.Pl
open IntKind (i64 u8 u32 u64)
open Go Vm
def MJ (c:UInt8):Bool:=decide (48<=c.toNat)&&decide (c.toNat<=57)
def PG (d:Bs):Nat:=d.foldl (λv c=>10*v+(c.toNat - 48)) 0
def Air (d:Bs) (c:UInt8):PG (d++[c])=10*PG d+(c.toNat - 48):=by simp [PG,Ig]
def AuA: ∀(d:Bs) (v k:Nat),d.all MJ=true->v<10 ^ k->d.foldl (λv c=>10*v+(c.toNat - 48)) v<10 ^ (k+d.length):=by
 intro d
 induction d with
 | nil=>intro v k _ h;exact h
 | cons c d ih =>intro v k h hv;rw[List.all_cons,Dw]at h;have h2:=h.1;unfold MJ at h2;simp only[Dw,D6]at h2;have:=ih (10*v+(c.toNat - 48)) (k+1) h.2 (by rw[Nat.pow_succ];omega);rw[List.length_cons,show k+(d.length+1)=k+1+d.length by omega];exact this
def AoI (d:Bs) (h:d.all MJ=true):PG d<10 ^ d.length:=by have:=AuA d 0 0 h (by decide);rwa [DV]at this
def AeE (d:Bs):Bool:= !(decide (d.length=0)||decide (10<d.length)||(decide ((d.getD 0 0).toNat=48)&&decide (1<d.length)))&&(d.all MJ&&decide (PG d<=2147483647))
def Ul (d:Bs):Option Nat:=if AeE d then some (PG d)else none
def Amq:Option Nat->Int
 | none=> -1
 | some n=>n
def Alj {c:Nat} (h1:48<=c) (h2:c<=57):i64.wrap (u8.wrap ((c:Int) - 48))=((c - 48:Nat):Int):=by grind[w8,w64]
def Aup {ρ :Type} (N:Nat) (s:Bs) (hs:s.length<=10) (hN:10<N) (bad:Option ρ) (fin:Int->Option ρ) :
 Jy (X:=Int×Int) (Y:=Int) (U2 λt3a t4a k7 x8 =>
  bif decide (t4a<(s.length:Int))then Vm.chk (decide ((0:Int)<=t4a)) (Vm.chk (decide (t4a<(s.length:Int)))
   (Vm.chk (decide ((0:Int)<=t4a)||decide (((s.getD t4a.toNat 0).toNat:Int)<(48:Int)))
     (Vm.chk (decide (t4a<(s.length:Int))||decide (((s.getD t4a.toNat 0).toNat:Int)<(48:Int)))
       (bif decide (((s.getD t4a.toNat 0).toNat:Int)<(48:Int))||decide (((s.getD t4a.toNat 0).toNat:Int)>(57:Int))then bad
        else Vm.chk (decide ((0:Int)<=t4a)) (Vm.chk (decide (t4a<(s.length:Int)))
         (k7 (i64.wrap ((i64.wrap ((10:Int)*t3a))+i64.wrap (u8.wrap (((s.getD t4a.toNat 0).toNat:Int) - (48:Int)))),i64.wrap (t4a+(1:Int)))))))))
  else x8 t3a) N (0,0) fin=if s.all MJ=true then fin ((PG s:Nat):Int)else bad:=by
 refine Nc (I:=λx=> ∃ i:Nat,x=(((PG (s.take i):Nat):Int),(i:Int))/\i<=s.length/\(s.take i).all MJ=true) (μ :=λx=>s.length - x.2.toNat) (λ_=>if s.all MJ=true then fin ((PG s:Nat):Int)else bad) ?_ N (0,0) ⟨0,rfl,by omega,rfl⟩ (by show s.length - 0<N;omega);rintro x ⟨i,rfl,hi,hd⟩ k hk;show(bif decide ((i:Int)<(s.length:Int))then _ else _)=_;by_cases hl:i<s.length
 .have hv:=AoI (s.take i) hd;have h10:(10:Nat) ^ (s.take i).length<=10 ^ 9:=GH (by decide) (by simp;omega);have hg:s.getD ((i:Int)).toNat 0=s[i]:=getD_lt s i 0 hl;rw[Dk,cond_true,hg,Dk (show(0:Int)<=(i:Int) by omega)];simp only[DZ,Ju];have htake:s.take (i+1)=s.take i++[s[i]]:=by rw[EY,D8 hl];rfl
  by_cases hc:MJ s[i]=true
  .have hc':=hc;unfold MJ at hc';simp only[Dw,D6]at hc';rw[A0f,A0f];simp only[H5,cond_false];rw[Alj hc'.1 hc'.2,w64 (x:=(10:Int)*((PG (s.take i):Nat):Int)),w64 (x:=(10:Int)*((PG (s.take i):Nat):Int)+_),w64 (x:=(i:Int)+1)];refine hk _ ⟨i+1,?_,by omega,by rw[htake,I5,hd];simpa using hc⟩ (by show s.length - ((i:Int)+1).toNat<s.length - ((i:Int)).toNat;omega);rw[htake,Air]
   push_cast
   rfl
  .grind[MJ,Ao8]
 .have:i=s.length:=by omega
  subst this;rw[A0f,cond_false];rw[E5]at hd;rw[Du hd,E5]
def AqN (N:Nat) (s:Bs) (hN:16<N):iH N s=some (Amq (Ul s)):=by
 unfold iH;try simp only[clR]
 by_cases h0:s.length=0
 .have:s=[]:=FU h0;subst this;rfl
 .have hne:(s==([]:Bs))=false:=by cases s with | nil=>exact absurd rfl h0 | cons _ _=>rfl
  rw[hne,Dk (show(0:Int)<(s.length:Int) by omega)];simp only[EL,DZ,Ju];unfold Ul AeE;by_cases h1:10<s.length
  .grind[Ju,Amq]
  .rw[Dq (show ¬((s.length:Int)>10) by omega),Dq h1,Dq h0];simp only[EO,EL,EC,ER,Iq,Ju];by_cases h2:(s.getD 0 0).toNat=48/\1<s.length
   .rw[show(((s.getD 0 0).toNat:Int)==48)=true from by rw[F8];omega,Dk (show(s.length:Int)>1 by omega),Dk h2.1,Dk h2.2];rfl
   .have e:((((s.getD 0 0).toNat:Int)==48)&&decide ((s.length:Int)>1))=false:=by
     rw[FM];simp only[beq_eq_false_iff_ne,Eo];omega
    have e':(decide ((s.getD 0 0).toNat=48)&&decide (1<s.length))=false:=by all_goals simp_all[Bs,iH,Amq,Ul]
    rw[e,e',cond_false];refine Ey (Aup N s (by omega) (by omega) _ _) ?_;by_cases h3:s.all MJ=true
    .rw[Du h3,h3];by_cases h4:PG s<=2147483647
     .rw[A0f,Dk h4];rfl
     .rw[Dk,Dq h4];rfl
    .rw[Dt h3,show s.all MJ=false by simpa using h3];rfl
def Xi (l:List Nat):Bool:=(decide (l.getD 0 0<=1)&&decide (l.getD 1 0<=39))||decide (l.getD 0 0=2)
def Nv (s:Bs):Option (List Nat) :=
 if(Ky 46 s).length<2\/12<(Ky 46 s).length then none
 else match Ri Ul (Ky 46 s)with
  | none=>none
  | some l=>if Xi l=true then some l else none
def ints (l:List Nat):List Int:=l.map fun(n:Nat)=>(n:Int)
def Avl:Option (List Nat)->List Int
 | none=>[]
 | some l=>ints l
def Aw5 {s:Bs} {n:Nat} (h:Ul s=some n):n<=2147483647:=by unfold Ul at h;split at h;all_goals grind[AeE]
def Avb {α β :Type} {f: α ->Option β}: ∀ {l:List α} {r:List β},Ri f l=some r-> ∀ b∈r,∃ a∈l,f a=some b:=by
 intro l
 induction l with
 | nil=>grind[Ri]
 | cons a t ih =>intro r h b hb;unfold Ri at h;split at h;all_goals grind[Ri]
def AnX (N:Nat) (a b:Nat):vP N (a:Int) (b:Int)=some ((decide (a<=1)&&decide (b<=39))||decide (a=2)):=by
 unfold vP;try simp only[clR]
 have e1:decide ((a:Int)<=1)=decide (a<=1):=by rw[Ht];omega
 have e2:decide ((b:Int)<=39)=decide (b<=39):=by rw[Ht];omega
 have e3:((a:Int)==2)=decide (a=2):=by rw[Fz,F8,D6];omega
 rw[e1,e2,e3]
def Adj (N:Nat) (s:Bs) (hN:16<N) (hs:s.length<=1048576):ZA N s=some (Avl (Nv s)):=by
 unfold ZA;try simp only[clR]
 have hsp:strings_Split N s [46]=some (Ky 46 s):=by all_goals grind[strings_Split,Ana]
 rw[hsp,Js];unfold Nv;have hlen:=YU 46 s;generalize hp:Ky 46 s=p at hlen ⊢;by_cases h1:p.length<2\/12<p.length
 .rw[Du h1,show(decide ((p.length:Int)<2)||decide ((p.length:Int)>12))=true by simp only[Ef,D6];omega];rfl
 .rw[Dt h1,show(decide ((p.length:Int)<2)||decide ((p.length:Int)>12))=false by simp only[Ff,Eo];omega,cond_false];refine Ey (OI (S:=List Int) (mk:=λi a=>(i,a)) (out:=λa=>a) p [] (λi a=>a.length=i) (gW Ul (λa v=>a++[(v:Int)]) (some [])) ?_ ?_ N [] rfl) ?_
  .intro i a hi ha;have hg:p.getD ((i:Int)).toNat []=p[i]:=getD_lt p i [] hi;rw[getD_lt p i [] hi];have key: ∀(K:Int->Option (List Int)),(Vm.chk (decide ((0:Int)<=(i:Int))) (Vm.chk (decide ((i:Int)<(p.length:Int))) (Jq (iH N (p.getD ((i:Int)).toNat [])) K)))=K (Amq (Ul p[i])):=by all_goals simp_all[Ju,AqN,Js,Bs,hs,ZA,Avl,Nv]
   refine AvB (λhv k=> ?_) (λv hv=>⟨λk=> ?_,by simp [ha]⟩)
   .dsimp only[U2];rw[key,hv,Dk (show(i:Int)<(p.length:Int) by omega)];rfl
   .dsimp only[U2];rw[key,hv,Dk (show(i:Int)<(p.length:Int) by omega),cond_true];rw[show Amq (some v)=(v:Int)from rfl,Dq (show ¬((v:Int)<0) by omega),cond_false,Dk (show(a.length+1)*9<=140737488355328 by omega),Ju,w64]
  .grind[U2]
  .rw[AmV];cases hm:Ri Ul p with
   | none=>rfl
   | some l =>
    have hl:=Aei hm;have hf:l.foldl (fun(a:List Int) (v:Nat)=>a++[(v:Int)]) []=l.map (fun(v:Nat)=>(v:Int)):=by rw[AsB,List.nil_append]
    dsimp only[Option.elim];rw[hf];have e1:(l.map (fun(v:Nat)=>(v:Int))).length=l.length:=D5 ..;rw[e1,Dk (show(0:Int)<(l.length:Int) by omega),Dk (show 0<l.length by omega),Dk (show(1:Int)<(l.length:Int) by omega),Dk (show 1<l.length by omega)];simp only[Ju];have g0:(l.map (fun(v:Nat)=>(v:Int))).getD 0 0=((l.getD 0 0:Nat):Int):=by rw[getD_lt _ 0 0 (by rw[e1];omega),getD_lt _ 0 0];simp
    have g1:(l.map (fun(v:Nat)=>(v:Int))).getD 1 0=((l.getD 1 0:Nat):Int):=by rw[getD_lt _ 1 0 (by rw[e1];omega),getD_lt _ 1 0];simp
    rw[g0,g1,AnX,Js];show(bif !(Xi l)then _ else _)=_;cases Xi l<;>rfl
def nU (cur:Bs) (out:List Nat):Option (List Nat):=if out.length=12 then none else(Ul cur).map λv=>out++[v]
def UH:Bs->List Nat->Bs->Option (List Nat)
 | cur,out,[]=>nU cur out
 | cur,out,c::r=>if c=46 then(nU cur out).bind λo=>UH [] o r else if MJ c=true then UH (cur++[c]) out r else none
def AiN (cur:Bs) (out:List Nat) (r:Bs):UH cur out (46::r)=(nU cur out).bind λo=>UH [] o r:=Du rfl
def AiL (cur:Bs) (out:List Nat) (c:UInt8) (r:Bs) (h1:c≠46) (h2: ¬ MJ c=true):UH cur out (c::r)=none:=by show(if c=46 then _ else if MJ c=true then _ else _)=_;rw[Dt h1,Dt h2]
def AiM (cur:Bs) (out:List Nat) (c:UInt8) (r:Bs) (h1:c≠46) (h2:MJ c=true):UH cur out (c::r)=UH (cur++[c]) out r:=by simp_all[MJ,Bs,UH]
def Yw (l:List Nat):Option (List Nat):=if 2<=l.length/\Xi l=true then some l else none
def Ae1:Option (List Nat)->List Int×Bool
 | none=>([],false)
 | some l=>(ints l,true)
def Aom {ρ :Type} (N:Nat) (d:Bs) (out:List Int) (hs:d.length<=10) (hd:d.all MJ=true) (hN:10<N) (fin:Int×List Int->Option ρ) :
 Jy (X:=Int×Int×List Int) (Y:=Int×List Int) (U3 λt8b t9b l1004096b k11 x12 =>
  bif decide (t9b<(d.length:Int))then Vm.chk (decide (0<=t9b)) (Vm.chk (decide (t9b<(d.length:Int)))
   (k11 (i64.wrap (i64.wrap (10*t8b)+i64.wrap (u8.wrap (((d.getD t9b.toNat 0).toNat:Int) - 48))),i64.wrap (t9b+1),l1004096b)))
  else x12 (t8b,l1004096b)) N (0,0,out) fin=fin ((PG d:Nat),out):=by
 refine Nc (I:=λx=> ∃ i:Nat,x=(((PG (d.take i):Nat):Int),(i:Int),out)/\i<=d.length) (μ :=λx=>d.length - x.2.1.toNat) (λ_=>fin ((PG d:Nat),out)) ?_ N (0,0,out) ⟨0,rfl,by omega⟩ (by show d.length - 0<N;omega);rintro x ⟨i,rfl,hi⟩ k hk;dsimp only[U3];by_cases hl:i<d.length
 .have hdi:(d.take i).all MJ=true:=DI.2 λx hx=>DI.1 hd x (Gm hx);have hv:=AoI (d.take i) hdi;have h10:(10:Nat) ^ (d.take i).length<=10 ^ 9:=GH (by decide) (by simp;omega);have hg:d.getD ((i:Int)).toNat 0=d[i]:=getD_lt d i 0 hl;have htake:d.take (i+1)=d.take i++[d[i]]:=by rw[EY,D8 hl];rfl
  have hc:=Ao8 hd hl;unfold MJ at hc;simp only[Dw,D6]at hc;rw[Dk,cond_true,hg,Dk (show(0:Int)<=(i:Int) by omega),Ju,Ju];rw[Alj hc.1 hc.2,w64 (x:=(10:Int)*((PG (d.take i):Nat):Int)),w64 (x:=(10:Int)*((PG (d.take i):Nat):Int)+_),w64 (x:=(i:Int)+1)];refine hk _ ⟨i+1,?_,by omega⟩ (by show d.length - ((i:Int)+1).toNat<d.length - ((i:Int)).toNat;omega);rw[htake,Air]
  push_cast
  rfl
 .have:i=d.length:=by omega
  all_goals simp_all[Bs,hs,hd,MJ,Jy,U3]
def Auo {d:Bs} (hd:d.all MJ=true):Ul d=if d.length=0\/10<d.length\/((d.getD 0 0).toNat=48/\1<d.length)\/2147483647<PG d then none else some (PG d):=by unfold Ul AeE;rw[hd];all_goals grind[PG]
def AwK {d:Bs} (o:List Nat) (hd:d.all MJ=true):nU d o=if(d.length=0\/10<d.length\/((d.getD 0 0).toNat=48/\1<d.length))\/o.length=12\/2147483647<PG d then none else some (o++[PG d]):=by unfold nU;rw[Auo hd];all_goals grind[PG]
def Aag (s:Bs) {a j:Nat} (ha:a<=j) (hj:j<s.length):J4 s a (j+1)=J4 s a j++[s[j]]:=by unfold J4;rw[EY,D8 hj,Gw (by simp;omega)];rfl
def XJ {α :Type} (s:List α) (a:Nat):J4 s a a=[]:=by grind[J4]
def AsL (o:List Nat) (v:Nat):ints o++[(v:Int)]=ints (o++[v]):=by simp [ints]
theorem MV (o:List Nat):(ints o).length=o.length:=D5 ..
def Axh (o:List Nat):(Vm.chk (decide (0<((ints o).length:Int))||decide (((ints o).length:Int)<2))
 (Vm.chk (decide (0<(ints o).length)||decide (((ints o).length:Int)<2))
   (Vm.chk (decide (0<((ints o).length:Int))||(decide (((ints o).length:Int)<2)||decide ((ints o).getD 0 0>2)))
     (Vm.chk (decide (0<(ints o).length)||(decide (((ints o).length:Int)<2)||decide ((ints o).getD 0 0>2)))
       (Vm.chk (decide (1<((ints o).length:Int))|| !(!(decide (((ints o).length:Int)<2)||decide ((ints o).getD 0 0>2))&&decide ((ints o).getD 0 0<2)))
         (Vm.chk (decide (1<(ints o).length)|| !(!(decide (((ints o).length:Int)<2)||decide ((ints o).getD 0 0>2))&&decide ((ints o).getD 0 0<2)))
           (Vm.chk (!decide ((ints o).getD 0 0<2)|| !(decide (((ints o).length:Int)<2)||decide ((ints o).getD 0 0>2))&&decide ((ints o).getD 0 0<2)||(decide (((ints o).length:Int)<2)||decide ((ints o).getD 0 0>2)))
             (bif decide (((ints o).length:Int)<2)||decide ((ints o).getD 0 0>2)||decide ((ints o).getD 0 0<2)&&decide ((ints o).getD 1 0>39)then some (([]:List Int),false)else some (ints o,true)))))))))=some (Ae1 (Yw o)):=by grind[Yw,MV,Ju,Ae1,ints,Xi]
def AoW (c:UInt8) (k:Nat):(((c.toNat:Nat):Int) != (k:Int))=decide (c.toNat≠k):=by grind
def AjL (N:Nat) (s:Bs) (hN:16<N) (hs:s.length<=1048576) (hl:s.length+1<N):W9 N s=some (Ae1 ((UH [] [] s).bind Yw)):=by
 unfold W9;try simp only[clR]
 generalize hR:UH [] [] s=R0;refine Nc (I:=λx=> ∃(a j:Nat) (o:List Nat),x=((a:Int),(j:Int),ints o)/\a<=j/\o.length<=12/\((j<=s.length/\(J4 s a j).all MJ=true/\UH (J4 s a j) o (s.drop j)=R0)\/(j=s.length+1/\some o=R0))) (μ :=λx=>s.length+1 - x.2.1.toNat) (λ_=>some (Ae1 (R0.bind Yw))) ?_ N (0,0,[]) ⟨0,0,[],rfl,by omega,by simp,.inl ⟨by omega,by rw[XJ];rfl,by rw[XJ,G5];exact hR⟩⟩ (by show s.length+1 - 0<N;omega);rintro x ⟨a,j,o,rfl,ha,ho,hx⟩ k hk;dsimp only[U3];rcases hx with ⟨hj,hd,hsc⟩ | ⟨rfl,hsc⟩
 .have hmu: ∀ j':Nat,j<j'->s.length+1 - ((j':Int)).toNat<s.length+1 - ((j:Int)).toNat:=λj' h=>by omega
  rw[Dk (show(j:Int)<=(s.length:Int) by omega),cond_true,Dk (show(0:Int)<=(j:Int) by omega)];simp only[DZ,Ju]
  have proc: ∀(d:Bs),d.all MJ=true->(if j<s.length then(nU d o).bind λo=>UH [] o (s.drop (j+1))else nU d o)=R0 ->
   (Vm.chk (decide ((0:Int)<=(a:Int))) (Vm.chk (decide ((a:Int)<=(j:Int)))
     (Vm.chk (decide (0<(d.length:Int))|| !(!((d.length:Int)==0||decide ((d.length:Int)>10))&&decide ((d.length:Int)>1)))
       (Vm.chk (!decide ((d.length:Int)>1)|| !((d.length:Int)==0||decide ((d.length:Int)>10))&&decide ((d.length:Int)>1)||((d.length:Int)==0||decide ((d.length:Int)>10)))
         (bif (d.length:Int)==0||decide ((d.length:Int)>10)||decide ((d.length:Int)>1)&&((d.getD 0 0).toNat:Int)==48||((ints o).length:Int)==12 then some (([]:List Int),false)
          else Jy (X:=Int×Int×List Int) (Y:=Int×List Int) (U3 λt8b t9b l1004096b k11 x12 =>
           bif decide (t9b<(d.length:Int))then Vm.chk (decide (0<=t9b)) (Vm.chk (decide (t9b<(d.length:Int)))
            (k11 (i64.wrap (i64.wrap (10*t8b)+i64.wrap (u8.wrap (((d.getD t9b.toNat 0).toNat:Int) - 48))),i64.wrap (t9b+1),l1004096b)))
           else x12 (t8b,l1004096b)) N (0,0,ints o) (U2 λt8c l1008192c=>bif decide (t8c>2147483647)then some ([],false)else Vm.chk (decide ((l1008192c.length+1)*9<=140737488355328)) (k (i64.wrap ((j:Int)+1),i64.wrap ((j:Int)+1),l1008192c++[t8c]))))))))=some (Ae1 (R0.bind Yw)):=by
   intro d hd hsc;rw[Dk (show(0:Int)<=(a:Int) by omega),Dk (show(a:Int)<=(j:Int) by omega)];simp only[Ju];have c0:(((d.length:Nat):Int)==0)=decide (d.length=0):=by rw[Fz,F8,D6];omega
   have c1:decide (((d.length:Nat):Int)>10)=decide (10<d.length):=by rw[Ht];omega
   have c2:decide (((d.length:Nat):Int)>1)=decide (1<d.length):=by rw[Ht];omega
   have c3:((((d.getD 0 0).toNat:Nat):Int)==48)=decide ((d.getD 0 0).toNat=48):=by rw[Fz,F8,D6];omega
   have c4:(((ints o).length:Int)==12)=decide (o.length=12):=by rw[MV,Fz,F8,D6];omega
   have c5:decide (0<((d.length:Nat):Int))= !(decide (d.length=0)):=by rw[Fz,D6,EH,Eo];omega
   rw[c0,c1,c2,c3,c4,c5];have t1:((!(decide (d.length=0)))|| !(!(decide (d.length=0)||decide (10<d.length))&&decide (1<d.length)))=true:=by cases decide (d.length=0)<;>cases decide (10<d.length)<;>cases decide (1<d.length)<;>rfl
   have t2:(!decide (1<d.length)|| !(decide (d.length=0)||decide (10<d.length))&&decide (1<d.length)||(decide (d.length=0)||decide (10<d.length)))=true:=by cases decide (d.length=0)<;>cases decide (10<d.length)<;>cases decide (1<d.length)<;>rfl
   rw[t1,t2,Ju,Ju];have hE:=AwK o hd;by_cases hb:(d.length=0\/10<d.length\/((d.getD 0 0).toNat=48/\1<d.length))\/o.length=12
   .rw[show(decide (d.length=0)||decide (10<d.length)||decide (1<d.length)&&decide ((d.getD 0 0).toNat=48)||decide (o.length=12))=true by simp only[Ef,Dw,D6];omega,cond_true];rw[A0h]at hE;have:R0=none:=by rw[<- hsc,hE];split<;>rfl
    rw[this];rfl
   .rw[show(decide (d.length=0)||decide (10<d.length)||decide (1<d.length)&&decide ((d.getD 0 0).toNat=48)||decide (o.length=12))=false by simp only[Ff,FM,Eo];omega,cond_false];refine Ey (Aom N d (ints o) (by omega) hd (by omega) _) ?_;dsimp only[U2];by_cases hv:2147483647<PG d
    .rw[Dk (show((PG d:Nat):Int)>2147483647 by omega),cond_true];rw[A0h]at hE;have:R0=none:=by rw[<- hsc,hE];split<;>rfl
     rw[this];rfl
    .rw[Dq (show ¬((PG d:Nat):Int)>2147483647 by omega),cond_false,MV,Dk (show(o.length+1)*9<=140737488355328 by omega),Ju,w64,AsL];rw[A0g]at hE;rw[hE]at hsc;refine hk _ ⟨j+1,j+1,o++[PG d],rfl,by omega,by simp;omega,?_⟩ (hmu (j+1) (by omega));by_cases hjl:j<s.length
     .rw[Du hjl]at hsc;exact .inl ⟨by omega,by rw[XJ];rfl,by rw[XJ];exact hsc⟩
     .rw[Dt hjl]at hsc;exact .inr ⟨by omega,hsc⟩
  by_cases hjl:j<s.length
  .have hg:s.getD ((j:Int)).toNat 0=s[j]:=getD_lt s j 0 hjl;rw[Dk (show(j:Int)<(s.length:Int) by omega),hg];simp only[DZ,Ju,ER];by_cases h46:s[j].toNat=46
   .rw[show(((s[j].toNat:Nat):Int) != 46)=false by rw[show(46:Int)=((46:Nat):Int)from rfl,AoW,Dq (by simp [h46])],cond_false];have he:s[j]=46:=UInt8.toNat.inj (by rw[h46];rfl);refine proc _ hd ?_;rw[Du hjl,<- hsc,EN hjl,he,AiN];rfl
   .rw[show(((s[j].toNat:Nat):Int) != 46)=true by rw[show(46:Int)=((46:Nat):Int)from rfl,AoW,Dk (by simp [h46])],cond_true];have hne:s[j]≠46:=λe=>h46 (by rw[e];rfl);rw[EN hjl]at hsc;by_cases hdg:MJ s[j]=true
    .rw[AiM _ _ _ _ hne hdg]at hsc;have hc:=hdg;unfold MJ at hc;simp only[Dw,D6]at hc;rw[Dq (show ¬((s[j].toNat:Nat):Int)<48 by omega),Dq (show ¬((s[j].toNat:Nat):Int)>57 by omega)];simp only[H5,cond_false];rw[w64];refine hk _ ⟨a,j+1,o,rfl,by omega,ho,.inl ⟨by omega,?_,?_⟩⟩ (hmu (j+1) (by omega))
     .rw[Aag s ha hjl,I5,hd];simpa using hdg
     .rw[Aag s ha hjl];exact hsc
    .rw[AiL _ _ _ _ hne hdg]at hsc;have:(decide (((s[j].toNat:Nat):Int)<48)||decide (((s[j].toNat:Nat):Int)>57))=true:=by unfold MJ at hdg;simp only[Dw,D6]at hdg;simp only[Ef,D6];omega
     rw[this,cond_true,<- hsc];rfl
  .rw[Dq (show ¬(j:Int)<(s.length:Int) by omega)];simp only[EW,cond_false];refine proc _ hd ?_;rw[Dt hjl,<- hsc,He (by omega)];rfl
 .rw[Dq (show ¬((s.length+1:Nat):Int)<=(s.length:Int) by omega),cond_false,<- hsc];exact Axh o
def Arv (c b:UInt8) (hb:b≠c): ∀ s:Bs,b∈s-> ∃ x∈Ky c s,b∈x:=by
 intro s
 induction s with
 | nil=>intro h;cases h
 | cons a r ih =>
  intro h;by_cases ha:a=c
  .rcases D7.1 h with rfl | h
   .exact absurd ha hb
   .obtain⟨x,h1,h2⟩:=ih h;refine⟨x,?_,h2⟩;show x∈(if a=c then _ else _);rw[Du ha];exact Dz _ h1
  .rw[aJ _ _ _ ha];rcases D7.1 h with rfl | h
   .exact⟨_,Dy,Dy⟩
   .obtain⟨x,h1,h2⟩:=ih h;have hn:=AiR c r;cases hs:Ky c r with
    | nil=>exact absurd hs hn
    | cons y t =>
     rw[hs]at h1;rcases D7.1 h1 with rfl | h1
     .exact⟨_,Dy,Dz _ h2⟩
     .exact⟨x,Dz _ h1,h2⟩
def Atc {α β :Type} {f: α ->Option β}: ∀ {l:List α} {a: α},a∈l->f a=none->Ri f l=none:=by
 intro l
 induction l with
 | nil=>intro a h;cases h
 | cons x t ih =>
  intro a h ha;unfold Ri;rcases D7.1 h with rfl | h
  .rw[ha]
  .rw[ih h ha];split
   .rename_i h1 h2;cases h2
   .rfl
def AaF {α β :Type} (f: α ->Option β) (a: α) (l:List α):Ri f (a::l)=(f a).bind λb=>(Ri f l).map λr=>b::r:=by show(match f a,Ri f l with | some b,some bs=>some (b::bs) | _,_=>none)=_;cases f a<;>cases Ri f l<;>rfl
def Afd {d:Bs} (h:d.all MJ=true):(46:UInt8)∉d:=by intro hm;have:=DI.1 h _ hm;revert this;decide
def Axn: ∀(s cur:Bs) (out:List Nat),cur.all MJ=true->out.length<=12->UH cur out s=if 12<out.length+(Ky 46 (cur++s)).length then none else(Ri Ul (Ky 46 (cur++s))).map λr=>out++r:=by
 intro s
 induction s with
 | nil =>
  intro cur out hc ho;rw[DT,aK _ _ (Afd hc),AaF];show nU cur out=_;unfold nU;by_cases h:out.length=12
  .rw[Du h,Du (by simp only[List.length_singleton];omega)]
  .rw[Dt h,Dt (by simp only[List.length_singleton];omega)];cases Ul cur<;>rfl
 | cons c r ih =>
  intro cur out hc ho;by_cases h1:c=46
  .subst h1;rw[AiN,VV _ _ _ (Afd hc),AaF];unfold nU;have hl:=(YU 46 r).2.1;by_cases h:out.length=12
   .rw[Du h,Du (by rw[List.length_cons];omega)];rfl
   .rw[Dt h];cases hv:Ul cur with
    | none=>simp
    | some v =>
     have:=ih [] (out++[v]) rfl (by simp;omega);rw[List.nil_append]at this;show UH [] (out++[v]) r=_;rw[this];simp only[Dp,List.length_singleton,List.length_cons,List.length_nil,Option.bind_some,Option.map_map];by_cases h3:12<out.length+(0+1)+(Ky 46 r).length
     .rw[Du h3,A0h]
     .rw[Dt h3,A0g];cases Ri Ul (Ky 46 r)<;>simp
  .by_cases h2:MJ c=true
   .rw[AiM _ _ _ _ h1 h2,ih (cur++[c]) out (by simp [hc,h2]) ho,Ea];rfl
   .rw[AiL _ _ _ _ h1 h2];obtain⟨x,hx1,hx2⟩:=Arv 46 c h1 (cur++c::r) (by simp)
    rw[Atc hx1 (by
     unfold Ul AeE;rw[Dt];have:x.all MJ=false:=by apply Gl.2;intro h;exact h2 (DI.1 h _ hx2)
     rw[this];simp)]
    split<;>rfl
def ArU (s:Bs):(UH [] [] s).bind Yw=Nv s:=by
 rw[Axn s [] [] rfl (by decide)];unfold Nv;simp only[List.length_nil,DV,List.nil_append];by_cases h:12<(Ky 46 s).length
 .rw[Du h,Du (Or.inr h)];rfl
 .rw[Dt h];cases hm:Ri Ul (Ky 46 s)with
  | none=>split<;>rfl
  | some l =>
   have hl:=Aei hm;show Yw l=_;unfold Yw
   have h3: ∀ q:Option (List Nat),(if(Ky 46 s).length<2\/12<(Ky 46 s).length then none else q)=if 2<=l.length then q else none:=by
    intro q;by_cases h2:2<=l.length
    .rw[A0g,Du h2]
    .rw[Du (Or.inl (by omega)),Dt h2]
   rw[h3];dsimp only;by_cases h2:2<=l.length<;>by_cases hr:Xi l=true<;>simp [h2,hr]
def rO (N:Nat) (s:Bs) (hN:16<N) (hs:s.length<=1048576) (hl:s.length+1<N):W9 N s=some (Ae1 (Nv s)):=by rw[AjL N s hN hs hl,ArU]
def hi (m:Nat):List Nat:=if m=0 then []else hi (m / 128)++[m % 128+128]
termination_by m
decreasing_by omega
def AdQ:hi 0=[]:=by rw[hi];rfl
def Aqv {m:Nat} (h:m≠0):hi m=hi (m / 128)++[m % 128+128]:=by rw[hi,Dt h]
def XD (n:Nat):List Nat:=hi (n / 128)++[n % 128]
def cnt (m:Nat):Nat:=(hi m).length
def Afa:cnt 0=0:=by unfold cnt;rw[AdQ];rfl
def Akw {m:Nat} (h:m≠0):cnt m=cnt (m / 128)+1:=by unfold cnt;rw[Aqv h];simp
def cnt_le: ∀(k m:Nat),m<128 ^ k->cnt m<=k:=by
 intro k
 induction k with
 | zero=>intro m h;have:m=0:=by rw[Nat.pow_zero]at h;omega
         rw[this,Afa];omega
 | succ k ih =>
  intro m h;by_cases h0:m=0
  .rw[h0,Afa];omega
  .rw[Akw h0];have:=ih (m / 128) (by rw[Nat.pow_succ]at h;omega);omega
def oZ (m:Nat):Nat->List Nat
 | 0=>[]
 | t+1=>(m / 128 ^ t % 128+128)::oZ m t
def div_pow (m t:Nat):m / 128 ^ (t+1)=m / 128 / 128 ^ t:=by rw[Nat.pow_succ,Hl,Hy]
def AtL: ∀(t m:Nat),oZ m (t+1)=oZ (m / 128) t++[m % 128+128]:=by
 intro t
 induction t with
 | zero=>intro m;show [m / 128 ^ 0 % 128+128]=_;rw[Nat.pow_zero,Nat.div_one];rfl
 | succ t ih =>intro m;show(m / 128 ^ (t+1) % 128+128)::oZ m (t+1)=_;rw[ih,div_pow];rfl
def Axt: ∀(k m:Nat),m<128 ^ k->oZ m (cnt m)=hi m:=by
 intro k
 induction k with
 | zero=>intro m h;have:m=0:=by rw[Nat.pow_zero]at h;omega
         rw[this,Afa,AdQ];rfl
 | succ k ih =>
  intro m h;by_cases h0:m=0
  .rw[h0,Afa,AdQ];rfl
  .rw[Akw h0,AtL,ih _ (by rw[Nat.pow_succ]at h;omega),<- Aqv h0]
def sh7 (n t:Nat) (ht:t<=9):(n:Int).fdiv (2 ^ min (u64.wrap (7*u64.wrap (t:Int))).toNat 64)=((n / 128 ^ t:Nat):Int):=by
 rw[wu64 (x:=(t:Int)) (by omega),wu64 (by omega),show min ((7:Int)*(t:Int)).toNat 64=7*t by omega];have h:(2:Nat) ^ (7*t)=128 ^ t:=by rw[Nat.pow_mul]
 have e:(2:Int) ^ (7*t)=((128 ^ t:Nat):Int):=by rw[<- h];push_cast;rfl
 rw[e];exact(Int.ofNat_fdiv _ _).symm
def ArQ (n:Nat) (h:n<9223372036854775808):J9 .and .i64 (n:Int) 127=((n % 128:Nat):Int):=by show i64.wrap (((BitVec.ofInt 64 (n:Int)) &&& (BitVec.ofInt 64 ((127:Nat):Int))).toNat:Int)=_;rw[show(BitVec.ofInt 64 (n:Int))=BitVec.ofNat 64 n by simp,show(BitVec.ofInt 64 ((127:Nat):Int))=BitVec.ofNat 64 127 by simp];rw[BitVec.toNat_and,Gh,Gh,F5 (by omega),F5 (by omega)];rw[show(127:Nat)=2 ^ 7 - 1 by decide,Nat.and_two_pow_sub_one_eq_mod];exact w64
def AyM (a:Nat) (h:a<128):J9 .or .i64 (a:Int) 128=((a+128:Nat):Int):=by
 have: ∀ a:Fin 128,J9 .or .i64 ((a.val:Nat):Int) 128=((a.val+128:Nat):Int):=by decide +kernel
 exact this ⟨a,h⟩
def Axy {ρ :Type} (N n:Nat) (l:List Int) (hn:n<34359738368) (hN:16<N) (fin:Int×List Int->Option ρ) :
 Jy (X:=Int×List Int) (Y:=Int×List Int) (U2 λt5a l0a k1 x2 =>
  Vm.chk (decide (0<=u64.wrap (7*u64.wrap t5a)))
   (bif decide ((n:Int).fdiv (2 ^ min (u64.wrap (7*u64.wrap t5a)).toNat 64)>0)then
     k1 (i64.wrap (t5a+1),l0a)
   else x2 (t5a,l0a))) N (1,l) fin=fin (((1+cnt (n / 128):Nat):Int),l):=by
 refine Ey (Nc (I:=λx:Int×List Int=> ∃ t:Nat,x=((t:Int),l)/\1<=t/\t<=5) (μ :=λx=>5 - x.1.toNat) (F:=λx=>fin (((x.1.toNat+cnt (n / 128 ^ x.1.toNat):Nat):Int),l)) ?_ N (1,l) ⟨1,rfl,by omega,by omega⟩ (by show 5 - 1<N;omega)) rfl;rintro x ⟨t,rfl,h1,h2⟩ k hk;dsimp only[U2];rw[sh7 n t (by omega),Dk (show(0:Int)<=u64.wrap (7*u64.wrap (t:Int)) by rw[wu64 (x:=(t:Int)) (by omega),wu64 (by omega)];omega),Ju];have ht:((t:Int)).toNat=t:=by omega
 rw[ht];generalize hm:n / 128 ^ t=m;by_cases h0:m=0
 .rw[h0,A0f,cond_false,Afa];rfl
 .rw[Dk,cond_true,w64];have h5:t<5:=by refine Nat.lt_of_le_of_ne h2 λe=>h0 ?_;rw[<- hm,e];exact Nat.div_eq_of_lt hn
  have e1:((t:Int)+1).toNat=t+1:=by omega
  rw[hk _ ⟨t+1,by push_cast;rfl,by omega,by omega⟩ (by show 5 - ((t:Int)+1).toNat<5 - (t:Int).toNat;omega)];show fin (((((t:Int)+1).toNat+cnt (n / 128 ^ ((t:Int)+1).toNat):Nat):Int),l)=_;rw[e1,Nat.pow_succ,<- Hl,hm,Akw h0];congr 2;omega
def Asy {ρ :Type} (N n:Nat) (hn:n<34359738368) (hN:16<N) (fin:List Int->Option ρ) (t:Nat) (l:List Int) (ht:t<=5) (hl:l.length<=2000000) :
 Jy (X:=Int×List Int) (Y:=List Int) (U2 λt6c l1008192c k3 x4 =>
      bif decide (t6c>0)then
       Vm.chk (decide (0<=u64.wrap (7*u64.wrap t6c)))
        (Vm.chk (decide ((l1008192c.length+1)*2<=140737488355328))
          (k3
            (i64.wrap (t6c - 1),
              l1008192c ++
               [u8.wrap
                (J9 BinOp.or i64
                  (J9 BinOp.and i64
                    ((n:Int).fdiv (2 ^ min (u64.wrap (7*u64.wrap t6c)).toNat 64)) 127)
                  128)])))
      else x4 l1008192c) N ((t:Int),l) fin=fin (l++ints (oZ (n / 128) t)):=by
 refine Ey (Nc (I:=λx:Int×List Int=> ∃(t:Nat) (l:List Int),x=((t:Int),l)/\t<=5/\l.length+t<=2000005) (μ :=λx=>x.1.toNat) (F:=λx=>fin (x.2++ints (oZ (n / 128) x.1.toNat))) ?_ N ((t:Int),l) ⟨t,l,rfl,ht,by omega⟩ (by show(t:Int).toNat<N;omega)) rfl;rintro x ⟨t,l,rfl,h2,h3⟩ k hk;have ht:((t:Int)).toNat=t:=by omega
 cases t with
 | zero =>dsimp only[U2];rw[A0f,cond_false];show _=fin (l++[]);rw[DT]
 | succ t =>
  dsimp only[U2];rw[sh7 n (t+1) (by omega),Dk (show(0:Int)<=u64.wrap (7*u64.wrap ((t+1:Nat):Int)) by rw[wu64 (x:=((t+1:Nat):Int)) (by omega),wu64 (by omega)];omega),Ju,Dk (show((t+1:Nat):Int)>0 by omega),cond_true,Dk,Ju];have hd:n / 128 ^ (t+1)<=n:=I7 _ _;rw[ArQ _ (by omega),AyM _ (by omega),w8,w64,ht];have e1:(((t+1:Nat):Int) - 1).toNat=t:=by omega
  rw[hk _ ⟨t,_,by congr 1;omega,by omega,by rw[Dp,List.length_singleton];omega⟩ (by show(((t+1:Nat):Int) - 1).toNat<((t+1:Nat):Int).toNat;omega)];show fin ((l++_)++ints (oZ (n / 128) (((t+1:Nat):Int) - 1).toNat))=fin (l++ints ((n / 128 / 128 ^ t % 128+128)::oZ (n / 128) t));rw[e1,div_pow,Ea];congr 2;show _=((n / 128 / 128 ^ t % 128+128:Nat):Int)::ints (oZ (n / 128) t);rw[show(((n / 128 / 128 ^ t % 128+128:Nat):Int)) % 256=((n / 128 / 128 ^ t % 128+128:Nat):Int) by omega];rfl
def AfS (N:Nat) (l:List Int) (n:Nat) (hn:n<34359738368) (hN:16<N) (hl:l.length<=1000000):rD N l (n:Int)=some (l++ints (XD n)):=by
 unfold rD;try simp -zeta only[Ap]
 have hc:cnt (n / 128)<=4:=cnt_le 4 _ (by omega);have h1:=Axt 4 (n / 128) (by omega);rw[Axy N n l hn hN];dsimp only[U2];rw[w64,show((1+cnt (n / 128):Nat):Int) - 1=((cnt (n / 128):Nat):Int) by omega,Asy N n hn hN _ _ _ (by omega) (by omega),h1];have hlen:(l++ints (hi (n / 128))).length<=1000004:=by rw[Dp,MV];show l.length+cnt (n / 128)<=_;omega
 rw[Dk,Ju,ArQ _ (by omega),w8,show(((n % 128:Nat):Int)) % 256=((n % 128:Nat):Int) by omega,Ea];unfold XD ints;rw[Fb];rfl
def AyK: ∀(k m:Nat),m<128 ^ k-> ∀ x∈hi m,x<256:=by
 intro k
 induction k with
 | zero =>intro m h x hx;rw[Nat.pow_zero]at h;rw[show m=0 by omega,AdQ]at hx;cases hx
 | succ k ih =>
  intro m h x hx;by_cases h0:m=0
  .rw[h0,AdQ]at hx;cases hx
  .rw[Aqv h0,DN,Ec]at hx;rcases hx with hx | rfl
   .exact ih _ (by rw[Nat.pow_succ]at h;omega) x hx
   .omega
def Api (n:Nat) (h:n<34359738368): ∀ x∈XD n,x<256:=by
 intro x hx;unfold XD at hx;rw[DN,Ec]at hx;rcases hx with hx | rfl
 .exact AyK 5 _ (by omega) x hx
 .omega
def kL (n:Nat) (h:n<34359738368):(XD n).length<=5:=by unfold XD;rw[Dp];have:=cnt_le 4 (n / 128) (by omega);unfold cnt at this;simp only[List.length_singleton];omega
def jK (l:List Nat):List Nat:=XD (40*l.getD 0 0+l.getD 1 0)++(l.drop 2).flatMap XD
def encR:Option (List Nat)->Bs×Int
 | none=>([],11)
 | some l=>((jK l).map UInt8.ofNat,0)
def fE {s:Bs} {l:List Nat} (h:Nv s=some l):2<=l.length/\l.length<=12/\(∀ x∈l,x<=2147483647)/\Xi l=true:=by
 unfold Nv at h;split at h
 .cases h
 .cases hm:Ri Ul (Ky 46 s)with
  | none=>rw[hm]at h;cases h
  | some r =>
   rw[hm]at h;dsimp only at h;split at h
   .rename_i hr;injection h with h;subst h;have hl:=Aei hm;refine⟨by omega,by omega,λx hx=> ?_,hr⟩;obtain⟨a,_,ha⟩:=Avb hm x hx;exact Aw5 ha
   .cases h
def uO {l:List Nat} (h1:2<=l.length) (h2: ∀ x∈l,x<=2147483647) (h3:Xi l=true):40*l.getD 0 0+l.getD 1 0<34359738368/\l.getD 0 0<=2/\l.getD 1 0<=2147483647:=by have:=h2 (l.getD 1 0) (by rw[getD_lt l 1 0];exact Ej _);unfold Xi at h3;simp only[Ef,Dw,D6]at h3;omega
def Ai5 {l:List Nat} (h: ∀ x∈l,x<256):(ints l).all Vm.isByte=true/\(ints l).map Vm.byteOf=l.map UInt8.ofNat:=by
 constructor
 .rw[DI];intro x hx;obtain⟨n,hn,rfl⟩:=DK.1 hx;have:=h n hn;unfold Vm.isByte;simp only[Dw,D6];omega
 .unfold ints;rw[ES];rfl
def AoN {l:List Nat} (h1:2<=l.length) (h2: ∀ x∈l,x<=2147483647) (h3:Xi l=true): ∀ x∈jK l,x<256:=by
 intro x hx;unfold jK at hx;rw[DN]at hx;rcases hx with hx | hx
 .exact Api _ (uO h1 h2 h3).1 x hx
 .obtain⟨n,hn,hx⟩:=Eg.1 hx;have:=h2 n (FT hn);exact Api n (by omega) x hx
def XN (l:List Nat) (i:Nat):(ints l).getD i 0=((l.getD i 0:Nat):Int):=by
 unfold ints;by_cases h:i<l.length
 .rw[getD_lt _ _ _ (by rw[D5];exact h),getD_lt _ _ _ h,Hm]
 .rw[Dn,Dn,Ed (by rw[D5];omega),Ed (by omega)];rfl
def AlO (l:List Nat):J4 (ints l) 2 (ints l).length=ints (l.drop 2):=by unfold J4 ints;rw[E5,Ja]
def jR (a b:List Nat):ints (a++b)=ints a++ints b:=by unfold ints;rw[Fb]
def Ai0 (f:Nat->List Nat): ∀(l:List Nat) (a:List Int),l.foldl (λa n=>a++ints (f n)) a=a++ints (l.flatMap f):=by
 intro l
 induction l with
 | nil=>intro a;show a=a++[];rw[DT]
 | cons x r ih =>intro a;rw[List.foldl_cons,ih,Fq,jR,Ea]
def AuN (f:Nat->List Nat) (k:Nat): ∀(l:List Nat),(∀ x∈l,(f x).length<=k)->(l.flatMap f).length<=k*l.length:=by
 intro l
 induction l with
 | nil=>intro _;exact Eb _
 | cons x r ih =>intro h;rw[Fq,Dp,List.length_cons,Nat.mul_succ];have:=ih (λy hy=>h y (Dz _ hy));have:=h x Dy;omega
def Anb {X E S ρ :Type} {g:S->E->S} {e:E} {s:S} {b:(X->Option ρ)->Option ρ} {nx:S->X} {I:S->Prop} (h:(∀ k,b k=k (nx (g s e)))/\I (g s e)):AbB b nx I (gW some g (none:Option ρ) e s):=h
def AiB {α :Type}: ∀ l:List α,Ri some l=some l:=by
 intro l
 induction l with
 | nil=>rfl
 | cons a r ih=>rw[AaF,ih];rfl
def dN (N:Nat) (s:Bs) (hN:16<N) (hs:s.length<=1048576):SC N s=some (encR (Nv s)):=by
 unfold SC;try simp -zeta only[Ap]
 rw[Adj N s hN hs,Js];cases ha:Nv s with
 | none=>rfl
 | some l =>
  obtain⟨h1,h2,h3,h4⟩:=fE ha;have hf:=uO h1 h3 h4;show(bif (ints l).isEmpty then _ else _)=_;rw[show Avl (some l)=ints l from rfl,show(ints l).isEmpty=false by rw[GR];exact⟨_,DK.2 ⟨l.getD 0 0,by rw[getD_lt l 0 0];exact Ej _,rfl⟩⟩,cond_false,MV,Dk,Ju,Dk,Ju,XN,XN];rw[w64 (x:=40*((l.getD 0 0:Nat):Int)),w64,show(40:Int)*((l.getD 0 0:Nat):Int)+((l.getD 1 0:Nat):Int)=((40*l.getD 0 0+l.getD 1 0:Nat):Int) by omega];dsimp only;rw[AfS N [] _ hf.1 hN (Eb _),Js];rw[Dk,Ju,<- MV l,AlO];generalize hd:l.drop 2=d;have hdl:d.length<=10:=by rw[<- hd,DU];omega
  have hdm: ∀ x∈d,x<=2147483647:=λx hx=>h3 x (FT (hd▸hx));refine Ey (OI (S:=List Int) (mk:=λi a=>(i,a)) (out:=λa=>a) d 0 (λi a=>a.length<=5*(i+1)) (gW some (λa n=>a++ints (XD n)) none) ?_ ?_ N _ (by rw[List.nil_append,MV];have:=kL _ hf.1;omega)) ?_
  .intro i a hi ha;rw[getD_lt d i 0 hi];have hn:=hdm d[i] (Ej hi);refine Anb ⟨λk=> ?_,?_⟩
   .dsimp only[U2];rw[MV,Dk,cond_true,Dk,Ju,Ju,show((i:Int)).toNat=i by omega,XN,getD_lt d i 0 hi,AfS N a _ (by omega) hN (by omega),Js,w64]
   .have:=kL d[i] (by omega);rw[Dp,MV];omega
  .intro a k ha;dsimp only[U2];rw[MV,A0f,cond_false]
  .rw[AmV,AiB];dsimp only[Option.elim];rw[Ai0,List.nil_append,<- jR];have hb:=Ai5 (AoN h1 h3 h4);unfold jK at hb;rw[hd]at hb;rw[hb.1,hb.2,Ju];show _=some ((jK l).map UInt8.ofNat,0);unfold jK;rw[hd]
end Go.Proofs.YtacidcemomccpaaGreatDoor.Pl
