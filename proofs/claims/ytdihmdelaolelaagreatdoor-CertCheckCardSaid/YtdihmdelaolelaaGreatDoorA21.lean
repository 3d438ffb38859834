import Derived.Test.YtdihmdelaolelaaGreatDoorA10
import Derived.Lib.SplitLaws
set_option linter.all false
namespace Go.Proofs.YtdihmdelaolelaaGreatDoor.Vm
open IntKind (i64 u8 u32 u64)
open Go
theorem w64 {x:Int} (h1: -9223372036854775808<=x:=by omega) (h2:x<=9223372036854775807:=by omega):i64.wrap x=x:=by
 have e:i64.wrap x=if 9223372036854775808<=x % 18446744073709551616 then x % 18446744073709551616 - 18446744073709551616 else x % 18446744073709551616:=by show(if(true&&decide (x % 18446744073709551616>=9223372036854775808))=true then _ else _)=_;simp only[EH,D6,ge_iff_le];rfl
 rw[e];split<;>omega
theorem w8 (x:Int):u8.wrap x=x % 256:=by
 have hp:(2:Int) ^ 8=256:=by decide
 simp only[IntKind.wrap,IntKind.bits,IntKind.signed,Fa,HY,G7,hp]
theorem OT (x:Int):isByte (u8.wrap x)=true:=by rw[w8];unfold isByte;simp;omega
def wu64 {x:Int} (h1:0<=x) (h2:x<=18446744073709551615:=by omega):u64.wrap x=x:=by
 have hp:(2:Int) ^ 64=18446744073709551616:=by decide
 simp only[IntKind.wrap,IntKind.bits,IntKind.signed,Fa,HY,G7,hp];omega
def Aq0 (a:Nat) (h:a<256):JE .and .i64 (a:Int) 31=((a % 32:Nat):Int):=by
 have: ∀ a:Fin 256,JE .and .i64 ((a.val:Nat):Int) 31=((a.val % 32:Nat):Int):=by decide +kernel
 exact this ⟨a,h⟩
def AwF (a:Nat) (h:a<256):JE .and .i64 (a:Int) 32=((if a / 32 % 2=1 then 32 else 0:Nat):Int):=by
 have: ∀ a:Fin 256,JE .and .i64 ((a.val:Nat):Int) 32=((if a.val / 32 % 2=1 then 32 else 0:Nat):Int):=by decide +kernel
 exact this ⟨a,h⟩
def or8 (t b:Nat) (ht:t<36028797018963968) (hb:b<256):JE .or .i64 (((t*256:Nat)):Int) (b:Int)=((t*256+b:Nat):Int):=by
 have e: ∀ n:Nat,n<2 ^ 64->(BitVec.ofInt 64 (n:Int))=BitVec.ofNat 64 n:=fun n _=>by simp
 show i64.wrap _=_;rw[show(BitVec.ofInt (i64).bits ((t*256:Nat):Int))=BitVec.ofNat 64 (t*256)from e _ (by omega),show(BitVec.ofInt (i64).bits ((b:Nat):Int))=BitVec.ofNat 64 b from e _ (by omega)];show i64.wrap (((BitVec.ofNat 64 (t*256)) ||| (BitVec.ofNat 64 b)).toNat:Int)=_;rw[BitVec.toNat_or,GM,GM,FC (by omega),FC (by omega)];rw[show t*256=t <<< 8 by rw[Jk],<- Nat.shiftLeft_add_eq_or_of_lt (by omega:b<2 ^ 8),Jk];exact w64
theorem qP {ρ :Type} (p:Prop) [Decidable p] (k:Option ρ):chk (decide p) k=if p then k else none:=by by_cases h:p<;>simp [chk,h]
theorem Jz {ρ :Type} (k:Option ρ):chk true k=k:=rfl
def qQ {ρ :Type} (b:Bool) (k:Option ρ):chk (!b|| !!b) k=k:=by cases b<;>rfl
def TJ {ρ :Type} (b:Bool) (k:Option ρ):chk (b|| !b) k=k:=by cases b<;>rfl
def Acl {ρ :Type} (b:Bool) (k:Option ρ):chk (bif b then true else !b) k=k:=by cases b<;>rfl
def QR {ρ :Type} (b:Bool) (k:Option ρ):chk (bif b then true else true) k=k:=by cases b<;>rfl
def VD {ρ :Type} (b:Bool) (k:Option ρ):chk (bif b then b else true) k=k:=by cases b<;>rfl
def Afi (a b:Bool):(bif a then true else b)=(a||b):=by cases a<;>rfl
def ApB (a b:Bool):(bif a then b else false)=(a&&b):=by cases a<;>rfl
def Xa {α :Type} (p:Prop) [Decidable p] (a b: α):(bif decide p then a else b)=if p then a else b:=by by_cases h:p<;>simp [h]
def Acm {ρ :Type} (b:Bool) (k:Option ρ):chk (b||true) k=k:=by cases b<;>rfl
def QK {α :Type} (b:Bool) (x y: α):(bif b then x else y)=if b=true then x else y:=by cases b<;>rfl
def ApE {ρ :Type} (b:Bool) (k:Option ρ):chk b k=if b=true then k else none:=by cases b<;>rfl
theorem Jt {α ρ :Type} [Inhabited α] (a: α) (k: α ->Option ρ):Jr (some a) k=k a:=rfl
def P6 {α ρ :Type} (A:(α ->Option ρ)->Option ρ) (f: α ->Option ρ):KX A f=A f:=rfl
def AiU {α ρ :Type} {A:(α ->Option ρ)->Option ρ} {f: α ->Option ρ} (P: α ->Prop) (Q:Option ρ ->Prop) (hA: ∀ j: α ->Option ρ,(∀ x,P x->Q (j x))->Q (A j)) (hf: ∀ x,P x->Q (f x)):Q (KX A f):=hA f hf
def L8 {X Y ρ :Type} (B:X->(X->Option ρ)->(Y->Option ρ)->Option ρ) (n:Nat) (x:X) (kx:Y->Option ρ):J3 B (n+1) x kx=B x (fun x'=>J3 B n x' kx) kx:=rfl
def Nu {X Y ρ :Type} {B:X->(X->Option ρ)->(Y->Option ρ)->Option ρ} {kx:Y->Option ρ} (I:X->Prop) (μ :X->Nat) (F:X->Option ρ)
 (h: ∀ x,I x-> ∀ k:X->Option ρ,(∀ x',I x'-> μ x'< μ x->k x'=F x')->B x k kx=F x): ∀(N:Nat) (x:X),I x-> μ x<N->J3 B N x kx=F x:=by
 intro N
 induction N with
 | zero=>intro x _ h;omega
 | succ N ih=>intro x hI hm;exact h x hI _ (fun x' hI' hm'=>ih x' hI' (by omega))
def Sv {X Y ρ :Type} {B:X->(X->Option ρ)->(Y->Option ρ)->Option ρ} {kx:Y->Option ρ} (I:X->Prop) (μ :X->Nat) (Q:Option ρ ->Prop)
 (h: ∀ x,I x-> ∀ k:X->Option ρ,(∀ x',I x'-> μ x'< μ x->Q (k x'))->Q (B x k kx)): ∀(N:Nat) (x:X),I x-> μ x<N->Q (J3 B N x kx):=by
 intro N
 induction N with
 | zero=>intro x _ h;omega
 | succ N ih=>intro x hI hm;exact h x hI _ (fun x' hI' hm'=>ih x' hI' (by omega))
def Acr {E S ρ :Type} (step:E->S->(S->Option ρ)->Option ρ) (fin:S->Option ρ):List E->S->Option ρ
 | [],s=>fin s
 | e::r,s=>step e s (fun s'=>Acr step fin r s')
def Ar0 {X Y S E ρ :Type} {B:X->(X->Option ρ)->(Y->Option ρ)->Option ρ} {kx:Y->Option ρ} (mk:Int->S->X) (l:List E) (d:E) (step:E->S->(S->Option ρ)->Option ρ) (fin:S->Option ρ)
 (h: ∀(i:Nat) (s:S) (k:X->Option ρ),i<l.length->B (mk (i:Int) s) k kx=step (l.getD i d) s (fun s'=>k (mk ((i:Int)+1) s')))
 (hend: ∀(s:S) (k:X->Option ρ),B (mk (l.length:Int) s) k kx=fin s) (N:Nat) (s:S) (hN:l.length<N):J3 B N (mk 0 s) kx=Acr step fin l s:=by
 have key: ∀(n i:Nat) (s:S),i<=l.length->l.length - i<n->J3 B n (mk (i:Int) s) kx=Acr step fin (l.drop i) s:=by
  intro n
  induction n with
  | zero=>intro i s _ h;omega
  | succ n ih =>
   intro i s hi hn;rw[L8];by_cases hl:i<l.length
   .rw[h i s _ hl,EN hl];show _=step l[i] s (fun s'=>Acr step fin (l.drop (i+1)) s');rw[show l.getD i d=l[i] by simp [Dn,hl]];congr 1;funext s';exact ih (i+1) s' (by omega) (by omega)
   .have:i=l.length:=by omega
    rw[this,hend,Gq];rfl
 exact key N 0 s (by omega) (by omega)
def Ky {E:Type} (f:E->Int):List E->Int
 | []=>0
 | e::r=>if f e≠0 then f e else Ky f r
set_option linter.defProp false in
def Aa_r {ρ:Type} (b:Bool) (k:Option ρ):Aa b k=chk (b||!b) k:=rfl
def Aa_e {ρ:Type} (b:Bool) (k:Option ρ):Aa b k=k:=by cases b<;>rfl
def Ac_r {ρ:Type} (b:Bool) (k:Option ρ):Ac b k=chk (b||!b) (chk (b||!b) k):=rfl
def Ac_e {ρ:Type} (b:Bool) (k:Option ρ):Ac b k=k:=by cases b<;>rfl
def Ad_r {ρ:Type} (b:Bool) (k:Option ρ):Ad b k=chk (b||!b) (chk (b||!b) (chk (b||!b) k)):=rfl
def Ad_e {ρ:Type} (b:Bool) (k:Option ρ):Ad b k=k:=by cases b<;>rfl
def Ae_r {ρ:Type} (b:Bool) (k:Option ρ):Ae b k=chk (b||!b) (chk (b||!b) (chk (b||!b) (chk (b||!b) k))):=rfl
def Ae_e {ρ:Type} (b:Bool) (k:Option ρ):Ae b k=k:=by cases b<;>rfl
def Af_r {ρ:Type} (b:Bool) (k:Option ρ):Af b k=chk (b||!b) (chk (b||!b) (chk (b||!b) (chk (b||!b) (chk (b||!b) k)))):=rfl
def Af_e {ρ:Type} (b:Bool) (k:Option ρ):Af b k=k:=by cases b<;>rfl
def Ag_r {ρ:Type} (b:Bool) (k:Option ρ):Ag b k=chk (b||!b) (chk (b||!b) (chk (b||!b) (chk (b||!b) (chk (b||!b) (chk (b||!b) k))))):=rfl
def Ag_e {ρ:Type} (b:Bool) (k:Option ρ):Ag b k=k:=by cases b<;>rfl
def Ah_r {ρ:Type} (b:Bool) (k:Option ρ):Ah b k=chk (bif b then b else true) (chk (bif b then true else true) k):=rfl
def Ah_e {ρ:Type} (b:Bool) (k:Option ρ):Ah b k=k:=by cases b<;>rfl
def Ai_r {ρ:Type} (b:Bool) (k:Option ρ):Ai b k=chk (bif b then true else !b) (chk (bif b then true else true) k):=rfl
def Ai_e {ρ:Type} (b:Bool) (k:Option ρ):Ai b k=k:=by cases b<;>rfl
def Aj_r {ρ:Type} (i:Int) (n:Nat) (k:Option ρ):Aj i n k=chk (decide (0<=i)) (chk (decide (i<(n:Int))) k):=rfl
def Aj_e {ρ:Type} (i:Int) (n:Nat) (k:Option ρ):Aj i n k=chk (decide (0<=i)) (chk (decide (i<(n:Int))) k):=rfl
def Ak_r {ρ:Type} (p:Prop) [Decidable p] (k:Option ρ):Ak p k=chk (decide p) k:=rfl
def Ak_e {ρ:Type} (p:Prop) [Decidable p] (k:Option ρ):Ak p k=chk (decide p) k:=rfl
def Am_r {ρ:Type} (n:Nat) (k:Option ρ):Am n k=chk (decide (n<=140737488355328)) k:=rfl
def Am_e {ρ:Type} (n:Nat) (k:Option ρ):Am n k=chk (decide (n<=140737488355328)) k:=rfl
def CY_e {a b c d e:Type} (x:a×b×c×d×e):CY x=x.2.2.2.2:=rfl
def CZ_e {a b c d e f g h i:Type} (x:a×b×c×d×e×f×g×h×i):CZ x=x.2.2.2.2.2.2.2.2:=rfl
def Dc_e {a b c d e f g h i j k l m:Type} (x:a×b×c×d×e×f×g×h×i×j×k×l×m):Dc x=x.2.2.2.2.2.2.2.2.2.2.2.2:=rfl
def Df_e {a b c d e f g h i j k l m n o p q:Type} (x:a×b×c×d×e×f×g×h×i×j×k×l×m×n×o×p×q):Df x=x.2.2.2.2.2.2.2.2.2.2.2.2.2.2.2.2:=rfl
def Dh_e {a b c d e f g h i j k l m n o p q r s t u:Type} (x:a×b×c×d×e×f×g×h×i×j×k×l×m×n×o×p×q×r×s×t×u):Dh x=x.2.2.2.2.2.2.2.2.2.2.2.2.2.2.2.2.2.2.2.2:=rfl
def Di_e {a b c d e f g h i j k l m n o p q r s t u v w x y:Type} (x:a×b×c×d×e×f×g×h×i×j×k×l×m×n×o×p×q×r×s×t×u×v×w×x×y):Di x=x.2.2.2.2.2.2.2.2.2.2.2.2.2.2.2.2.2.2.2.2.2.2.2.2:=rfl
def Dj_e {a b c d e f g h i j k l m n o p q r s t u v w x y z A B C:Type} (x:a×b×c×d×e×f×g×h×i×j×k×l×m×n×o×p×q×r×s×t×u×v×w×x×y×z×A×B×C):Dj x=x.2.2.2.2.2.2.2.2.2.2.2.2.2.2.2.2.2.2.2.2.2.2.2.2.2.2.2.2:=rfl
def Ap:=And.intro @Dj_e (And.intro @Di_e (And.intro @Dh_e (And.intro @Df_e (And.intro @Dc_e (And.intro @CZ_e (And.intro @CY_e (And.intro @Am_r (And.intro @Ak_r (And.intro @Aj_r (And.intro @Ai_r (And.intro @Ah_r (And.intro @Ag_r (And.intro @Af_r (And.intro @Ae_r (And.intro @Ad_r (And.intro @Ac_r (@Aa_r)))))))))))))))))
def clR:=And.intro @Dj_e (And.intro @Di_e (And.intro @Dh_e (And.intro @Df_e (And.intro @Dc_e (And.intro @CZ_e (And.intro @CY_e (And.intro @Am_e (And.intro @Ak_e (And.intro @Aj_e (And.intro @Ai_e (And.intro @Ah_e (And.intro @Ag_e (And.intro @Af_e (And.intro @Ae_e (And.intro @Ad_e (And.intro @Ac_e (And.intro @Aa_e (And.intro @XX (And.intro @IL (And.intro @II (And.intro @IJ (And.intro @I8 (And.intro @Jl (And.intro @Il (And.intro @Bool.not_not (And.intro @Jz (And.intro @EM (And.intro @Ea (And.intro @Io (@Bool.cond_self.{1}))))))))))))))))))))))))))))))
def KQ {ρ :Type} {c:Bool} (k:Option ρ) (h:c=true:=by kernel_rfl):chk c k=k:=by rw[h];rfl
def UF (c:UInt8):c.toNat<256:=GR c
theorem getD_lt {α :Type} (l:List α) (i:Nat) (d: α) (h:i<l.length:=by omega):l.getD i d=l[i]:=by rw[Dn,D9 h];rfl
theorem ApA {α :Type} {p: α ->Bool} {l:List α} (h:l.all p=true) {i:Nat} (hi:i<l.length):p l[i]=true:=DF.1 h _ (Ec hi)
def Qz {E S ρ :Type} (step:E->S->Option ρ ⊕ S) (fin:S->Option ρ):List E->S->Option ρ
 | [],s=>fin s
 | e::r,s=>match step e s with
  | .inl x=>x
  | .inr s'=>Qz step fin r s'
def l7 {X S ρ :Type} (b:(X->Option ρ)->Option ρ) (nx:S->X) (I:S->Prop):Option ρ ⊕ S->Prop
 | .inl x=> ∀ k,b k=x
 | .inr s'=>(∀ k,b k=k (nx s'))/\I s'
def Om {X Y S E ρ :Type} {B:X->(X->Option ρ)->(Y->Option ρ)->Option ρ} {kx:Y->Option ρ} (mk:Int->S->X) (l:List E) (d:E) (I:Nat->S->Prop) (step:E->S->Option ρ ⊕ S) (fin:S->Option ρ)
 (h: ∀(i:Nat) (s:S),i<l.length->I i s->l7 (fun k=>B (mk (i:Int) s) k kx) (mk ((i:Int)+1)) (I (i+1)) (step (l.getD i d) s))
 (hend: ∀(s:S) (k:X->Option ρ),I l.length s->B (mk (l.length:Int) s) k kx=fin s) (N:Nat) (s:S) (h0:I 0 s) (hN:l.length<N:=by omega):J3 B N (mk 0 s) kx=Qz step fin l s:=by
 have key: ∀(n i:Nat) (s:S),I i s->i<=l.length->l.length - i<n->J3 B n (mk (i:Int) s) kx=Qz step fin (l.drop i) s:=by
  intro n
  induction n with
  | zero=>intro i s _ _ h;omega
  | succ n ih =>
   intro i s hI hi hn;rw[L8];by_cases hl:i<l.length
   .have h1:=h i s hl hI;rw[EN hl];show _=(match step l[i] s with | .inl x=>x | .inr s'=>Qz step fin (l.drop (i+1)) s');rw[show l.getD i d=l[i] by simp [Dn,hl]]at h1;cases hs:step l[i] s with
    | inl x=>rw[hs]at h1;exact h1 _
    | inr s' =>rw[hs]at h1;obtain⟨h2,h3⟩:=h1;exact(h2 _).trans (ih (i+1) _ h3 (by omega) (by omega))
   .have:i=l.length:=by omega
    subst this;rw[hend s _ hI,Gq];rfl
 exact key N 0 s h0 (by omega) (by omega)
def OC {X Y S E ρ :Type} {B:X->(X->Option ρ)->(Y->Option ρ)->Option ρ} {kx:Y->Option ρ} (mk:Int->S->X) (out:S->Y) (l:List E) (d:E) (I:Nat->S->Prop) (step:E->S->Option ρ ⊕ S)
 (h: ∀(i:Nat) (s:S),i<l.length->I i s->l7 (fun k=>B (mk (i:Int) s) k kx) (mk ((i:Int)+1)) (I (i+1)) (step (l.getD i d) s))
 (hend: ∀(s:S) (k:X->Option ρ),I l.length s->B (mk (l.length:Int) s) k kx=kx (out s)) (N:Nat) (s:S) (h0:I 0 s) (hN:l.length<N:=by omega):J3 B N (mk 0 s) kx=Qz step (fun s=>kx (out s)) l s :=
 Om mk l d I step _ h hend N s h0 hN
def QY {α β :Type} (f: α ->Option β):List α ->Option (List β)
 | []=>some []
 | a::r=>match f a,QY f r with
  | some b,some t=>some (b::t)
  | _,_=>none
def iR {E β S ρ :Type} (f:E->Option β) (g:S-> β ->S) (bad:Option ρ) (e:E) (s:S):Option ρ ⊕ S:=(f e).elim (.inl bad) (fun b=>.inr (g s b))
def Awy {X E β S ρ :Type} {f:E->Option β} {g:S-> β ->S} {bad:Option ρ} {e:E} {s:S} {b:(X->Option ρ)->Option ρ} {nx:S->X} {I:S->Prop} (h1:f e=none-> ∀ k,b k=bad) (h2: ∀ v,f e=some v->(∀ k,b k=k (nx (g s v)))/\I (g s v)):l7 b nx I (iR f g bad e s):=by
 unfold iR;cases h:f e with
 | none=>exact h1 h
 | some v=>exact h2 v h
def AnG {E β S ρ :Type} (f:E->Option β) (g:S-> β ->S) (bad:Option ρ) (fin:S->Option ρ): ∀(l:List E) (s:S),Qz (iR f g bad) fin l s=(QY f l).elim bad (fun bs=>fin (bs.foldl g s)):=by
 intro l
 induction l with
 | nil=>intro s;rfl
 | cons e r ih =>
  intro s;have h1:iR f g bad e s=(f e).elim (.inl bad) (fun b=>.inr (g s b)):=rfl;unfold Qz QY;rw[h1];cases f e with
  | none=>rfl
  | some b =>show Qz (iR f g bad) fin r (g s b)=_;rw[ih];cases QY f r<;>rfl
def At6 {α β :Type} (h: α -> β): ∀(l:List α) (a:List β),l.foldl (fun a x=>a++[h x]) a=a++l.map h:=by
 intro l
 induction l with
 | nil=>intro a;simp
 | cons x r ih=>intro a;rw[List.foldl_cons,ih];simp
def Ae7 {α β :Type} {f: α ->Option β}: ∀ {l:List α} {r:List β},QY f l=some r->r.length=l.length:=by
 intro l
 induction l with
 | nil=>intro r h;injection h with h;subst h;rfl
 | cons a t ih =>
  intro r h;unfold QY at h;split at h
  .rename_i b q h1 h2;injection h with h;subst h;simp [ih h2]
  .cases h
def Vt {a b:Int} {q:Decidable (a<b)} (h:a<b:=by omega): @decide (a<b) q=true:= @Dk _ q h
def Vs {a b:Int} {q:Decidable (a<b)} (h:b<=a:=by omega): @decide (a<b) q=false:= @Dq _ q (by omega)
def Sr {a b:Int} {q:Decidable (a<=b)} (h:a<=b:=by omega): @decide (a<=b) q=true:= @Dk _ q h
def AwJ {a b:Int} {q:Decidable (a<=b)} (h:b<a): @decide (a<=b) q=false:= @Dq _ q (by omega)
def Af1 {a b:Int} {q:Decidable (a>b)} (h:b<a): @decide (a>b) q=true:= @Dk _ q h
def Alc {a b:Int} {q:Decidable (a>b)} (h:a<=b): @decide (a>b) q=false:= @Dq _ q (by omega)
def Azr {a b:Int} {q:Decidable (a>=b)} (h:b<=a): @decide (a>=b) q=true:= @Dk _ q h
def Azq {a b:Int} {q:Decidable (a>=b)} (h:a<b): @decide (a>=b) q=false:= @Dq _ q (by omega)
def Alj {a b:Nat} {q:Decidable (a<b)} (h:a<b): @decide (a<b) q=true:= @Dk _ q h
def Ali {a b:Nat} {q:Decidable (a<b)} (h:b<=a): @decide (a<b) q=false:= @Dq _ q (by omega)
def Ov {a b:Nat} {q:Decidable (a<=b)} (h:a<=b:=by omega): @decide (a<=b) q=true:= @Dk _ q h
def Ags {a b:Nat} {q:Decidable (a<=b)} (h:b<a): @decide (a<=b) q=false:= @Dq _ q (by omega)
def RU {a b:Int} (h:a=b):(a==b)=true:=by subst h;exact EO _
def QO {a b:Int} (h:a≠b:=by omega):(a==b)=false:=Eg h
def bM {a b:Int} (h:a≠b):(a != b)=true:=by unfold bne;rw[QO h];rfl
def qA {a b:Int} (h:a=b):(a != b)=false:=by unfold bne;rw[RU h];rfl
def toNat_add (a b:Nat):((a:Int)+(b:Int)).toNat=a+b:=by omega
def toNat_sub (a b:Nat):((a:Int) - (b:Int)).toNat=a - b:=by omega
def As8 (a:Nat):((a:Int)+1).toNat=a+1:=by omega
def AgR (a:Nat):((a:Int) - 1).toNat=a - 1:=by omega
def JX (a:Nat):((a:Int)+1)=((a+1:Nat):Int):=rfl
def AvH {α :Type} (a: α):(some a).isSome=true:=rfl
def getD_mem {α :Type} {l:List α} {i:Nat} (d: α) (h:i<l.length):l.getD i d∈l:=by rw[getD_lt l i d h];exact Ec h
def Tt {R S ρ :Type} (x:R ⊕ S) (ret:R->Option ρ) (k:S->Option ρ):Option ρ :=match x with
 | .inl r=>ret r
 | .inr s=>k s
def Axq {R S ρ :Type} (r:R) (ret:R->Option ρ) (k:S->Option ρ):Tt (.inl r) ret k=ret r:=rfl
def Ahm {R S ρ :Type} (s:S) (ret:R->Option ρ) (k:S->Option ρ):Tt (.inr s) ret k=k s:=rfl
def Si {R S ρ :Type} (b:Bool) (x y:R ⊕ S) (ret:R->Option ρ) (k:S->Option ρ):Tt (bif b then x else y) ret k=bif b then Tt x ret k else Tt y ret k:=by cases b<;>rfl
def Ati {R S ρ :Type} (b:Prop) [Decidable b] (x y:R ⊕ S) (ret:R->Option ρ) (k:S->Option ρ):Tt (if b then x else y) ret k=if b then Tt x ret k else Tt y ret k:=by split<;>rfl
def Afx {R S ρ :Type} (x:R ⊕ S) (f:R-> ρ) (g:S-> ρ):Tt x (fun r=>some (f r)) (fun s=>some (g s))=some (x.elim f g):=by cases x<;>rfl
def OX {E R S:Type} (step:E->S->R ⊕ S):List E->S->R ⊕ S
 | [],s=>.inr s
 | e::r,s=>match step e s with
  | .inl x=>.inl x
  | .inr s'=>OX step r s'
def Aua {E R S:Type} (step:E->S->R ⊕ S) (s:S):OX step [] s= .inr s:=rfl
def N9 {E R S:Type} (step:E->S->R ⊕ S) (e:E) (l:List E) (s:S):OX step (e::l) s=(step e s).elim Sum.inl (fun s'=>OX step l s'):=by simp only[OX];cases step e s<;>rfl
def Uf {X Y S E R ρ :Type} {B:X->(X->Option ρ)->(Y->Option ρ)->Option ρ} {kx:Y->Option ρ} (mk:Nat->S->X) (l:List E) (d:E) (I:Nat->S->Prop) (step:E->S->R ⊕ S) (ret:R->Option ρ) (fin:S->Option ρ)
 (h: ∀(i:Nat) (s:S),i<l.length->I i s-> ∀ k,B (mk i s) k kx=Tt (step (l.getD i d) s) ret fun s'=>k (mk (i+1) s'))
 (hI: ∀(i:Nat) (s s':S),i<l.length->I i s->step (l.getD i d) s= .inr s'->I (i+1) s')
 (hend: ∀(s:S) (k:X->Option ρ),I l.length s->B (mk l.length s) k kx=fin s) (N:Nat) (s:S) (h0:I 0 s) (hN:l.length<N):J3 B N (mk 0 s) kx=Tt (OX step l s) ret fin:=by
 have key: ∀(n i:Nat) (s:S),I i s->i<=l.length->l.length - i<n->J3 B n (mk i s) kx=Tt (OX step (l.drop i) s) ret fin:=by
  intro n
  induction n with
  | zero=>intro i s _ _ h;omega
  | succ n ih =>
   intro i s hi hil hn;rw[L8];by_cases hl:i<l.length
   .rw[h i s hl hi,EN hl];have hs:=hI i s;rw[show l.getD i d=l[i]from getD_lt l i d hl]at *
    rw[N9];cases hst:step l[i] s with
    | inl x=>rfl
    | inr s'=>exact ih (i+1) _ (hs _ hl hi hst) (by omega) (by omega)
   .have:i=l.length:=by omega
    subst this;rw[hend s _ hi,Gq];rfl
 exact key N 0 s h0 (by omega) (by omega)
def QF {X Y S E R ρ :Type} {B:X->(X->Option ρ)->(Y->Option ρ)->Option ρ} {kx:Y->Option ρ} (mk:Nat->S->X) (l:List E) (d:E) (step:E->S->R ⊕ S) (ret:R->Option ρ) (fin:S->Option ρ)
 (h: ∀(i:Nat) (s:S),i<l.length-> ∀ k,B (mk i s) k kx=Tt (step (l.getD i d) s) ret fun s'=>k (mk (i+1) s'))
 (hend: ∀(s:S) (k:X->Option ρ),B (mk l.length s) k kx=fin s) (N:Nat) (s:S) (hN:l.length<N:=by omega):J3 B N (mk 0 s) kx=Tt (OX step l s) ret fin :=
 Uf mk l d (fun _ _=>True) step ret fin (fun i s hi _=>h i s hi) (fun _ _ _ _ _ _=>trivial) (fun s k _=>hend s k) N s trivial hN
def AnJ {X Y E ρ :Type} {B:X->(X->Option ρ)->(Y->Option ρ)->Option ρ} {kx:Y->Option ρ} (mk:Nat->X) (out:Nat->Y) (l:List E) (d:E) (p:E->Bool)
 (h: ∀(i:Nat) (k:X->Option ρ),i<l.length->B (mk i) k kx=bif p (l.getD i d)then kx (out i)else k (mk (i+1)))
 (hend: ∀ k:X->Option ρ,B (mk l.length) k kx=kx (out l.length)) (N:Nat) (hN:l.length<N):J3 B N (mk 0) kx=kx (out (l.findIdx p)):=by
 have key: ∀(n i:Nat),i<=l.length->l.length - i<n->J3 B n (mk i) kx=kx (out (i+(l.drop i).findIdx p)):=by
  intro n
  induction n with
  | zero=>intro i _ h;omega
  | succ n ih =>
   intro i hi hn;rw[L8];by_cases hl:i<l.length
   .rw[h i _ hl,EN hl,Gw,show l.getD i d=l[i]from getD_lt l i d hl];cases p l[i]with
    | true=>rfl
    | false =>rw[cond_false,cond_false,ih (i+1) (by omega) (by omega)];congr 2;omega
   .have:i=l.length:=by omega
    subst this;rw[hend,Gq];rfl
 have:=key N 0 (Em _) (by omega);rwa [DY,Gy]at this
def Amo {E:Type} (p:E->Bool): ∀ l:List E,(∀ x∈l,p x=false)->l.findIdx p=l.length:=by
 intro l
 induction l with
 | nil=>intro _;rfl
 | cons x r ih =>intro h;rw[Gw,h x Dy,ih (fun y hy=>h y (D5 _ hy))];rfl
def Ari {E:Type} (p:E->Bool): ∀(a:List E) (x:E) (r:List E),(∀ x∈a,p x=false)->p x=true->(a++x::r).findIdx p=a.length:=by
 intro a
 induction a with
 | nil=>intro x r _ h;rw[List.nil_append,Gw,h];rfl
 | cons y a ih =>intro x r h hx;rw[List.cons_append,Gw,h y Dy,ih x r (fun y hy=>h y (D5 _ hy)) hx];rfl
def AaT {E R:Type} (p:E->Bool) (r:R): ∀ l:List E,OX (fun e (_:Unit)=>bif p e then .inr ()else .inl r) l ()=bif l.all p then .inr ()else .inl r:=by
 intro l
 induction l with
 | nil=>rfl
 | cons e t ih =>
  rw[N9,List.all_cons];cases p e with
  | true=>exact ih
  | false=>rfl
def AiX {E R:Type} (p:E->Bool) (r:R): ∀ l:List E,OX (fun e (_:Unit)=>bif p e then .inl r else .inr ()) l ()=bif l.any p then .inl r else .inr ():=by
 intro l
 induction l with
 | nil=>rfl
 | cons e t ih =>
  rw[N9,List.any_cons];cases p e with
  | true=>rfl
  | false=>exact ih
def AoH {E:Type} (f:E->Int): ∀ l:List E,OX (fun e (_:Unit)=>bif f e != 0 then .inl (f e)else .inr ()) l ()=bif Ky f l != 0 then .inl (Ky f l)else .inr ():=by
 intro l
 induction l with
 | nil=>rfl
 | cons e t ih =>
  rw[N9];unfold Ky;by_cases h:f e=0
  .rw[h,show((0:Int) != 0)=false from rfl];exact ih
  .rw[Du h,show(f e != 0)=true from EE.2 h];rfl
def wQ {n i:Nat} (h:i<n):(List.range n).getD i 0=i:=by rw[getD_lt _ _ _ (by rw[DI];exact h),IZ]
section
variable {X Y E ρ :Type} {B:X->(X->Option ρ)->(Y->Option ρ)->Option ρ} {kx:Y->Option ρ}
def Ud (mk:Nat->X) (l:List E) (d:E) (f:E->Int) (ret:Int->Option ρ) (fin:Option ρ)
 (h: ∀ i,i<l.length-> ∀ k,B (mk i) k kx=bif f (l.getD i d) != 0 then ret (f (l.getD i d))else k (mk (i+1)))
 (hend: ∀ k,B (mk l.length) k kx=fin) (N:Nat) (hN:l.length<N:=by omega):J3 B N (mk 0) kx=bif Ky f l != 0 then ret (Ky f l)else fin:=by
 refine Ew (QF (S:=Unit) (R:=Int) (mk:=fun i _=>mk i) l d (fun e _=>bif f e != 0 then .inl (f e)else .inr ()) ret (fun _=>fin) ?_ (fun _ k=>hend k) N () hN) ?_
 .intro i _ hi k;rw[h i hi,Si];rfl
 .rw[AoH,Si];rfl
def Un (mk:Nat->X) (n:Nat) (f:Nat->Int) (ret:Int->Option ρ) (fin:Option ρ)
 (h: ∀ i,i<n-> ∀ k,B (mk i) k kx=bif f i != 0 then ret (f i)else k (mk (i+1)))
 (hend: ∀ k,B (mk n) k kx=fin) (N:Nat) (hN:n<N:=by omega):J3 B N (mk 0) kx=bif Ky f (List.range n) != 0 then ret (Ky f (List.range n))else fin:=by
 refine Ud mk (List.range n) 0 f ret fin ?_ ?_ N (by rw[DI];exact hN)
 .intro i hi k;rw[DI]at hi;rw[wQ hi];exact h i hi k
 .intro k;rw[DI];exact hend k
def QJ (mk:Nat->X) (l:List E) (d:E) (p:E->Bool) (x fin:Option ρ)
 (h: ∀ i,i<l.length-> ∀ k,B (mk i) k kx=bif p (l.getD i d)then x else k (mk (i+1)))
 (hend: ∀ k,B (mk l.length) k kx=fin) (N:Nat) (hN:l.length<N:=by omega):J3 B N (mk 0) kx=bif l.any p then x else fin:=by
 refine Ew (QF (S:=Unit) (R:=Unit) (mk:=fun i _=>mk i) l d (fun e _=>bif p e then .inl ()else .inr ()) (fun _=>x) (fun _=>fin) ?_ (fun _ k=>hend k) N () hN) ?_
 .intro i _ hi k;rw[h i hi,Si];rfl
 .rw[AiX,Si];rfl
end
def first_some (e:Int):(bif e != 0 then some e else some 0)=some e:=by
 by_cases h:e=0
 .subst h;rfl
 .rw[show(e != 0)=true from EE.2 h];rfl
def JY {α :Type} (b:Bool) (x y: α):(bif b then some x else some y)=some (bif b then x else y):=by cases b<;>rfl
def AjL {E:Type} (f:E->Int): ∀ a b:List E,Ky f (a++b)=bif Ky f a != 0 then Ky f a else Ky f b:=by
 intro a
 induction a with
 | nil=>intro b;rfl
 | cons x r ih =>
  intro b;show(if f x≠0 then f x else Ky f (r++b))=bif (if f x≠0 then f x else Ky f r) != 0 then(if f x≠0 then f x else Ky f r)else Ky f b;by_cases h:f x=0
  .rw[Dp (fun hn=>hn h),Dp (fun hn=>hn h)];exact ih b
  .rw[Du h,Du h,show(f x != 0)=true from EE.2 h];rfl
theorem PK {E:Type} (f:E->Int) (x:E) (r:List E):Ky f (x::r)=bif f x != 0 then f x else Ky f r:=by
 show(if f x≠0 then f x else Ky f r)=_;by_cases h:f x=0
 .rw[Dp (fun hn=>hn h),h];rfl
 .rw[Du h,show(f x != 0)=true from EE.2 h];rfl
def Ajs {α :Type} (l:List α) (d: α) {i j:Nat} (h:j<i):(l.take i).getD j d=l.getD j d:=by rw[Dn,FW,Du h,<- Dn]
def VE {α :Type} (l:List α) (i:Nat):J6 l 0 i=l.take i:=rfl
section
variable {X Y E A ρ :Type} {B:X->(X->Option ρ)->(Y->Option ρ)->Option ρ} {kx:Y->Option ρ}
def Ar9 (er:E->Int) (g:E->A): ∀(l:List E) (acc:List A),OX (fun e (acc:List A)=>bif er e != 0 then Sum.inl (er e)else Sum.inr (acc++[g e])) l acc=bif Ky er l != 0 then .inl (Ky er l)else .inr (acc++l.map g):=by
 intro l
 induction l with
 | nil=>intro acc;rw[Ff,DV];rfl
 | cons e r ih =>
  intro acc;rw[N9,PK];cases h:er e != 0 with
  | true=>rw[cond_true,cond_true,h];rfl
  | false =>rw[cond_false,cond_false];show OX _ r (acc++[g e])=_;rw[ih,Ee];rfl
def Amw (mk:Nat->List A->X) (l:List E) (d:E) (er:E->Int) (g:E->A) (ret:Int->Option ρ) (fin:List A->Option ρ)
 (h: ∀(i:Nat) (acc:List A),i<l.length->acc.length=i-> ∀ k,B (mk i acc) k kx=bif er (l.getD i d) != 0 then ret (er (l.getD i d))else k (mk (i+1) (acc++[g (l.getD i d)])))
 (hend: ∀(acc:List A) (k:X->Option ρ),acc.length=l.length->B (mk l.length acc) k kx=fin acc) (N:Nat) (hN:l.length<N):J3 B N (mk 0 []) kx=bif Ky er l != 0 then ret (Ky er l)else fin (l.map g):=by
 refine(Uf (S:=List A) (R:=Int) mk l d (fun i acc=>acc.length=i) (fun e acc=>bif er e != 0 then .inl (er e)else .inr (acc++[g e])) ret fin ?_ ?_ (fun acc k ha=>hend acc k ha) N [] rfl hN).trans ?_
 .intro i acc hi ha k;rw[h i acc hi ha,Si];rfl
 .intro i acc acc' hi ha he;cases hb:er (l.getD i d) != 0 with
  | true=>rw[hb]at he;cases he
  | false =>rw[hb]at he;injection he with he;subst he;rw[Dv,ha];rfl
 .rw[Ar9,Si,List.nil_append];rfl
def Amq: ∀ l:List E,Ky (fun _=>(0:Int)) l=0:=by
 intro l
 induction l with
 | nil=>rfl
 | cons e r ih=>rw[PK];exact ih
def Ti (mk:Nat->List A->X) (l:List E) (d:E) (g:E->A) (fin:List A->Option ρ)
 (h: ∀(i:Nat) (acc:List A),i<l.length->acc.length=i-> ∀ k,B (mk i acc) k kx=k (mk (i+1) (acc++[g (l.getD i d)])))
 (hend: ∀(acc:List A) (k:X->Option ρ),acc.length=l.length->B (mk l.length acc) k kx=fin acc) (N:Nat) (hN:l.length<N:=by omega):J3 B N (mk 0 []) kx=fin (l.map g):=by
 refine(Amw mk l d (fun _=>0) g (fun _=>none) fin (fun i acc hi ha k=>h i acc hi ha k) hend N hN).trans ?_;rw[Amq];rfl
def AiK (g:E->Bs) (l:List E) (d:E) {i:Nat} (h:i<l.length):((l.take i).map g).flatten++g (l.getD i d)=((l.take (i+1)).map g).flatten:=by rw[getD_lt l i d h,Fh,D9 h,Fq,G9];simp
def Axy (g:E->Bs) (l:List E) (i:Nat):((l.take i).map g).flatten.length<=(l.map g).flatten.length:=by
 conv=>rhs;rw[<- Ht i l,Fq,G9,Dv]
 omega
def uG (mk:Nat->Bs->X) (l:List E) (d:E) (er:E->Int) (g:E->Bs) (ret:Int->Option ρ) (fin:Bs->Option ρ)
 (h: ∀(i:Nat) (t:Bs),i<l.length->t.length+(g (l.getD i d)).length<=(l.map g).flatten.length-> ∀ k,B (mk i t) k kx=bif er (l.getD i d) != 0 then ret (er (l.getD i d))else k (mk (i+1) (t++g (l.getD i d))))
 (hend: ∀(t:Bs) (k:X->Option ρ),B (mk l.length t) k kx=fin t) (N:Nat) (hN:l.length<N:=by omega):J3 B N (mk 0 []) kx=bif Ky er l != 0 then ret (Ky er l)else fin (l.map g).flatten:=by
 refine(Uf (S:=Bs) (R:=Int) mk l d (fun i t=>t=((l.take i).map g).flatten) (fun e t=>bif er e != 0 then .inl (er e)else .inr (t++g e)) ret fin ?_ ?_ (fun t k _=>hend t k) N [] rfl hN).trans ?_
 .intro i t hi ht k;rw[h i t hi ?_,Si]
  .rfl
  .rw[ht,<- Dv,AiK g l d hi];exact Axy g l (i+1)
 .intro i t t' hi ht he;cases hb:er (l.getD i d) != 0 with
  | true=>rw[hb]at he;cases he
  | false =>rw[hb]at he;injection he with he;rw[<- he,ht,AiK g l d hi]
 .have: ∀(l:List E) (t:Bs),OX (fun e (t:Bs)=>bif er e != 0 then Sum.inl (er e)else Sum.inr (t++g e)) l t=bif Ky er l != 0 then .inl (Ky er l)else .inr (t++(l.map g).flatten):=by
   intro l
   induction l with
   | nil=>intro t;simp [Aua,Ky]
   | cons e r ih =>
    intro t;rw[N9,PK];cases h:er e != 0 with
    | true=>rw[cond_true,cond_true,h];rfl
    | false=>rw[cond_false,cond_false,Ei,List.flatten_cons,<- Ee,<- ih];rfl
  rw[this,Si,List.nil_append];rfl
def Zm (mk:Nat->Bs->X) (l:List E) (d:E) (g:E->Bs) (fin:Bs->Option ρ)
 (h: ∀(i:Nat) (t:Bs),i<l.length->t.length+(g (l.getD i d)).length<=(l.map g).flatten.length-> ∀ k,B (mk i t) k kx=k (mk (i+1) (t++g (l.getD i d))))
 (hend: ∀(t:Bs) (k:X->Option ρ),B (mk l.length t) k kx=fin t) (N:Nat) (hN:l.length<N:=by omega):J3 B N (mk 0 []) kx=fin (l.map g).flatten:=by
 refine(uG mk l d (fun _=>0) g (fun _=>none) fin (fun i t hi ht k=>h i t hi ht k) hend N hN).trans ?_;rw[Amq];rfl
def VO {f:E->Int}: ∀ {l:List E},Ky f l=0-> ∀ e∈l,f e=0:=by
 intro l
 induction l with
 | nil=>intro _ e he;cases he
 | cons x r ih =>
  intro h e he;rw[PK]at h;cases hx:f x != 0 with
  | true=>rw[hx]at h;rw[show f x=0 from h]at hx;cases hx
  | false =>
   rw[hx]at h;rcases D8.1 he with rfl | he
   .simpa using hx
   .exact ih h e he
def Lp {g:E->Bs} {M:Nat}: ∀ {l:List E},(∀ e∈l,(g e).length<=M)->(l.map g).flatten.length<=M*l.length:=by
 intro l
 induction l with
 | nil=>intro _;simp
 | cons e r ih =>intro h;have h1:=h e Dy;have h2:=ih fun e he=>h e (D5 _ he);rw[Ei,List.flatten_cons,Dv,List.length_cons,Nat.mul_succ];omega
end
def Axb (x y:Bool):(!x|| !y&&x||y)=true:=by cases x<;>cases y<;>rfl
def nK (x y:Bool):(x|| !y&& !x||y)=true:=by cases x<;>cases y<;>rfl
def KJ {α :Type} {c:Bool} {a x y: α} (h:c=false->x=y):(bif c then a else x)=bif c then a else y:=by
 cases c with
 | true=>rfl
 | false=>exact h rfl
set_option linter.defProp false in
def JF:=And.intro @XX (And.intro @P6 (And.intro @Jz (And.intro @Jt (And.intro @cond_true.{1} (And.intro @cond_false.{1} (And.intro @Vt (And.intro @Vs (And.intro @Sr (And.intro @AwJ (And.intro @Af1 (And.intro @Alc (And.intro @Azr (And.intro @Azq (And.intro @Alj (And.intro @Ali (And.intro @Ov (And.intro @Ags (And.intro @RU (And.intro @QO (And.intro @bM (And.intro @qA (And.intro @w64 (And.intro @Int.toNat_natCast (And.intro @toNat_add (And.intro @toNat_sub (And.intro @As8 (And.intro @AgR (And.intro @Ea (And.intro @EM (And.intro @EK (And.intro @ES (And.intro @EH (And.intro @Gu (And.intro @Fa (And.intro @GU (And.intro @EI (And.intro @Eu (And.intro @Bool.not_not (And.intro @Jl (And.intro @Il (And.intro @Bool.cond_self.{1} (And.intro @IL (And.intro @II (And.intro @IJ (And.intro @I8 (And.intro @Io (And.intro @FY (And.intro @Axq (And.intro @Ahm (And.intro @Si (And.intro @Ati (And.intro @U2.eq_1 (And.intro @U3.eq_1 (And.intro @U4.eq_1 (And.intro @U5.eq_1 (And.intro @U6.eq_1 (And.intro @U7.eq_1 (And.intro @U8.eq_1 (And.intro @U9.eq_1 (@U10.eq_1))))))))))))))))))))))))))))))))))))))))))))))))))))))))))))
end Go.Proofs.YtdihmdelaolelaaGreatDoor.Vm
namespace Go.Proofs.YtdihmdelaolelaaGreatDoor.Pl
open IntKind (i64 u8 u32 u64)
open Go Vm
def ZG {α :Type} {P: α ->Prop} {l:List α} {x: α} (h: ∀ y∈l,P y) (hx:P x): ∀ y∈l++[x],P y:=by
 intro y hy;rcases DR.1 hy with hy | hy
 .exact h y hy
 .rw[Ed.1 hy];exact hx
def Ends {α :Type} (Q: α ->Prop) (o:Option α):Prop:= ∃ v,o=some v/\Q v
theorem Ku {α :Type} {Q: α ->Prop} {v: α} (h:Q v):Ends Q (some v):=⟨v,rfl,h⟩
def JC {α ρ :Type} [Inhabited α] {P: α ->Prop} {Q: ρ ->Prop} {o:Option α} {k: α ->Option ρ} (h:Ends P o) (hk: ∀ v,P v->Ends Q (k v)):Ends Q (Jr o k):=by obtain⟨v,rfl,hv⟩:=h;exact hk v hv
def JH {ρ :Type} {Q: ρ ->Prop} {c:Bool} {k:Option ρ} (h:c=true) (hk:Ends Q k):Ends Q (Vm.chk c k):=by rw[h];exact hk
def JW {ρ :Type} {Q: ρ ->Prop} {c:Bool} {x y:Option ρ} (h1:c=true->Ends Q x) (h2:c=false->Ends Q y):Ends Q (bif c then x else y):=by
 cases c with
 | true=>exact h1 rfl
 | false=>exact h2 rfl
def mP {α ρ :Type} {P: α ->Prop} {Q: ρ ->Prop} {A:(α ->Option ρ)->Option ρ} {f: α ->Option ρ} (hA: ∀ j: α ->Option ρ,(∀ x,P x->Ends Q (j x))->Ends Q (A j)) (hf: ∀ x,P x->Ends Q (f x)):Ends Q (KX A f):=hA f hf
def Ns {X Y ρ :Type} {B:X->(X->Option ρ)->(Y->Option ρ)->Option ρ} {kx:Y->Option ρ} {Q: ρ ->Prop} (I:X->Prop) (μ :X->Nat)
 (h: ∀ x,I x-> ∀ k:X->Option ρ,(∀ x',I x'-> μ x'< μ x->Ends Q (k x'))->Ends Q (B x k kx)) (N:Nat) (x:X) (hI:I x) (hm: μ x<N):Ends Q (J3 B N x kx):=Sv I μ (Ends Q) h N x hI hm
def AtH {α :Type} {P Q: α ->Prop} {o:Option α} (h:Ends P o) (hq: ∀ v,P v->Q v):Ends Q o:=by obtain⟨v,rfl,hv⟩:=h;exact⟨v,rfl,hq v hv⟩
def KD (L:List Int) (d:List Int×Int):Prop:= ∃ k:Nat,d=(L,(k:Int))/\k<=L.length
def Aug (N:Nat) {L:List Int} (hL:L.length<=9223372036854775807) {d:List Int×Int} (hd:KD L d) (n:Nat) (hn:0<n) (hn':n<2147483648) :
 Ends (fun r=>0<=r.1/\r.1<(n:Int)/\KD L r.2) (JD N d (n:Int)):=by
 obtain⟨k,rfl,hk⟩:=hd;unfold JD;try simp -zeta only[Ap]
 try dsimp only
 by_cases h:k<L.length
 .rw[Xa,A0y,w64 (x:=(k:Int)+1),w64 (x:=(k:Int)+1 - 1),qP,A0z,qP,A0z];generalize L.getD _ _=x;have hne:((n:Int) != 0)=true:=by simp;omega
  rw[hne,Jz,Jz];have h1:=Ja x (show(0:Int)<(n:Int) by omega);have h2: -(n:Int)<x.tmod (n:Int):=Int.lt_tmod_of_pos x (by omega);rw[w64 (x:=x.tmod (n:Int)+(n:Int))];have h3:0<=(x.tmod (n:Int)+(n:Int)).tmod (n:Int):=Int.tmod_nonneg _ (by omega);have h4:=Ja (x.tmod (n:Int)+(n:Int)) (show(0:Int)<(n:Int) by omega);refine⟨_,rfl,h3,h4,k+1,by rw[show((k+1:Nat):Int)=(k:Int)+1 by omega],h⟩
 .rw[Xa,A0z];exact⟨_,rfl,FN _,by show(0:Int)<n;omega,k,rfl,hk⟩
def P8 {α :Type} {P: α ->Prop} {l:List α} {d: α} {i:Int} (h: ∀ x∈l,P x) (h0:0<=i) (hi:i<(l.length:Int)):P (l.getD i.toNat d):=h _ (getD_mem d (by omega))
section
variable (N:Nat) (hN:1048578<N) {L:List Int} (hL:L.length<=9223372036854775807)
include hL
theorem nx {d:List Int×Int} (hd:KD L d) (n:Int) (h0:0<n) (h1:n<2147483648:=by omega):Ends (fun r=>0<=r.1/\r.1<n/\KD L r.2) (JD N d n):=by
 have:=Aug N hL hd n.toNat (by omega) (by omega)
 rw[show((n.toNat:Nat):Int)=n by omega]at this;exact this
end
def Qj (y:Int):Bool:=bif y.tmod 4==0 then(bif y.tmod 100 != 0 then true else y.tmod 400==0)else false
def Ax7 (N:Nat) (y:Int):bU N y=some (Qj y):=by
 unfold bU Qj;try simp -zeta only[Ap]
 cases y.tmod 4==0<;>cases y.tmod 100 != 0<;>rfl
def ZC (y m:Int):Int:=bif (m==2)&&Qj y then 29 else([31,28,31,30,31,30,31,31,30,31,30,31]:List Int).getD (m - 1).toNat 0
def length_eq (N:Nat) (y m:Int) (h1:1<=m) (h2:m<=12):QD N y m=some (ZC y m):=by
 unfold QD ZC;try simp -zeta only[Ap]
 rw[Ax7,w64,Dk (show(0:Int)<=m - 1 by omega),Dk (show m - 1<12 by omega)];cases m==2<;>cases Qj y<;>rfl
def OV (y:Int):Int:=365*(y - 1950)+((y - 1) / 4 - (y - 1) / 100+(y - 1) / 400) - 472
def Afh (N:Nat) (n:Int) (h1:0<=n:=by omega) (h2:n<=1000000:=by omega):Qv N n=some (n / 4 - n / 100+n / 400):=by unfold Qv;rw[DW h1,DW h1,DW h1,w64 (x:=n / 4),w64 (x:=n / 100),w64 (x:=n / 400),w64 (x:=n / 4 - n / 100)];all_goals grind[w64]
def lX (N:Nat) (y:Int) (h1:1950<=y:=by omega) (h2:y<=10001:=by omega):SX N y=some (OV y):=by unfold SX;rw[w64 (x:=y - 1),w64 (x:=y - 1950),w64 (x:=365*(y - 1950))];have e1:qW N 258 (y - 1)=Qv N (y - 1):=rfl;have e2:qW N 258 1949=Qv N 1949:=rfl;rw[e1,e2,Afh N _,Afh N _,Jt,Jt];rw[w64 (x:=365*(y - 1950)+((y - 1) / 4 - (y - 1) / 100+(y - 1) / 400)),w64];rfl
def Agd {y:Int} (h:0<=y):(Qj y=true/\OV (y+1) - OV y=366)\/(Qj y=false/\OV (y+1) - OV y=365):=by
 have e4:y.tmod 4=y % 4:=DT h;have e1:y.tmod 100=y % 100:=DT h;have e2:y.tmod 400=y % 400:=DT h;unfold Qj OV;rw[e4,e1,e2];by_cases a:y % 4=0
 .rw[RU a,cond_true];by_cases b:y % 100=0
  .rw[show(y % 100 != 0)=false from qA b,cond_false];by_cases c:y % 400=0
   .left;exact⟨RU c,by omega⟩
   .right;exact⟨QO c,by omega⟩
  .rw[show(y % 100 != 0)=true from bM b,cond_true];left;exact⟨rfl,by omega⟩
 .rw[QO a,cond_false];right;exact⟨rfl,by omega⟩
def ZN (b:Bool) (m:Int):Int:=([365,334,306,275,245,214,184,153,122,92,61,31]:List Int).getD (m - 1).toNat 0+(bif decide (m<=2)&&b then 1 else 0)
def AnD (y m:Int) (h1:1<=m) (h2:m<=12):28<=ZC y m/\ZC y m<=31/\(m=12->ZN (Qj y) m=ZC y m)/\(m<=11->ZN (Qj y) (m+1)=ZN (Qj y) m - ZC y m):=by
 unfold ZC;generalize Qj y=b;have:m=1\/m=2\/m=3\/m=4\/m=5\/m=6\/m=7\/m=8\/m=9\/m=10\/m=11\/m=12:=by omega
 rcases this with rfl | rfl | rfl | rfl | rfl | rfl | rfl | rfl | rfl | rfl | rfl | rfl<;>cases b<;>decide
abbrev Dt:Type:=Int×Int×Int×Int×Int×Int
def Ayh (d:Dt):Prop:=(1950<=d.1/\d.1<=9999)/\(1<=d.2.1/\d.2.1<=12)/\(1<=d.2.2.1/\d.2.2.1<=31)/\(0<=d.2.2.2.1/\d.2.2.2.1<=23)/\(0<=d.2.2.2.2.1/\d.2.2.2.2.1<=59)/\0<=d.2.2.2.2.2/\d.2.2.2.2.2<=59
section
variable (N:Nat) (hN:1048578<N)
include hN
theorem AsE (t:Int) (h0:0<=t) (h1:t<=254033452799):Ends (fun r=>Ayh r.1/\r.2=0) (Uj N t):=by
 unfold Uj;try simp -zeta only[Ap]
 have a0:decide (t<0)=false:=A0x;have a1:decide (t>254033452799)=false:=A0x;rw[a0,a1];refine JH rfl (JH rfl (JH rfl ?_));refine JW (fun h=>by cases h) (fun _=> ?_);have q:t.tdiv 86400=t / 86400:=DW h0;have q2:t.tmod 86400=t % 86400:=DT h0;rw[q,q2];have hd0:0<=t / 86400:=by omega
 have hd1:t / 86400<=2940201:=by omega
 have hs0:0<=t % 86400:=by omega
 have hs1:t % 86400<=86399:=by omega
 generalize t / 86400=D at hd0 hd1 ⊢;generalize t % 86400=S at hs0 hs1 ⊢;rw[w64 (x:=D)];have q3:D.tdiv 366=D / 366:=DW hd0;have q4:S.tdiv 3600=S / 3600:=DW hs0;have q5:S.tdiv 60=S / 60:=DW hs0;have q6:S.tmod 60=S % 60:=DT hs0;have q7:(S / 60).tmod 60=S / 60 % 60:=DT (by omega);rw[q3,q4,q5,q6,w64 (x:=D / 366),w64 (x:=1950+D / 366),w64 (x:=S / 3600),w64 (x:=S / 60),q7];refine Ns (fun(y:Int)=>1950<=y/\y<=9999/\OV y<=D) (fun y=>(10000 - y).toNat) ?_ N _ ⟨by omega,by omega,by unfold OV;omega⟩ (by omega);intro y ⟨y0,y1,y2⟩ k hk;rw[w64 (x:=y+1),lX N (y+1),Jt];refine JW (fun h=> ?_) (fun h=> ?_)
 .grind[OV]
 .have h: ¬ OV (y+1)<=D:=Ep h;show Ends _ (Jr (SX N y) _);rw[lX N y,Jt,w64 (x:=D - OV y) (by omega) (by unfold OV;omega)]
  have hr:0<=D - OV y/\D - OV y<ZN (Qj y) 1:=by
   refine⟨by omega,?_⟩;rcases Agd (show 0<=y by omega)with ⟨a,b⟩ | ⟨a,b⟩<;>rw[a]
   .rw[show ZN true 1=366 from rfl];omega
   .rw[show ZN false 1=365 from rfl];omega
  generalize D - OV y=E at hr ⊢;refine Ns (fun(x:Int×Int)=>1<=x.2/\x.2<=12/\0<=x.1/\x.1<ZN (Qj y) x.2/\x.1<=366) (fun x=>(13 - x.2).toNat) ?_ N _ ⟨by dsimp only;omega,by dsimp only;omega,hr.1,hr.2,?_⟩ (by dsimp only;omega)
  .rintro ⟨e,m⟩ ⟨m0,m1,e0,e1,e2⟩ k2 hk2;dsimp only at m0 m1 e0 e1 e2 hk2;dsimp only[U2];rw[length_eq N y m m0 m1,Jt,Jt];obtain⟨l0,l1,l2,l3⟩:=AnD y m m0 m1;refine JW (fun h=> ?_) (fun h=> ?_)
   .have h:e>=ZC y m:=DC h;all_goals grind[w64]
   .have h: ¬ e>=ZC y m:=Ep h;all_goals grind[w64,Ku,Ends,Ayh,Uj]
  .have:ZN (Qj y) 1<=366:=by cases Qj y<;>decide
   omega
omit hN in
theorem tt {α :Type} {o:Option α} {Q: α ->Prop} (h:Ends Q o):Ends (fun _=>True) o:=AtH h fun _ _=>trivial
end
end Go.Proofs.YtdihmdelaolelaaGreatDoor.Pl
namespace Go.Proofs.YtdihmdelaolelaaGreatDoor.Vm
open IntKind (i64 u8 u32 u64)
open Go
def Kz (c:UInt8):Bs->List Bs
 | []=>[[]]
 | b::r=>if b=c then []::Kz c r else match Kz c r with
  | []=>[[b]]
  | h::t=>(b::h)::t
def Ajq (c:UInt8) (s:Bs):Kz c s≠ []:=by
 cases s with
 | nil=>simp [Kz]
 | cons b r =>
  unfold Kz;split
  .simp
  .split<;>simp
def aY (c b:UInt8) (r:Bs) (h:b≠c):Kz c (b::r)=(b::(Kz c r).headD [])::(Kz c r).tail:=by
 have hn:=Ajq c r;show(if b=c then _ else _)=_;rw[Dp h];cases hs:Kz c r with
 | nil=>exact absurd hs hn
 | cons x t=>rfl
def VV (c:UInt8:=by decide): ∀(a r:Bs),c∉a->Kz c (a++c::r)=a::Kz c r:=by
 intro a
 induction a with
 | nil =>intro r _;show(if c=c then _ else _)=_;rw[Du rfl]
 | cons b a ih =>intro r h;have hb:b≠c:=fun e=>h (by rw[e];exact Dy);have:=ih r (fun hm=>h (D5 _ hm));show Kz c (b::(a++c::r))=_;rw[aY _ _ _ hb,this];rfl
def aZ (c:UInt8): ∀ a:Bs,c∉a->Kz c a=[a]:=by
 intro a
 induction a with
 | nil=>intro _;rfl
 | cons b a ih =>intro h;have hb:b≠c:=fun e=>h (by rw[e];exact Dy);rw[aY _ _ _ hb,ih (fun hm=>h (D5 _ hm))];rfl
def index_none (c:UInt8): ∀ s:Bs,c∉s->Lib.index s [c]= -1:=by
 intro s
 induction s with
 | nil=>intro _;rfl
 | cons b r ih =>intro h;have hb: ¬ c=b:=fun e=>h (by rw[e];exact Dy);have h2:=ih (fun hm=>h (D5 _ hm));show(if List.isPrefixOf [c] (b::r)=true then(0:Int)else if Lib.index r [c]== -1 then -1 else Lib.index r [c]+1)= -1;rw[h2,Dp (by simp [List.isPrefixOf,hb])];rfl
def Aes (c:UInt8): ∀(a r:Bs),c∉a->Lib.index (a++c::r) [c]=(a.length:Int):=by
 intro a
 induction a with
 | nil =>intro r _;show(if List.isPrefixOf [c] (c::r)=true then(0:Int)else _)=_;rw[Du (by simp [List.isPrefixOf])];rfl
 | cons b a ih =>intro r h;have hb: ¬ c=b:=fun e=>h (by rw[e];exact Dy);have h2:=ih r (fun hm=>h (D5 _ hm));show(if List.isPrefixOf [c] (b::(a++c::r))=true then(0:Int)else if Lib.index (a++c::r) [c]== -1 then -1 else Lib.index (a++c::r) [c]+1)=_;rw[h2,Dp (by simp [List.isPrefixOf,hb]),Dp (by simp)];simp
def bT (c:UInt8) (s:Bs):c∉s\/ ∃ a r,s=a++c::r/\c∉a:=by
 induction s with
 | nil=>left;simp
 | cons b t ih =>
  by_cases hb:b=c
  .right;exact⟨[],t,by rw[hb];rfl,by simp⟩
  .rcases ih with h | ⟨a,r,h1,h2⟩
   .left;intro hm;rcases D8.1 hm with h3 | h3
    .exact hb h3.symm
    .exact h h3
   .right;refine⟨b::a,r,by rw[h1];rfl,fun hm=> ?_⟩;rcases D8.1 hm with h3 | h3
    .exact hb h3.symm
    .exact h2 h3
def Au8 (c:UInt8): ∀(n:Nat) (s:Bs),s.length<=n->Lib.splitK [c] 0 (Lib.count s [c]) s=Kz c s:=by
 intro n
 induction n with
 | zero =>intro s h;have:s=[]:=FU (by omega);subst this;rfl
 | succ n ih =>
  intro s h;rcases bT c s with hn | ⟨a,r,rfl,ha⟩
  .rw[Lib.count_miss (index_none c s hn),aZ c s hn];rfl
  .have hi:=Aes c a r ha;rw[Lib.count_hit (by simp) hi,Nat.add_comm];show(if Lib.index (a++c::r) [c]== -1 then _ else _)=_;rw[hi,Dp (by simp),VV c a r ha];have e1:(a++c::r).take ((a.length:Int).toNat+0)=a:=by simp
   have e2:(a++c::r).drop ((a.length:Int).toNat+ [c].length)=r:=by rw[show((a.length:Int).toNat+ [c].length)=a.length+1 from by simp];rw[<- FD,Gz];rfl
   have e3:(a++c::r).drop (a.length+ [c].length)=r:=by rw[show(a.length+ [c].length)=a.length+1 from by simp,<- FD,Gz];rfl
   rw[e1,e2,e3,ih r (by simp at h;omega)]
theorem AnO (c:UInt8) (s:Bs):Lib.split s [c]=Kz c s:=Au8 c s.length s (DK _)
def Ze (c:UInt8): ∀ s:Bs,(Kz c s).length<=s.length+1/\0<(Kz c s).length/\ ∀ x∈Kz c s,x.length<=s.length:=by
 intro s
 induction s with
 | nil=>exact⟨by simp [Kz],by simp [Kz],by intro x hx;simp [Kz]at hx;simp [hx]⟩
 | cons b r ih =>
  obtain⟨h1,h2,h3⟩:=ih;by_cases hb:b=c
  .have e:Kz c (b::r)=[]::Kz c r:=by show(if b=c then _ else _)=_;rw[Du hb]
   rw[e];refine⟨by simp;omega,by simp,fun x hx=> ?_⟩;rcases D8.1 hx with rfl | hx
   .simp
   .have:=h3 x hx;simp;omega
  .rw[aY _ _ _ hb];cases hs:Kz c r with
   | nil=>rw[hs]at h2;simp at h2
   | cons y t =>
    rw[hs]at h1 h3;refine⟨by simp at h1 ⊢;omega,by simp,fun x hx=> ?_⟩;rcases D8.1 hx with rfl | hx
    .have:=h3 y Dy;simp;omega
    .have:=h3 x (D5 _ hx);simp;omega
end Go.Proofs.YtdihmdelaolelaaGreatDoor.Vm
namespace Go.Proofs.YtdihmdelaolelaaGreatDoor.Pl
open IntKind (i64 u8 u32 u64)
open Go Vm
def MF (c:UInt8):Bool:=decide (48<=c.toNat)&&decide (c.toNat<=57)
def Px (d:Bs):Nat:=d.foldl (fun v c=>10*v+(c.toNat - 48)) 0
def AiE (d:Bs) (c:UInt8):Px (d++[c])=10*Px d+(c.toNat - 48):=by simp [Px,Ib]
def Avx: ∀(d:Bs) (v k:Nat),d.all MF=true->v<10 ^ k->d.foldl (fun v c=>10*v+(c.toNat - 48)) v<10 ^ (k+d.length):=by
 intro d
 induction d with
 | nil=>intro v k _ h;exact h
 | cons c d ih =>intro v k h hv;rw[List.all_cons,Dx]at h;have h2:=h.1;unfold MF at h2;simp only[Dx,D6]at h2;have:=ih (10*v+(c.toNat - 48)) (k+1) h.2 (by rw[Nat.pow_succ];omega);rw[List.length_cons,show k+(d.length+1)=k+1+d.length by omega];exact this
def ApI (d:Bs) (h:d.all MF=true):Px d<10 ^ d.length:=by have:=Avx d 0 0 h (by decide);rwa [DY]at this
def Afb (d:Bs):Bool:= !(decide (d.length=0)||decide (10<d.length)||(decide ((d.getD 0 0).toNat=48)&&decide (1<d.length)))&&(d.all MF&&decide (Px d<=2147483647))
def Uh (d:Bs):Option Nat:=if Afb d then some (Px d)else none
def AmZ:Option Nat->Int
 | none=> -1
 | some n=>n
def AlW {c:Nat} (h1:48<=c) (h2:c<=57):i64.wrap (u8.wrap ((c:Int) - 48))=((c - 48:Nat):Int):=by grind[w8,w64]
def Avb {ρ :Type} (N:Nat) (s:Bs) (hs:s.length<=10) (hN:10<N) (bad:Option ρ) (fin:Int->Option ρ) :
 J3 (X:=Int×Int) (Y:=Int) (U2 fun t3a t4a k7 x8 =>
  bif decide (t4a<(s.length:Int))then Vm.chk (decide ((0:Int)<=t4a)) (Vm.chk (decide (t4a<(s.length:Int)))
   (Vm.chk (decide ((0:Int)<=t4a)||decide (((s.getD t4a.toNat 0).toNat:Int)<(48:Int)))
     (Vm.chk (decide (t4a<(s.length:Int))||decide (((s.getD t4a.toNat 0).toNat:Int)<(48:Int)))
       (bif decide (((s.getD t4a.toNat 0).toNat:Int)<(48:Int))||decide (((s.getD t4a.toNat 0).toNat:Int)>(57:Int))then bad
        else Vm.chk (decide ((0:Int)<=t4a)) (Vm.chk (decide (t4a<(s.length:Int)))
         (k7 (i64.wrap ((i64.wrap ((10:Int)*t3a))+i64.wrap (u8.wrap (((s.getD t4a.toNat 0).toNat:Int) - (48:Int)))),i64.wrap (t4a+(1:Int)))))))))
  else x8 t3a) N (0,0) fin=if s.all MF=true then fin ((Px s:Nat):Int)else bad:=by
 refine Nu (I:=fun x=> ∃ i:Nat,x=(((Px (s.take i):Nat):Int),(i:Int))/\i<=s.length/\(s.take i).all MF=true) (μ :=fun x=>s.length - x.2.toNat) (fun _=>if s.all MF=true then fin ((Px s:Nat):Int)else bad) ?_ N (0,0) ⟨0,rfl,by omega,rfl⟩ (by show s.length - 0<N;omega);rintro x ⟨i,rfl,hi,hd⟩ k hk;show(bif decide ((i:Int)<(s.length:Int))then _ else _)=_;by_cases hl:i<s.length
 .have hv:=ApI (s.take i) hd;have h10:(10:Nat) ^ (s.take i).length<=10 ^ 9:=Gi (by decide) (by simp;omega);have hg:s.getD ((i:Int)).toNat 0=s[i]:=getD_lt s i 0 hl;rw[Dk,cond_true,hg,Dk (show(0:Int)<=(i:Int) by omega)];simp only[Ea,Jz];have htake:s.take (i+1)=s.take i++[s[i]]:=by rw[Fh,D9 hl];rfl
  by_cases hc:MF s[i]=true
  .have hc':=hc;unfold MF at hc';simp only[Dx,D6]at hc';rw[A0x,A0x];simp only[Io,cond_false];rw[AlW hc'.1 hc'.2,w64 (x:=(10:Int)*((Px (s.take i):Nat):Int)),w64 (x:=(10:Int)*((Px (s.take i):Nat):Int)+_),w64 (x:=(i:Int)+1)];refine hk _ ⟨i+1,?_,by omega,by rw[htake,GH,hd];simpa using hc⟩ (by show s.length - ((i:Int)+1).toNat<s.length - ((i:Int)).toNat;omega);rw[htake,AiE]
   push_cast
   rfl
  .grind[MF,ApA]
 .have:i=s.length:=by omega
  subst this;rw[A0x,cond_false];rw[EP]at hd;rw[Du hd,EP]
def ArN (N:Nat) (s:Bs) (hN:16<N):jB N s=some (AmZ (Uh s)):=by
 unfold jB;try simp only[clR]
 by_cases h0:s.length=0
 .have:s=[]:=FU h0;subst this;rfl
 .have hne:(s==([]:Bs))=false:=by cases s with | nil=>exact absurd rfl h0 | cons _ _=>rfl
  rw[hne,Dk (show(0:Int)<(s.length:Int) by omega)];simp only[EK,Ea,Jz];unfold Uh Afb;by_cases h1:10<s.length
  .grind[Jz,AmZ]
  .rw[Dq (show ¬((s.length:Int)>10) by omega),Dq h1,Dq h0];simp only[ES,EK,Eu,EH,Il,Jz];by_cases h2:(s.getD 0 0).toNat=48/\1<s.length
   .rw[show(((s.getD 0 0).toNat:Int)==48)=true from by rw[Fb];omega,Dk (show(s.length:Int)>1 by omega),Dk h2.1,Dk h2.2];rfl
   .have e:((((s.getD 0 0).toNat:Int)==48)&&decide ((s.length:Int)>1))=false:=by
     rw[FM];simp only[Fp,Eh];omega
    have e':(decide ((s.getD 0 0).toNat=48)&&decide (1<s.length))=false:=by all_goals simp_all[Bs,jB,AmZ,Uh]
    rw[e,e',cond_false];refine Ew (Avb N s (by omega) (by omega) _ _) ?_;by_cases h3:s.all MF=true
    .rw[Du h3,h3];by_cases h4:Px s<=2147483647
     .rw[A0x,Dk h4];rfl
     .rw[Dk,Dq h4];rfl
    .rw[Dp h3,show s.all MF=false by simpa using h3];rfl
def Xm (l:List Nat):Bool:=(decide (l.getD 0 0<=1)&&decide (l.getD 1 0<=39))||decide (l.getD 0 0=2)
def Nr (s:Bs):Option (List Nat) :=
 if(Kz 46 s).length<2\/12<(Kz 46 s).length then none
 else match QY Uh (Kz 46 s)with
  | none=>none
  | some l=>if Xm l=true then some l else none
def ints (l:List Nat):List Int:=l.map fun(n:Nat)=>(n:Int)
def Awa:Option (List Nat)->List Int
 | none=>[]
 | some l=>ints l
def Axl {s:Bs} {n:Nat} (h:Uh s=some n):n<=2147483647:=by unfold Uh at h;split at h;all_goals grind[Afb]
def AvP {α β :Type} {f: α ->Option β}: ∀ {l:List α} {r:List β},QY f l=some r-> ∀ b∈r,∃ a∈l,f a=some b:=by
 intro l
 induction l with
 | nil=>grind[QY]
 | cons a t ih =>intro r h b hb;unfold QY at h;split at h;all_goals grind[QY]
def AoV (N:Nat) (a b:Nat):wF N (a:Int) (b:Int)=some ((decide (a<=1)&&decide (b<=39))||decide (a=2)):=by
 unfold wF;try simp only[clR]
 have e1:decide ((a:Int)<=1)=decide (a<=1):=by rw[Hq];omega
 have e2:decide ((b:Int)<=39)=decide (b<=39):=by rw[Hq];omega
 have e3:((a:Int)==2)=decide (a=2):=by rw[Fv,Fb,D6];omega
 rw[e1,e2,e3]
def AdA (N:Nat) (s:Bs) (hN:16<N) (hs:s.length<=1048576):ZI N s=some (Awa (Nr s)):=by
 unfold ZI;try simp only[clR]
 have hsp:strings_Split N s [46]=some (Kz 46 s):=by all_goals grind[strings_Split,AnO]
 rw[hsp,Jt];unfold Nr;have hlen:=Ze 46 s;generalize hp:Kz 46 s=p at hlen ⊢;by_cases h1:p.length<2\/12<p.length
 .rw[Du h1,show(decide ((p.length:Int)<2)||decide ((p.length:Int)>12))=true by simp only[Ej,D6];omega];rfl
 .rw[Dp h1,show(decide ((p.length:Int)<2)||decide ((p.length:Int)>12))=false by simp only[Fe,Eh];omega,cond_false];refine Ew (OC (S:=List Int) (mk:=fun i a=>(i,a)) (out:=fun a=>a) p [] (fun i a=>a.length=i) (iR Uh (fun a v=>a++[(v:Int)]) (some [])) ?_ ?_ N [] rfl) ?_
  .intro i a hi ha;have hg:p.getD ((i:Int)).toNat []=p[i]:=getD_lt p i [] hi;rw[getD_lt p i [] hi];have key: ∀(K:Int->Option (List Int)),(Vm.chk (decide ((0:Int)<=(i:Int))) (Vm.chk (decide ((i:Int)<(p.length:Int))) (Jr (jB N (p.getD ((i:Int)).toNat [])) K)))=K (AmZ (Uh p[i])):=by all_goals simp_all[Jz,ArN,Jt,Bs,hs,ZI,Awa,Nr]
   refine Awy (fun hv k=> ?_) (fun v hv=>⟨fun k=> ?_,by simp [ha]⟩)
   .dsimp only[U2];rw[key,hv,Dk (show(i:Int)<(p.length:Int) by omega)];rfl
   .dsimp only[U2];rw[key,hv,Dk (show(i:Int)<(p.length:Int) by omega),cond_true];rw[show AmZ (some v)=(v:Int)from rfl,Dq (show ¬((v:Int)<0) by omega),cond_false,Dk (show(a.length+1)*9<=140737488355328 by omega),Jz,w64]
  .grind[U2]
  .rw[AnG];cases hm:QY Uh p with
   | none=>rfl
   | some l =>
    have hl:=Ae7 hm;have hf:l.foldl (fun(a:List Int) (v:Nat)=>a++[(v:Int)]) []=l.map (fun(v:Nat)=>(v:Int)):=by rw[At6,List.nil_append]
    dsimp only[Option.elim];rw[hf];have e1:(l.map (fun(v:Nat)=>(v:Int))).length=l.length:=D7 ..;rw[e1,Dk (show(0:Int)<(l.length:Int) by omega),Dk (show 0<l.length by omega),Dk (show(1:Int)<(l.length:Int) by omega),Dk (show 1<l.length by omega)];simp only[Jz];have g0:(l.map (fun(v:Nat)=>(v:Int))).getD 0 0=((l.getD 0 0:Nat):Int):=by rw[getD_lt _ 0 0 (by rw[e1];omega),getD_lt _ 0 0];simp
    have g1:(l.map (fun(v:Nat)=>(v:Int))).getD 1 0=((l.getD 1 0:Nat):Int):=by rw[getD_lt _ 1 0 (by rw[e1];omega),getD_lt _ 1 0];simp
    rw[g0,g1,AoV,Jt];show(bif !(Xm l)then _ else _)=_;cases Xm l<;>rfl
def o7 (cur:Bs) (out:List Nat):Option (List Nat):=if out.length=12 then none else(Uh cur).map fun v=>out++[v]
def UC:Bs->List Nat->Bs->Option (List Nat)
 | cur,out,[]=>o7 cur out
 | cur,out,c::r=>if c=46 then(o7 cur out).bind fun o=>UC [] o r else if MF c=true then UC (cur++[c]) out r else none
def Ajm (cur:Bs) (out:List Nat) (r:Bs):UC cur out (46::r)=(o7 cur out).bind fun o=>UC [] o r:=Du rfl
def Ajk (cur:Bs) (out:List Nat) (c:UInt8) (r:Bs) (h1:c≠46) (h2: ¬ MF c=true):UC cur out (c::r)=none:=by show(if c=46 then _ else if MF c=true then _ else _)=_;rw[Dp h1,Dp h2]
def Ajl (cur:Bs) (out:List Nat) (c:UInt8) (r:Bs) (h1:c≠46) (h2:MF c=true):UC cur out (c::r)=UC (cur++[c]) out r:=by simp_all[MF,Bs,UC]
def Y6 (l:List Nat):Option (List Nat):=if 2<=l.length/\Xm l=true then some l else none
def AeR:Option (List Nat)->List Int×Bool
 | none=>([],false)
 | some l=>(ints l,true)
def Apn {ρ :Type} (N:Nat) (d:Bs) (out:List Int) (hs:d.length<=10) (hd:d.all MF=true) (hN:10<N) (fin:Int×List Int->Option ρ) :
 J3 (X:=Int×Int×List Int) (Y:=Int×List Int) (U3 fun t8b t9b l1004096b k11 x12 =>
  bif decide (t9b<(d.length:Int))then Vm.chk (decide (0<=t9b)) (Vm.chk (decide (t9b<(d.length:Int)))
   (k11 (i64.wrap (i64.wrap (10*t8b)+i64.wrap (u8.wrap (((d.getD t9b.toNat 0).toNat:Int) - 48))),i64.wrap (t9b+1),l1004096b)))
  else x12 (t8b,l1004096b)) N (0,0,out) fin=fin ((Px d:Nat),out):=by
 refine Nu (I:=fun x=> ∃ i:Nat,x=(((Px (d.take i):Nat):Int),(i:Int),out)/\i<=d.length) (μ :=fun x=>d.length - x.2.1.toNat) (fun _=>fin ((Px d:Nat),out)) ?_ N (0,0,out) ⟨0,rfl,by omega⟩ (by show d.length - 0<N;omega);rintro x ⟨i,rfl,hi⟩ k hk;dsimp only[U3];by_cases hl:i<d.length
 .have hdi:(d.take i).all MF=true:=DF.2 fun x hx=>DF.1 hd x (FO hx);have hv:=ApI (d.take i) hdi;have h10:(10:Nat) ^ (d.take i).length<=10 ^ 9:=Gi (by decide) (by simp;omega);have hg:d.getD ((i:Int)).toNat 0=d[i]:=getD_lt d i 0 hl;have htake:d.take (i+1)=d.take i++[d[i]]:=by rw[Fh,D9 hl];rfl
  have hc:=ApA hd hl;unfold MF at hc;simp only[Dx,D6]at hc;rw[Dk,cond_true,hg,Dk (show(0:Int)<=(i:Int) by omega),Jz,Jz];rw[AlW hc.1 hc.2,w64 (x:=(10:Int)*((Px (d.take i):Nat):Int)),w64 (x:=(10:Int)*((Px (d.take i):Nat):Int)+_),w64 (x:=(i:Int)+1)];refine hk _ ⟨i+1,?_,by omega⟩ (by show d.length - ((i:Int)+1).toNat<d.length - ((i:Int)).toNat;omega);rw[htake,AiE]
  push_cast
  rfl
 .have:i=d.length:=by omega
  all_goals simp_all[Bs,hs,hd,MF,J3,U3]
def Ava {d:Bs} (hd:d.all MF=true):Uh d=if d.length=0\/10<d.length\/((d.getD 0 0).toNat=48/\1<d.length)\/2147483647<Px d then none else some (Px d):=by unfold Uh Afb;rw[hd];all_goals grind[Px]
def Axw {d:Bs} (o:List Nat) (hd:d.all MF=true):o7 d o=if(d.length=0\/10<d.length\/((d.getD 0 0).toNat=48/\1<d.length))\/o.length=12\/2147483647<Px d then none else some (o++[Px d]):=by unfold o7;rw[Ava hd];all_goals grind[Px]
def Aay (s:Bs) {a j:Nat} (ha:a<=j) (hj:j<s.length):J6 s a (j+1)=J6 s a j++[s[j]]:=by unfold J6;rw[Fh,D9 hj,H6 (by simp;omega)];rfl
def XP {α :Type} (s:List α) (a:Nat):J6 s a a=[]:=by grind[J6]
def AtN (o:List Nat) (v:Nat):ints o++[(v:Int)]=ints (o++[v]):=by simp [ints]
theorem MP (o:List Nat):(ints o).length=o.length:=D7 ..
def AxK (o:List Nat):(Vm.chk (decide (0<((ints o).length:Int))||decide (((ints o).length:Int)<2))
 (Vm.chk (decide (0<(ints o).length)||decide (((ints o).length:Int)<2))
   (Vm.chk (decide (0<((ints o).length:Int))||(decide (((ints o).length:Int)<2)||decide ((ints o).getD 0 0>2)))
     (Vm.chk (decide (0<(ints o).length)||(decide (((ints o).length:Int)<2)||decide ((ints o).getD 0 0>2)))
       (Vm.chk (decide (1<((ints o).length:Int))|| !(!(decide (((ints o).length:Int)<2)||decide ((ints o).getD 0 0>2))&&decide ((ints o).getD 0 0<2)))
         (Vm.chk (decide (1<(ints o).length)|| !(!(decide (((ints o).length:Int)<2)||decide ((ints o).getD 0 0>2))&&decide ((ints o).getD 0 0<2)))
           (Vm.chk (!decide ((ints o).getD 0 0<2)|| !(decide (((ints o).length:Int)<2)||decide ((ints o).getD 0 0>2))&&decide ((ints o).getD 0 0<2)||(decide (((ints o).length:Int)<2)||decide ((ints o).getD 0 0>2)))
             (bif decide (((ints o).length:Int)<2)||decide ((ints o).getD 0 0>2)||decide ((ints o).getD 0 0<2)&&decide ((ints o).getD 1 0>39)then some (([]:List Int),false)else some (ints o,true)))))))))=some (AeR (Y6 o)):=by grind[Y6,MP,Jz,AeR,ints,Xm]
def ApV (c:UInt8) (k:Nat):(((c.toNat:Nat):Int) != (k:Int))=decide (c.toNat≠k):=by grind
def Ak0 (N:Nat) (s:Bs) (hN:16<N) (hs:s.length<=1048576) (hl:s.length+1<N):WE N s=some (AeR ((UC [] [] s).bind Y6)):=by
 unfold WE;try simp only[clR]
 generalize hR:UC [] [] s=R0;refine Nu (I:=fun x=> ∃(a j:Nat) (o:List Nat),x=((a:Int),(j:Int),ints o)/\a<=j/\o.length<=12/\((j<=s.length/\(J6 s a j).all MF=true/\UC (J6 s a j) o (s.drop j)=R0)\/(j=s.length+1/\some o=R0))) (μ :=fun x=>s.length+1 - x.2.1.toNat) (fun _=>some (AeR (R0.bind Y6))) ?_ N (0,0,[]) ⟨0,0,[],rfl,by omega,by simp,.inl ⟨by omega,by rw[XP];rfl,by rw[XP,Gy];exact hR⟩⟩ (by show s.length+1 - 0<N;omega);rintro x ⟨a,j,o,rfl,ha,ho,hx⟩ k hk;dsimp only[U3];rcases hx with ⟨hj,hd,hsc⟩ | ⟨rfl,hsc⟩
 .have hmu: ∀ j':Nat,j<j'->s.length+1 - ((j':Int)).toNat<s.length+1 - ((j:Int)).toNat:=fun j' h=>by omega
  rw[Dk (show(j:Int)<=(s.length:Int) by omega),cond_true,Dk (show(0:Int)<=(j:Int) by omega)];simp only[Ea,Jz]
  have proc: ∀(d:Bs),d.all MF=true->(if j<s.length then(o7 d o).bind fun o=>UC [] o (s.drop (j+1))else o7 d o)=R0 ->
   (Vm.chk (decide ((0:Int)<=(a:Int))) (Vm.chk (decide ((a:Int)<=(j:Int)))
     (Vm.chk (decide (0<(d.length:Int))|| !(!((d.length:Int)==0||decide ((d.length:Int)>10))&&decide ((d.length:Int)>1)))
       (Vm.chk (!decide ((d.length:Int)>1)|| !((d.length:Int)==0||decide ((d.length:Int)>10))&&decide ((d.length:Int)>1)||((d.length:Int)==0||decide ((d.length:Int)>10)))
         (bif (d.length:Int)==0||decide ((d.length:Int)>10)||decide ((d.length:Int)>1)&&((d.getD 0 0).toNat:Int)==48||((ints o).length:Int)==12 then some (([]:List Int),false)
          else J3 (X:=Int×Int×List Int) (Y:=Int×List Int) (U3 fun t8b t9b l1004096b k11 x12 =>
           bif decide (t9b<(d.length:Int))then Vm.chk (decide (0<=t9b)) (Vm.chk (decide (t9b<(d.length:Int)))
            (k11 (i64.wrap (i64.wrap (10*t8b)+i64.wrap (u8.wrap (((d.getD t9b.toNat 0).toNat:Int) - 48))),i64.wrap (t9b+1),l1004096b)))
           else x12 (t8b,l1004096b)) N (0,0,ints o) (U2 fun t8c l1008192c=>bif decide (t8c>2147483647)then some ([],false)else Vm.chk (decide ((l1008192c.length+1)*9<=140737488355328)) (k (i64.wrap ((j:Int)+1),i64.wrap ((j:Int)+1),l1008192c++[t8c]))))))))=some (AeR (R0.bind Y6)):=by
   intro d hd hsc;rw[Dk (show(0:Int)<=(a:Int) by omega),Dk (show(a:Int)<=(j:Int) by omega)];simp only[Jz];have c0:(((d.length:Nat):Int)==0)=decide (d.length=0):=by rw[Fv,Fb,D6];omega
   have c1:decide (((d.length:Nat):Int)>10)=decide (10<d.length):=by rw[Hq];omega
   have c2:decide (((d.length:Nat):Int)>1)=decide (1<d.length):=by rw[Hq];omega
   have c3:((((d.getD 0 0).toNat:Nat):Int)==48)=decide ((d.getD 0 0).toNat=48):=by rw[Fv,Fb,D6];omega
   have c4:(((ints o).length:Int)==12)=decide (o.length=12):=by rw[MP,Fv,Fb,D6];omega
   have c5:decide (0<((d.length:Nat):Int))= !(decide (d.length=0)):=by rw[Fv,D6,EX,Eh];omega
   rw[c0,c1,c2,c3,c4,c5];have t1:((!(decide (d.length=0)))|| !(!(decide (d.length=0)||decide (10<d.length))&&decide (1<d.length)))=true:=by cases decide (d.length=0)<;>cases decide (10<d.length)<;>cases decide (1<d.length)<;>rfl
   have t2:(!decide (1<d.length)|| !(decide (d.length=0)||decide (10<d.length))&&decide (1<d.length)||(decide (d.length=0)||decide (10<d.length)))=true:=by cases decide (d.length=0)<;>cases decide (10<d.length)<;>cases decide (1<d.length)<;>rfl
   rw[t1,t2,Jz,Jz];have hE:=Axw o hd;by_cases hb:(d.length=0\/10<d.length\/((d.getD 0 0).toNat=48/\1<d.length))\/o.length=12
   .rw[show(decide (d.length=0)||decide (10<d.length)||decide (1<d.length)&&decide ((d.getD 0 0).toNat=48)||decide (o.length=12))=true by simp only[Ej,Dx,D6];omega,cond_true];rw[A0z]at hE;have:R0=none:=by rw[<- hsc,hE];split<;>rfl
    rw[this];rfl
   .rw[show(decide (d.length=0)||decide (10<d.length)||decide (1<d.length)&&decide ((d.getD 0 0).toNat=48)||decide (o.length=12))=false by simp only[Fe,FM,Eh];omega,cond_false];refine Ew (Apn N d (ints o) (by omega) hd (by omega) _) ?_;dsimp only[U2];by_cases hv:2147483647<Px d
    .rw[Dk (show((Px d:Nat):Int)>2147483647 by omega),cond_true];rw[A0z]at hE;have:R0=none:=by rw[<- hsc,hE];split<;>rfl
     rw[this];rfl
    .rw[Dq (show ¬((Px d:Nat):Int)>2147483647 by omega),cond_false,MP,Dk (show(o.length+1)*9<=140737488355328 by omega),Jz,w64,AtN];rw[A0y]at hE;rw[hE]at hsc;refine hk _ ⟨j+1,j+1,o++[Px d],rfl,by omega,by simp;omega,?_⟩ (hmu (j+1) (by omega));by_cases hjl:j<s.length
     .rw[Du hjl]at hsc;exact .inl ⟨by omega,by rw[XP];rfl,by rw[XP];exact hsc⟩
     .rw[Dp hjl]at hsc;exact .inr ⟨by omega,hsc⟩
  by_cases hjl:j<s.length
  .have hg:s.getD ((j:Int)).toNat 0=s[j]:=getD_lt s j 0 hjl;rw[Dk (show(j:Int)<(s.length:Int) by omega),hg];simp only[Ea,Jz,EH];by_cases h46:s[j].toNat=46
   .rw[show(((s[j].toNat:Nat):Int) != 46)=false by rw[show(46:Int)=((46:Nat):Int)from rfl,ApV,Dq (by simp [h46])],cond_false];have he:s[j]=46:=UInt8.toNat.inj (by rw[h46];rfl);refine proc _ hd ?_;rw[Du hjl,<- hsc,EN hjl,he,Ajm];rfl
   .rw[show(((s[j].toNat:Nat):Int) != 46)=true by rw[show(46:Int)=((46:Nat):Int)from rfl,ApV,Dk (by simp [h46])],cond_true];have hne:s[j]≠46:=fun e=>h46 (by rw[e];rfl);rw[EN hjl]at hsc;by_cases hdg:MF s[j]=true
    .rw[Ajl _ _ _ _ hne hdg]at hsc;have hc:=hdg;unfold MF at hc;simp only[Dx,D6]at hc;rw[Dq (show ¬((s[j].toNat:Nat):Int)<48 by omega),Dq (show ¬((s[j].toNat:Nat):Int)>57 by omega)];simp only[Io,cond_false];rw[w64];refine hk _ ⟨a,j+1,o,rfl,by omega,ho,.inl ⟨by omega,?_,?_⟩⟩ (hmu (j+1) (by omega))
     .rw[Aay s ha hjl,GH,hd];simpa using hdg
     .rw[Aay s ha hjl];exact hsc
    .rw[Ajk _ _ _ _ hne hdg]at hsc;have:(decide (((s[j].toNat:Nat):Int)<48)||decide (((s[j].toNat:Nat):Int)>57))=true:=by unfold MF at hdg;simp only[Dx,D6]at hdg;simp only[Ej,D6];omega
     rw[this,cond_true,<- hsc];rfl
  .rw[Dq (show ¬(j:Int)<(s.length:Int) by omega)];simp only[Fa,cond_false];refine proc _ hd ?_;rw[Dp hjl,<- hsc,Hf (by omega)];rfl
 .rw[Dq (show ¬((s.length+1:Nat):Int)<=(s.length:Int) by omega),cond_false,<- hsc];exact AxK o
def Asu (c b:UInt8) (hb:b≠c): ∀ s:Bs,b∈s-> ∃ x∈Kz c s,b∈x:=by
 intro s
 induction s with
 | nil=>intro h;cases h
 | cons a r ih =>
  intro h;by_cases ha:a=c
  .rcases D8.1 h with rfl | h
   .exact absurd ha hb
   .obtain⟨x,h1,h2⟩:=ih h;refine⟨x,?_,h2⟩;show x∈(if a=c then _ else _);rw[Du ha];exact D5 _ h1
  .rw[aY _ _ _ ha];rcases D8.1 h with rfl | h
   .exact⟨_,Dy,Dy⟩
   .obtain⟨x,h1,h2⟩:=ih h;have hn:=Ajq c r;cases hs:Kz c r with
    | nil=>exact absurd hs hn
    | cons y t =>
     rw[hs]at h1;rcases D8.1 h1 with rfl | h1
     .exact⟨_,Dy,D5 _ h2⟩
     .exact⟨x,D5 _ h1,h2⟩
def Aud {α β :Type} {f: α ->Option β}: ∀ {l:List α} {a: α},a∈l->f a=none->QY f l=none:=by
 intro l
 induction l with
 | nil=>intro a h;cases h
 | cons x t ih =>
  intro a h ha;unfold QY;rcases D8.1 h with rfl | h
  .rw[ha]
  .rw[ih h ha];split
   .rename_i h1 h2;cases h2
   .rfl
def AaZ {α β :Type} (f: α ->Option β) (a: α) (l:List α):QY f (a::l)=(f a).bind fun b=>(QY f l).map fun r=>b::r:=by show(match f a,QY f l with | some b,some bs=>some (b::bs) | _,_=>none)=_;cases f a<;>cases QY f l<;>rfl
def Af2 {d:Bs} (h:d.all MF=true):(46:UInt8)∉d:=by intro hm;have:=DF.1 h _ hm;revert this;decide
def AxP: ∀(s cur:Bs) (out:List Nat),cur.all MF=true->out.length<=12->UC cur out s=if 12<out.length+(Kz 46 (cur++s)).length then none else(QY Uh (Kz 46 (cur++s))).map fun r=>out++r:=by
 intro s
 induction s with
 | nil =>
  intro cur out hc ho;rw[DV,aZ _ _ (Af2 hc),AaZ];show o7 cur out=_;unfold o7;by_cases h:out.length=12
  .rw[Du h,Du (by simp only[List.length_singleton];omega)]
  .rw[Dp h,Dp (by simp only[List.length_singleton];omega)];cases Uh cur<;>rfl
 | cons c r ih =>
  intro cur out hc ho;by_cases h1:c=46
  .subst h1;rw[Ajm,VV _ _ _ (Af2 hc),AaZ];unfold o7;have hl:=(Ze 46 r).2.1;by_cases h:out.length=12
   .rw[Du h,Du (by rw[List.length_cons];omega)];rfl
   .rw[Dp h];cases hv:Uh cur with
    | none=>simp
    | some v =>
     have:=ih [] (out++[v]) rfl (by simp;omega);rw[List.nil_append]at this;show UC [] (out++[v]) r=_;rw[this];simp only[Dv,List.length_singleton,List.length_cons,List.length_nil,Option.bind_some,Option.map_map];by_cases h3:12<out.length+(0+1)+(Kz 46 r).length
     .rw[Du h3,A0z]
     .rw[Dp h3,A0y];cases QY Uh (Kz 46 r)<;>simp
  .by_cases h2:MF c=true
   .rw[Ajl _ _ _ _ h1 h2,ih (cur++[c]) out (by simp [hc,h2]) ho,Ee];rfl
   .rw[Ajk _ _ _ _ h1 h2];obtain⟨x,hx1,hx2⟩:=Asu 46 c h1 (cur++c::r) (by simp)
    rw[Aud hx1 (by
     unfold Uh Afb;rw[Dp];have:x.all MF=false:=by apply Gg.2;intro h;exact h2 (DF.1 h _ hx2)
     rw[this];simp)]
    split<;>rfl
def AsQ (s:Bs):(UC [] [] s).bind Y6=Nr s:=by
 rw[AxP s [] [] rfl (by decide)];unfold Nr;simp only[List.length_nil,DY,List.nil_append];by_cases h:12<(Kz 46 s).length
 .rw[Du h,Du (Or.inr h)];rfl
 .rw[Dp h];cases hm:QY Uh (Kz 46 s)with
  | none=>split<;>rfl
  | some l =>
   have hl:=Ae7 hm;show Y6 l=_;unfold Y6
   have h3: ∀ q:Option (List Nat),(if(Kz 46 s).length<2\/12<(Kz 46 s).length then none else q)=if 2<=l.length then q else none:=by
    intro q;by_cases h2:2<=l.length
    .rw[A0y,Du h2]
    .rw[Du (Or.inl (by omega)),Dp h2]
   rw[h3];dsimp only;by_cases h2:2<=l.length<;>by_cases hr:Xm l=true<;>simp [h2,hr]
def sF (N:Nat) (s:Bs) (hN:16<N) (hs:s.length<=1048576) (hl:s.length+1<N):WE N s=some (AeR (Nr s)):=by rw[Ak0 N s hN hs hl,AsQ]
def hi (m:Nat):List Nat:=if m=0 then []else hi (m / 128)++[m % 128+128]
termination_by m
decreasing_by omega
def Aep:hi 0=[]:=by rw[hi];rfl
def Aru {m:Nat} (h:m≠0):hi m=hi (m / 128)++[m % 128+128]:=by rw[hi,Dp h]
def XG (n:Nat):List Nat:=hi (n / 128)++[n % 128]
def cnt (m:Nat):Nat:=(hi m).length
def Afw:cnt 0=0:=by unfold cnt;rw[Aep];rfl
def Ala {m:Nat} (h:m≠0):cnt m=cnt (m / 128)+1:=by unfold cnt;rw[Aru h];simp
def cnt_le: ∀(k m:Nat),m<128 ^ k->cnt m<=k:=by
 intro k
 induction k with
 | zero=>intro m h;have:m=0:=by rw[Nat.pow_zero]at h;omega
         rw[this,Afw];omega
 | succ k ih =>
  intro m h;by_cases h0:m=0
  .rw[h0,Afw];omega
  .rw[Ala h0];have:=ih (m / 128) (by rw[Nat.pow_succ]at h;omega);omega
def pO (m:Nat):Nat->List Nat
 | 0=>[]
 | t+1=>(m / 128 ^ t % 128+128)::pO m t
def div_pow (m t:Nat):m / 128 ^ (t+1)=m / 128 / 128 ^ t:=by rw[Nat.pow_succ,Iy,Hy]
def AuF: ∀(t m:Nat),pO m (t+1)=pO (m / 128) t++[m % 128+128]:=by
 intro t
 induction t with
 | zero=>intro m;show [m / 128 ^ 0 % 128+128]=_;rw[Nat.pow_zero,Nat.div_one];rfl
 | succ t ih =>intro m;show(m / 128 ^ (t+1) % 128+128)::pO m (t+1)=_;rw[ih,div_pow];rfl
def AxV: ∀(k m:Nat),m<128 ^ k->pO m (cnt m)=hi m:=by
 intro k
 induction k with
 | zero=>intro m h;have:m=0:=by rw[Nat.pow_zero]at h;omega
         rw[this,Afw,Aep];rfl
 | succ k ih =>
  intro m h;by_cases h0:m=0
  .rw[h0,Afw,Aep];rfl
  .rw[Ala h0,AuF,ih _ (by rw[Nat.pow_succ]at h;omega),<- Aru h0]
def sh7 (n t:Nat) (ht:t<=9):(n:Int).fdiv (2 ^ min (u64.wrap (7*u64.wrap (t:Int))).toNat 64)=((n / 128 ^ t:Nat):Int):=by
 rw[wu64 (x:=(t:Int)) (by omega),wu64 (by omega),show min ((7:Int)*(t:Int)).toNat 64=7*t by omega];have h:(2:Nat) ^ (7*t)=128 ^ t:=by rw[Nat.pow_mul]
 have e:(2:Int) ^ (7*t)=((128 ^ t:Nat):Int):=by rw[<- h];push_cast;rfl
 rw[e];exact(Int.ofNat_fdiv _ _).symm
def AsN (n:Nat) (h:n<9223372036854775808):JE .and .i64 (n:Int) 127=((n % 128:Nat):Int):=by show i64.wrap (((BitVec.ofInt 64 (n:Int)) &&& (BitVec.ofInt 64 ((127:Nat):Int))).toNat:Int)=_;rw[show(BitVec.ofInt 64 (n:Int))=BitVec.ofNat 64 n by simp,show(BitVec.ofInt 64 ((127:Nat):Int))=BitVec.ofNat 64 127 by simp];rw[BitVec.toNat_and,GM,GM,FC (by omega),FC (by omega)];rw[show(127:Nat)=2 ^ 7 - 1 by decide,Nat.and_two_pow_sub_one_eq_mod];exact w64
def Az2 (a:Nat) (h:a<128):JE .or .i64 (a:Int) 128=((a+128:Nat):Int):=by
 have: ∀ a:Fin 128,JE .or .i64 ((a.val:Nat):Int) 128=((a.val+128:Nat):Int):=by decide +kernel
 exact this ⟨a,h⟩
def AxZ {ρ :Type} (N n:Nat) (l:List Int) (hn:n<34359738368) (hN:16<N) (fin:Int×List Int->Option ρ) :
 J3 (X:=Int×List Int) (Y:=Int×List Int) (U2 fun t5a l0a k1 x2 =>
  Vm.chk (decide (0<=u64.wrap (7*u64.wrap t5a)))
   (bif decide ((n:Int).fdiv (2 ^ min (u64.wrap (7*u64.wrap t5a)).toNat 64)>0)then
     k1 (i64.wrap (t5a+1),l0a)
   else x2 (t5a,l0a))) N (1,l) fin=fin (((1+cnt (n / 128):Nat):Int),l):=by
 refine Ew (Nu (I:=fun x:Int×List Int=> ∃ t:Nat,x=((t:Int),l)/\1<=t/\t<=5) (μ :=fun x=>5 - x.1.toNat) (F:=fun x=>fin (((x.1.toNat+cnt (n / 128 ^ x.1.toNat):Nat):Int),l)) ?_ N (1,l) ⟨1,rfl,by omega,by omega⟩ (by show 5 - 1<N;omega)) rfl;rintro x ⟨t,rfl,h1,h2⟩ k hk;dsimp only[U2];rw[sh7 n t (by omega),Dk (show(0:Int)<=u64.wrap (7*u64.wrap (t:Int)) by rw[wu64 (x:=(t:Int)) (by omega),wu64 (by omega)];omega),Jz];have ht:((t:Int)).toNat=t:=by omega
 rw[ht];generalize hm:n / 128 ^ t=m;by_cases h0:m=0
 .rw[h0,A0x,cond_false,Afw];rfl
 .rw[Dk,cond_true,w64];have h5:t<5:=by refine Nat.lt_of_le_of_ne h2 fun e=>h0 ?_;rw[<- hm,e];exact Nat.div_eq_of_lt hn
  have e1:((t:Int)+1).toNat=t+1:=by omega
  rw[hk _ ⟨t+1,by push_cast;rfl,by omega,by omega⟩ (by show 5 - ((t:Int)+1).toNat<5 - (t:Int).toNat;omega)];show fin (((((t:Int)+1).toNat+cnt (n / 128 ^ ((t:Int)+1).toNat):Nat):Int),l)=_;rw[e1,Nat.pow_succ,<- Iy,hm,Ala h0];congr 2;omega
def Atq {ρ :Type} (N n:Nat) (hn:n<34359738368) (hN:16<N) (fin:List Int->Option ρ) (t:Nat) (l:List Int) (ht:t<=5) (hl:l.length<=2000000) :
 J3 (X:=Int×List Int) (Y:=List Int) (U2 fun t6c l1008192c k3 x4 =>
      bif decide (t6c>0)then
       Vm.chk (decide (0<=u64.wrap (7*u64.wrap t6c)))
        (Vm.chk (decide ((l1008192c.length+1)*2<=140737488355328))
          (k3
            (i64.wrap (t6c - 1),
              l1008192c ++
               [u8.wrap
                (JE BinOp.or i64
                  (JE BinOp.and i64
                    ((n:Int).fdiv (2 ^ min (u64.wrap (7*u64.wrap t6c)).toNat 64)) 127)
                  128)])))
      else x4 l1008192c) N ((t:Int),l) fin=fin (l++ints (pO (n / 128) t)):=by
 refine Ew (Nu (I:=fun x:Int×List Int=> ∃(t:Nat) (l:List Int),x=((t:Int),l)/\t<=5/\l.length+t<=2000005) (μ :=fun x=>x.1.toNat) (F:=fun x=>fin (x.2++ints (pO (n / 128) x.1.toNat))) ?_ N ((t:Int),l) ⟨t,l,rfl,ht,by omega⟩ (by show(t:Int).toNat<N;omega)) rfl;rintro x ⟨t,l,rfl,h2,h3⟩ k hk;have ht:((t:Int)).toNat=t:=by omega
 cases t with
 | zero =>dsimp only[U2];rw[A0x,cond_false];show _=fin (l++[]);rw[DV]
 | succ t =>
  dsimp only[U2];rw[sh7 n (t+1) (by omega),Dk (show(0:Int)<=u64.wrap (7*u64.wrap ((t+1:Nat):Int)) by rw[wu64 (x:=((t+1:Nat):Int)) (by omega),wu64 (by omega)];omega),Jz,Dk (show((t+1:Nat):Int)>0 by omega),cond_true,Dk,Jz];have hd:n / 128 ^ (t+1)<=n:=Nat.div_le_self _ _;rw[AsN _ (by omega),Az2 _ (by omega),w8,w64,ht];have e1:(((t+1:Nat):Int) - 1).toNat=t:=by omega
  rw[hk _ ⟨t,_,by congr 1;omega,by omega,by rw[Dv,List.length_singleton];omega⟩ (by show(((t+1:Nat):Int) - 1).toNat<((t+1:Nat):Int).toNat;omega)];show fin ((l++_)++ints (pO (n / 128) (((t+1:Nat):Int) - 1).toNat))=fin (l++ints ((n / 128 / 128 ^ t % 128+128)::pO (n / 128) t));rw[e1,div_pow,Ee];congr 2;show _=((n / 128 / 128 ^ t % 128+128:Nat):Int)::ints (pO (n / 128) t);rw[show(((n / 128 / 128 ^ t % 128+128:Nat):Int)) % 256=((n / 128 / 128 ^ t % 128+128:Nat):Int) by omega];rfl
def Agw (N:Nat) (l:List Int) (n:Nat) (hn:n<34359738368) (hN:16<N) (hl:l.length<=1000000):rU N l (n:Int)=some (l++ints (XG n)):=by
 unfold rU;try simp -zeta only[Ap]
 have hc:cnt (n / 128)<=4:=cnt_le 4 _ (by omega);have h1:=AxV 4 (n / 128) (by omega);rw[AxZ N n l hn hN];dsimp only[U2];rw[w64,show((1+cnt (n / 128):Nat):Int) - 1=((cnt (n / 128):Nat):Int) by omega,Atq N n hn hN _ _ _ (by omega) (by omega),h1];have hlen:(l++ints (hi (n / 128))).length<=1000004:=by rw[Dv,MP];show l.length+cnt (n / 128)<=_;omega
 rw[Dk,Jz,AsN _ (by omega),w8,show(((n % 128:Nat):Int)) % 256=((n % 128:Nat):Int) by omega,Ee];unfold XG ints;rw[Fq];rfl
def Azw: ∀(k m:Nat),m<128 ^ k-> ∀ x∈hi m,x<256:=by
 intro k
 induction k with
 | zero =>intro m h x hx;rw[Nat.pow_zero]at h;rw[show m=0 by omega,Aep]at hx;cases hx
 | succ k ih =>
  intro m h x hx;by_cases h0:m=0
  .rw[h0,Aep]at hx;cases hx
  .rw[Aru h0,DR,Ed]at hx;rcases hx with hx | rfl
   .exact ih _ (by rw[Nat.pow_succ]at h;omega) x hx
   .omega
def Aqg (n:Nat) (h:n<34359738368): ∀ x∈XG n,x<256:=by
 intro x hx;unfold XG at hx;rw[DR,Ed]at hx;rcases hx with hx | rfl
 .exact Azw 5 _ (by omega) x hx
 .omega
def kX (n:Nat) (h:n<34359738368):(XG n).length<=5:=by unfold XG;rw[Dv];have:=cnt_le 4 (n / 128) (by omega);unfold cnt at this;simp only[List.length_singleton];omega
def jS (l:List Nat):List Nat:=XG (40*l.getD 0 0+l.getD 1 0)++(l.drop 2).flatMap XG
def encR:Option (List Nat)->Bs×Int
 | none=>([],11)
 | some l=>((jS l).map UInt8.ofNat,0)
def gW {s:Bs} {l:List Nat} (h:Nr s=some l):2<=l.length/\l.length<=12/\(∀ x∈l,x<=2147483647)/\Xm l=true:=by
 unfold Nr at h;split at h
 .cases h
 .cases hm:QY Uh (Kz 46 s)with
  | none=>rw[hm]at h;cases h
  | some r =>
   rw[hm]at h;dsimp only at h;split at h
   .rename_i hr;injection h with h;subst h;have hl:=Ae7 hm;refine⟨by omega,by omega,fun x hx=> ?_,hr⟩;obtain⟨a,_,ha⟩:=AvP hm x hx;exact Axl ha
   .cases h
def vC {l:List Nat} (h1:2<=l.length) (h2: ∀ x∈l,x<=2147483647) (h3:Xm l=true):40*l.getD 0 0+l.getD 1 0<34359738368/\l.getD 0 0<=2/\l.getD 1 0<=2147483647:=by have:=h2 (l.getD 1 0) (by rw[getD_lt l 1 0];exact Ec _);unfold Xm at h3;simp only[Ej,Dx,D6]at h3;omega
def AaL {l:List Nat} (h: ∀ x∈l,x<256):(ints l).all Vm.isByte=true/\(ints l).map Vm.byteOf=l.map UInt8.ofNat:=by
 constructor
 .rw[DF];intro x hx;obtain⟨n,hn,rfl⟩:=DN.1 hx;have:=h n hn;unfold Vm.isByte;simp only[Dx,D6];omega
 .unfold ints;rw[EU];rfl
def ApN {l:List Nat} (h1:2<=l.length) (h2: ∀ x∈l,x<=2147483647) (h3:Xm l=true): ∀ x∈jS l,x<256:=by
 intro x hx;unfold jS at hx;rw[DR]at hx;rcases hx with hx | hx
 .exact Aqg _ (vC h1 h2 h3).1 x hx
 .obtain⟨n,hn,hx⟩:=Et.1 hx;have:=h2 n (FQ hn);exact Aqg n (by omega) x hx
def XW (l:List Nat) (i:Nat):(ints l).getD i 0=((l.getD i 0:Nat):Int):=by
 unfold ints;by_cases h:i<l.length
 .rw[getD_lt _ _ _ (by rw[D7];exact h),getD_lt _ _ _ h,G8]
 .rw[Dn,Dn,Ef (by rw[D7];omega),Ef (by omega)];rfl
def AmA (l:List Nat):J6 (ints l) 2 (ints l).length=ints (l.drop 2):=by unfold J6 ints;rw[EP,List.map_drop]
def jX (a b:List Nat):ints (a++b)=ints a++ints b:=by unfold ints;rw[Fq]
def AiL (f:Nat->List Nat): ∀(l:List Nat) (a:List Int),l.foldl (fun a n=>a++ints (f n)) a=a++ints (l.flatMap f):=by
 intro l
 induction l with
 | nil=>intro a;show a=a++[];rw[DV]
 | cons x r ih =>intro a;rw[List.foldl_cons,ih,F7,jX,Ee]
def Av9 (f:Nat->List Nat) (k:Nat): ∀(l:List Nat),(∀ x∈l,(f x).length<=k)->(l.flatMap f).length<=k*l.length:=by
 intro l
 induction l with
 | nil=>intro _;exact Em _
 | cons x r ih =>intro h;rw[F7,Dv,List.length_cons,Nat.mul_succ];have:=ih (fun y hy=>h y (D5 _ hy));have:=h x Dy;omega
def AnP {X E S ρ :Type} {g:S->E->S} {e:E} {s:S} {b:(X->Option ρ)->Option ρ} {nx:S->X} {I:S->Prop} (h:(∀ k,b k=k (nx (g s e)))/\I (g s e)):l7 b nx I (iR some g (none:Option ρ) e s):=h
def AiY {α :Type}: ∀ l:List α,QY some l=some l:=by
 intro l
 induction l with
 | nil=>rfl
 | cons a r ih=>rw[AaZ,ih];rfl
def eU (N:Nat) (s:Bs) (hN:16<N) (hs:s.length<=1048576):SB N s=some (encR (Nr s)):=by
 unfold SB;try simp -zeta only[Ap]
 rw[AdA N s hN hs,Jt];cases ha:Nr s with
 | none=>rfl
 | some l =>
  obtain⟨h1,h2,h3,h4⟩:=gW ha;have hf:=vC h1 h3 h4;show(bif (ints l).isEmpty then _ else _)=_;rw[show Awa (some l)=ints l from rfl,show(ints l).isEmpty=false by rw[GN];exact⟨_,DN.2 ⟨l.getD 0 0,by rw[getD_lt l 0 0];exact Ec _,rfl⟩⟩,cond_false,MP,Dk,Jz,Dk,Jz,XW,XW];rw[w64 (x:=40*((l.getD 0 0:Nat):Int)),w64,show(40:Int)*((l.getD 0 0:Nat):Int)+((l.getD 1 0:Nat):Int)=((40*l.getD 0 0+l.getD 1 0:Nat):Int) by omega];dsimp only;rw[Agw N [] _ hf.1 hN (Em _),Jt];rw[Dk,Jz,<- MP l,AmA];generalize hd:l.drop 2=d;have hdl:d.length<=10:=by rw[<- hd,Es];omega
  have hdm: ∀ x∈d,x<=2147483647:=fun x hx=>h3 x (FQ (hd▸hx));refine Ew (OC (S:=List Int) (mk:=fun i a=>(i,a)) (out:=fun a=>a) d 0 (fun i a=>a.length<=5*(i+1)) (iR some (fun a n=>a++ints (XG n)) none) ?_ ?_ N _ (by rw[List.nil_append,MP];have:=kX _ hf.1;omega)) ?_
  .intro i a hi ha;rw[getD_lt d i 0 hi];have hn:=hdm d[i] (Ec hi);refine AnP ⟨fun k=> ?_,?_⟩
   .dsimp only[U2];rw[MP,Dk,cond_true,Dk,Jz,Jz,show((i:Int)).toNat=i by omega,XW,getD_lt d i 0 hi,Agw N a _ (by omega) hN (by omega),Jt,w64]
   .have:=kX d[i] (by omega);rw[Dv,MP];omega
  .intro a k ha;dsimp only[U2];rw[MP,A0x,cond_false]
  .rw[AnG,AiY];dsimp only[Option.elim];rw[AiL,List.nil_append,<- jX];have hb:=AaL (ApN h1 h3 h4);unfold jS at hb;rw[hd]at hb;rw[hb.1,hb.2,Jz];show _=some ((jS l).map UInt8.ofNat,0);unfold jS;rw[hd]
end Go.Proofs.YtdihmdelaolelaaGreatDoor.Pl
