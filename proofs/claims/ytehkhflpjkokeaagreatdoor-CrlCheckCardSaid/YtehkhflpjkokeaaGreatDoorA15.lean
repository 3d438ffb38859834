import Derived.Test.YtehkhflpjkokeaaGreatDoorA11
import Derived.Lib.SplitLaws
set_option linter.all false
namespace Go.Proofs.YtehkhflpjkokeaaGreatDoor.Vm
open IntKind (i64 u8 u32 u64)
open Go
theorem w64 {x:Int} (h1: -9223372036854775808<=x:=by omega) (h2:x<=9223372036854775807:=by omega):i64.wrap x=x:=by
 have e:i64.wrap x=if 9223372036854775808<=x % 18446744073709551616 then x % 18446744073709551616 - 18446744073709551616 else x % 18446744073709551616:=by show(if(true&&decide (x % 18446744073709551616>=9223372036854775808))=true then _ else _)=_;simp only[EE,Dz,ge_iff_le];rfl
 rw[e];split<;>omega
theorem w8 (x:Int):u8.wrap x=x % 256:=by
 have hp:(2:Int) ^ 8=256:=by decide
 simp only[IntKind.wrap,IntKind.bits,IntKind.signed,Fa,Ij,GU,hp]
theorem Tc (x:Int):isByte (u8.wrap x)=true:=by rw[w8];unfold isByte;simp;omega
def wu64 {x:Int} (h1:0<=x) (h2:x<=18446744073709551615:=by omega):u64.wrap x=x:=by
 have hp:(2:Int) ^ 64=18446744073709551616:=by decide
 simp only[IntKind.wrap,IntKind.bits,IntKind.signed,Fa,Ij,GU,hp];omega
def Aow (a:Nat) (h:a<256):J9 .and .i64 (a:Int) 31=((a % 32:Nat):Int):=by
 have: ∀ a:Fin 256,J9 .and .i64 ((a.val:Nat):Int) 31=((a.val % 32:Nat):Int):=by decide +kernel
 exact this ⟨a,h⟩
def AuI (a:Nat) (h:a<256):J9 .and .i64 (a:Int) 32=((if a / 32 % 2=1 then 32 else 0:Nat):Int):=by
 have: ∀ a:Fin 256,J9 .and .i64 ((a.val:Nat):Int) 32=((if a.val / 32 % 2=1 then 32 else 0:Nat):Int):=by decide +kernel
 exact this ⟨a,h⟩
def or8 (t b:Nat) (ht:t<36028797018963968) (hb:b<256):J9 .or .i64 (((t*256:Nat)):Int) (b:Int)=((t*256+b:Nat):Int):=by
 have e: ∀ n:Nat,n<2 ^ 64->(BitVec.ofInt 64 (n:Int))=BitVec.ofNat 64 n:=fun n _=>by simp
 show i64.wrap _=_;rw[show(BitVec.ofInt (i64).bits ((t*256:Nat):Int))=BitVec.ofNat 64 (t*256)from e _ (by omega),show(BitVec.ofInt (i64).bits ((b:Nat):Int))=BitVec.ofNat 64 b from e _ (by omega)];show i64.wrap (((BitVec.ofNat 64 (t*256)) ||| (BitVec.ofNat 64 b)).toNat:Int)=_;rw[BitVec.toNat_or,Hm,Hm,FM (by omega),FM (by omega)];rw[show t*256=t <<< 8 by rw[Nat.shiftLeft_eq],<- Nat.shiftLeft_add_eq_or_of_lt (by omega:b<2 ^ 8),Nat.shiftLeft_eq];exact w64
theorem mG {ρ :Type} (p:Prop) [Decidable p] (k:Option ρ):chk (decide p) k=if p then k else none:=by by_cases h:p<;>simp [chk,h]
theorem Jv {ρ :Type} (k:Option ρ):chk true k=k:=rfl
def mJ {ρ :Type} (b:Bool) (k:Option ρ):chk (!b|| !!b) k=k:=by cases b<;>rfl
def Pn {ρ :Type} (b:Bool) (k:Option ρ):chk (b|| !b) k=k:=by cases b<;>rfl
def AaP {ρ :Type} (b:Bool) (k:Option ρ):chk (bif b then true else !b) k=k:=by cases b<;>rfl
def Og {ρ :Type} (b:Bool) (k:Option ρ):chk (bif b then true else true) k=k:=by cases b<;>rfl
def PT {ρ :Type} (b:Bool) (k:Option ρ):chk (bif b then b else true) k=k:=by cases b<;>rfl
def Ad4 (a b:Bool):(bif a then true else b)=(a||b):=by cases a<;>rfl
def AnJ (a b:Bool):(bif a then b else false)=(a&&b):=by cases a<;>rfl
def VL {α :Type} (p:Prop) [Decidable p] (a b: α):(bif decide p then a else b)=if p then a else b:=by by_cases h:p<;>simp [h]
def AaQ {ρ :Type} (b:Bool) (k:Option ρ):chk (b||true) k=k:=by cases b<;>rfl
def Qc {α :Type} (b:Bool) (x y: α):(bif b then x else y)=if b=true then x else y:=by cases b<;>rfl
def AnL {ρ :Type} (b:Bool) (k:Option ρ):chk b k=if b=true then k else none:=by cases b<;>rfl
theorem Jr {α ρ :Type} [Inhabited α] (a: α) (k: α ->Option ρ):Jq (some a) k=k a:=rfl
def NU {α ρ :Type} (A:(α ->Option ρ)->Option ρ) (f: α ->Option ρ):JX A f=A f:=rfl
def Ah2 {α ρ :Type} {A:(α ->Option ρ)->Option ρ} {f: α ->Option ρ} (P: α ->Prop) (Q:Option ρ ->Prop) (hA: ∀ j: α ->Option ρ,(∀ x,P x->Q (j x))->Q (A j)) (hf: ∀ x,P x->Q (f x)):Q (JX A f):=hA f hf
def Ls {X Y ρ :Type} (B:X->(X->Option ρ)->(Y->Option ρ)->Option ρ) (n:Nat) (x:X) (kx:Y->Option ρ):Jz B (n+1) x kx=B x (fun x'=>Jz B n x' kx) kx:=rfl
def MK {X Y ρ :Type} {B:X->(X->Option ρ)->(Y->Option ρ)->Option ρ} {kx:Y->Option ρ} (I:X->Prop) (μ :X->Nat) (F:X->Option ρ)
 (h: ∀ x,I x-> ∀ k:X->Option ρ,(∀ x',I x'-> μ x'< μ x->k x'=F x')->B x k kx=F x): ∀(N:Nat) (x:X),I x-> μ x<N->Jz B N x kx=F x:=by
 intro N
 induction N with
 | zero=>intro x _ h;omega
 | succ N ih=>intro x hI hm;exact h x hI _ (fun x' hI' hm'=>ih x' hI' (by omega))
def QV {X Y ρ :Type} {B:X->(X->Option ρ)->(Y->Option ρ)->Option ρ} {kx:Y->Option ρ} (I:X->Prop) (μ :X->Nat) (Q:Option ρ ->Prop)
 (h: ∀ x,I x-> ∀ k:X->Option ρ,(∀ x',I x'-> μ x'< μ x->Q (k x'))->Q (B x k kx)): ∀(N:Nat) (x:X),I x-> μ x<N->Q (Jz B N x kx):=by
 intro N
 induction N with
 | zero=>intro x _ h;omega
 | succ N ih=>intro x hI hm;exact h x hI _ (fun x' hI' hm'=>ih x' hI' (by omega))
def AaV {E S ρ :Type} (step:E->S->(S->Option ρ)->Option ρ) (fin:S->Option ρ):List E->S->Option ρ
 | [],s=>fin s
 | e::r,s=>step e s (fun s'=>AaV step fin r s')
def Apn {X Y S E ρ :Type} {B:X->(X->Option ρ)->(Y->Option ρ)->Option ρ} {kx:Y->Option ρ} (mk:Int->S->X) (l:List E) (d:E) (step:E->S->(S->Option ρ)->Option ρ) (fin:S->Option ρ)
 (h: ∀(i:Nat) (s:S) (k:X->Option ρ),i<l.length->B (mk (i:Int) s) k kx=step (l.getD i d) s (fun s'=>k (mk ((i:Int)+1) s')))
 (hend: ∀(s:S) (k:X->Option ρ),B (mk (l.length:Int) s) k kx=fin s) (N:Nat) (s:S) (hN:l.length<N):Jz B N (mk 0 s) kx=AaV step fin l s:=by
 have key: ∀(n i:Nat) (s:S),i<=l.length->l.length - i<n->Jz B n (mk (i:Int) s) kx=AaV step fin (l.drop i) s:=by
  intro n
  induction n with
  | zero=>intro i s _ h;omega
  | succ n ih =>
   intro i s hi hn;rw[Ls];by_cases hl:i<l.length
   .rw[h i s _ hl,Ep hl];show _=step l[i] s (fun s'=>AaV step fin (l.drop (i+1)) s');rw[show l.getD i d=l[i] by simp [Dj,hl]];congr 1;funext s';exact ih (i+1) s' (by omega) (by omega)
   .have:i=l.length:=by omega
    rw[this,hend,FY];rfl
 exact key N 0 s (by omega) (by omega)
def KP {E:Type} (f:E->Int):List E->Int
 | []=>0
 | e::r=>if f e≠0 then f e else KP f r
set_option linter.defProp false in
def Aa_r {ρ:Type} (b:Bool) (k:Option ρ):Aa b k=chk (b||!b) k:=rfl
def Aa_e {ρ:Type} (b:Bool) (k:Option ρ):Aa b k=k:=by cases b<;>rfl
def Ac_r {ρ:Type} (b:Bool) (k:Option ρ):Ac b k=chk (b||!b) (chk (b||!b) k):=rfl
def Ac_e {ρ:Type} (b:Bool) (k:Option ρ):Ac b k=k:=by cases b<;>rfl
def Ad_r {ρ:Type} (b:Bool) (k:Option ρ):Ad b k=chk (b||!b) (chk (b||!b) (chk (b||!b) k)):=rfl
def Ad_e {ρ:Type} (b:Bool) (k:Option ρ):Ad b k=k:=by cases b<;>rfl
def Ae_r {ρ:Type} (b:Bool) (k:Option ρ):Ae b k=chk (b||!b) (chk (b||!b) (chk (b||!b) (chk (b||!b) k))):=rfl
def Ae_e {ρ:Type} (b:Bool) (k:Option ρ):Ae b k=k:=by cases b<;>rfl
def Af_r {ρ:Type} (b:Bool) (k:Option ρ):Af b k=chk (b||!b) (chk (b||!b) (chk (b||!b) (chk (b||!b) (chk (b||!b) k)))):=rfl
def Af_e {ρ:Type} (b:Bool) (k:Option ρ):Af b k=k:=by cases b<;>rfl
def Ag_r {ρ:Type} (b:Bool) (k:Option ρ):Ag b k=chk (b||!b) (chk (b||!b) (chk (b||!b) (chk (b||!b) (chk (b||!b) (chk (b||!b) k))))):=rfl
def Ag_e {ρ:Type} (b:Bool) (k:Option ρ):Ag b k=k:=by cases b<;>rfl
def Ah_r {ρ:Type} (b:Bool) (k:Option ρ):Ah b k=chk (bif b then b else true) (chk (bif b then true else true) k):=rfl
def Ah_e {ρ:Type} (b:Bool) (k:Option ρ):Ah b k=k:=by cases b<;>rfl
def Ai_r {ρ:Type} (b:Bool) (k:Option ρ):Ai b k=chk (bif b then true else !b) (chk (bif b then true else true) k):=rfl
def Ai_e {ρ:Type} (b:Bool) (k:Option ρ):Ai b k=k:=by cases b<;>rfl
def Aj_r {ρ:Type} (i:Int) (n:Nat) (k:Option ρ):Aj i n k=chk (decide (0<=i)) (chk (decide (i<(n:Int))) k):=rfl
def Aj_e {ρ:Type} (i:Int) (n:Nat) (k:Option ρ):Aj i n k=chk (decide (0<=i)) (chk (decide (i<(n:Int))) k):=rfl
def Ak_r {ρ:Type} (p:Prop) [Decidable p] (k:Option ρ):Ak p k=chk (decide p) k:=rfl
def Ak_e {ρ:Type} (p:Prop) [Decidable p] (k:Option ρ):Ak p k=chk (decide p) k:=rfl
def Am_r {ρ:Type} (n:Nat) (k:Option ρ):Am n k=chk (decide (n<=140737488355328)) k:=rfl
def Am_e {ρ:Type} (n:Nat) (k:Option ρ):Am n k=chk (decide (n<=140737488355328)) k:=rfl
def CW_e {a b c d e:Type} (x:a×b×c×d×e):CW x=x.2.2.2.2:=rfl
def CX_e {a b c d e f g h i:Type} (x:a×b×c×d×e×f×g×h×i):CX x=x.2.2.2.2.2.2.2.2:=rfl
def CY_e {a b c d e f g h i j k l m:Type} (x:a×b×c×d×e×f×g×h×i×j×k×l×m):CY x=x.2.2.2.2.2.2.2.2.2.2.2.2:=rfl
def CZ_e {a b c d e f g h i j k l m n o p q:Type} (x:a×b×c×d×e×f×g×h×i×j×k×l×m×n×o×p×q):CZ x=x.2.2.2.2.2.2.2.2.2.2.2.2.2.2.2.2:=rfl
def Dc_e {a b c d e f g h i j k l m n o p q r s t u:Type} (x:a×b×c×d×e×f×g×h×i×j×k×l×m×n×o×p×q×r×s×t×u):Dc x=x.2.2.2.2.2.2.2.2.2.2.2.2.2.2.2.2.2.2.2.2:=rfl
def Df_e {a b c d e f g h i j k l m n o p q r s t u v w x y:Type} (x:a×b×c×d×e×f×g×h×i×j×k×l×m×n×o×p×q×r×s×t×u×v×w×x×y):Df x=x.2.2.2.2.2.2.2.2.2.2.2.2.2.2.2.2.2.2.2.2.2.2.2.2:=rfl
def Dh_e {a b c d e f g h i j k l m n o p q r s t u v w x y z A B C:Type} (x:a×b×c×d×e×f×g×h×i×j×k×l×m×n×o×p×q×r×s×t×u×v×w×x×y×z×A×B×C):Dh x=x.2.2.2.2.2.2.2.2.2.2.2.2.2.2.2.2.2.2.2.2.2.2.2.2.2.2.2.2:=rfl
def Ap:=And.intro @Dh_e (And.intro @Df_e (And.intro @Dc_e (And.intro @CZ_e (And.intro @CY_e (And.intro @CX_e (And.intro @CW_e (And.intro @Am_r (And.intro @Ak_r (And.intro @Aj_r (And.intro @Ai_r (And.intro @Ah_r (And.intro @Ag_r (And.intro @Af_r (And.intro @Ae_r (And.intro @Ad_r (And.intro @Ac_r (@Aa_r)))))))))))))))))
def clR:=And.intro @Dh_e (And.intro @Df_e (And.intro @Dc_e (And.intro @CZ_e (And.intro @CY_e (And.intro @CX_e (And.intro @CW_e (And.intro @Am_e (And.intro @Ak_e (And.intro @Aj_e (And.intro @Ai_e (And.intro @Ah_e (And.intro @Ag_e (And.intro @Af_e (And.intro @Ae_e (And.intro @Ad_e (And.intro @Ac_e (And.intro @Aa_e (And.intro @Yq (And.intro @G8 (And.intro @II (And.intro @Gt (And.intro @I8 (And.intro @GV (And.intro @Ir (And.intro @Jc (And.intro @Jv (And.intro @Ew (And.intro @DR (And.intro @Iu (@GL.{1}))))))))))))))))))))))))))))))
def KY {ρ :Type} {c:Bool} (k:Option ρ) (h:c=true):chk c k=k:=by rw[h];rfl
def TP (c:UInt8):c.toNat<256:=Hq c
theorem getD_lt {α :Type} (l:List α) (i:Nat) (d: α) (h:i<l.length:=by omega):l.getD i d=l[i]:=by rw[Dj,DC h];rfl
theorem AnI {α :Type} {p: α ->Bool} {l:List α} (h:l.all p=true) {i:Nat} (hi:i<l.length):p l[i]=true:=DD.1 h _ (Ef hi)
def PE {E S ρ :Type} (step:E->S->Option ρ ⊕ S) (fin:S->Option ρ):List E->S->Option ρ
 | [],s=>fin s
 | e::r,s=>match step e s with
  | .inl x=>x
  | .inr s'=>PE step fin r s'
def gU {X S ρ :Type} (b:(X->Option ρ)->Option ρ) (nx:S->X) (I:S->Prop):Option ρ ⊕ S->Prop
 | .inl x=> ∀ k,b k=x
 | .inr s'=>(∀ k,b k=k (nx s'))/\I s'
def NT {X Y S E ρ :Type} {B:X->(X->Option ρ)->(Y->Option ρ)->Option ρ} {kx:Y->Option ρ} (mk:Int->S->X) (l:List E) (d:E) (I:Nat->S->Prop) (step:E->S->Option ρ ⊕ S) (fin:S->Option ρ)
 (h: ∀(i:Nat) (s:S),i<l.length->I i s->gU (fun k=>B (mk (i:Int) s) k kx) (mk ((i:Int)+1)) (I (i+1)) (step (l.getD i d) s))
 (hend: ∀(s:S) (k:X->Option ρ),I l.length s->B (mk (l.length:Int) s) k kx=fin s) (N:Nat) (s:S) (h0:I 0 s) (hN:l.length<N:=by omega):Jz B N (mk 0 s) kx=PE step fin l s:=by
 have key: ∀(n i:Nat) (s:S),I i s->i<=l.length->l.length - i<n->Jz B n (mk (i:Int) s) kx=PE step fin (l.drop i) s:=by
  intro n
  induction n with
  | zero=>intro i s _ _ h;omega
  | succ n ih =>
   intro i s hI hi hn;rw[Ls];by_cases hl:i<l.length
   .have h1:=h i s hl hI;rw[Ep hl];show _=(match step l[i] s with | .inl x=>x | .inr s'=>PE step fin (l.drop (i+1)) s');rw[show l.getD i d=l[i] by simp [Dj,hl]]at h1;cases hs:step l[i] s with
    | inl x=>rw[hs]at h1;exact h1 _
    | inr s' =>rw[hs]at h1;obtain⟨h2,h3⟩:=h1;exact(h2 _).trans (ih (i+1) _ h3 (by omega) (by omega))
   .have:i=l.length:=by omega
    subst this;rw[hend s _ hI,FY];rfl
 exact key N 0 s h0 (by omega) (by omega)
def Oo {X Y S E ρ :Type} {B:X->(X->Option ρ)->(Y->Option ρ)->Option ρ} {kx:Y->Option ρ} (mk:Int->S->X) (out:S->Y) (l:List E) (d:E) (I:Nat->S->Prop) (step:E->S->Option ρ ⊕ S)
 (h: ∀(i:Nat) (s:S),i<l.length->I i s->gU (fun k=>B (mk (i:Int) s) k kx) (mk ((i:Int)+1)) (I (i+1)) (step (l.getD i d) s))
 (hend: ∀(s:S) (k:X->Option ρ),I l.length s->B (mk (l.length:Int) s) k kx=kx (out s)) (N:Nat) (s:S) (h0:I 0 s) (hN:l.length<N:=by omega):Jz B N (mk 0 s) kx=PE step (fun s=>kx (out s)) l s :=
 NT mk l d I step _ h hend N s h0 hN
def Qn {α β :Type} (f: α ->Option β):List α ->Option (List β)
 | []=>some []
 | a::r=>match f a,Qn f r with
  | some b,some t=>some (b::t)
  | _,_=>none
def bT {E β S ρ :Type} (f:E->Option β) (g:S-> β ->S) (bad:Option ρ) (e:E) (s:S):Option ρ ⊕ S:=(f e).elim (.inl bad) (fun b=>.inr (g s b))
def Au1 {X E β S ρ :Type} {f:E->Option β} {g:S-> β ->S} {bad:Option ρ} {e:E} {s:S} {b:(X->Option ρ)->Option ρ} {nx:S->X} {I:S->Prop} (h1:f e=none-> ∀ k,b k=bad) (h2: ∀ v,f e=some v->(∀ k,b k=k (nx (g s v)))/\I (g s v)):gU b nx I (bT f g bad e s):=by
 unfold bT;cases h:f e with
 | none=>exact h1 h
 | some v=>exact h2 v h
def AlN {E β S ρ :Type} (f:E->Option β) (g:S-> β ->S) (bad:Option ρ) (fin:S->Option ρ): ∀(l:List E) (s:S),PE (bT f g bad) fin l s=(Qn f l).elim bad (fun bs=>fin (bs.foldl g s)):=by
 intro l
 induction l with
 | nil=>intro s;rfl
 | cons e r ih =>
  intro s;have h1:bT f g bad e s=(f e).elim (.inl bad) (fun b=>.inr (g s b)):=rfl;unfold PE Qn;rw[h1];cases f e with
  | none=>rfl
  | some b =>show PE (bT f g bad) fin r (g s b)=_;rw[ih];cases Qn f r<;>rfl
def Aru {α β :Type} (h: α -> β): ∀(l:List α) (a:List β),l.foldl (fun a x=>a++[h x]) a=a++l.map h:=by
 intro l
 induction l with
 | nil=>intro a;simp
 | cons x r ih=>intro a;rw[List.foldl_cons,ih];simp
def AcR {α β :Type} {f: α ->Option β}: ∀ {l:List α} {r:List β},Qn f l=some r->r.length=l.length:=by
 intro l
 induction l with
 | nil=>intro r h;injection h with h;subst h;rfl
 | cons a t ih =>
  intro r h;unfold Qn at h;split at h
  .rename_i b q h1 h2;injection h with h;subst h;simp [ih h2]
  .cases h
def Y8 {a b:Int} {q:Decidable (a<b)} (h:a<b:=by omega): @decide (a<b) q=true:= @Di _ q h
def AaU {a b:Int} {q:Decidable (a<b)} (h:b<=a:=by omega): @decide (a<b) q=false:= @Dn _ q (by omega)
def Vq {a b:Int} {q:Decidable (a<=b)} (h:a<=b:=by omega): @decide (a<=b) q=true:= @Di _ q h
def AuM {a b:Int} {q:Decidable (a<=b)} (h:b<a): @decide (a<=b) q=false:= @Dn _ q (by omega)
def AdT {a b:Int} {q:Decidable (a>b)} (h:b<a): @decide (a>b) q=true:= @Di _ q h
def Ajp {a b:Int} {q:Decidable (a>b)} (h:a<=b): @decide (a>b) q=false:= @Dn _ q (by omega)
def Axq {a b:Int} {q:Decidable (a>=b)} (h:b<=a): @decide (a>=b) q=true:= @Di _ q h
def Axp {a b:Int} {q:Decidable (a>=b)} (h:a<b): @decide (a>=b) q=false:= @Dn _ q (by omega)
def Ajy {a b:Nat} {q:Decidable (a<b)} (h:a<b): @decide (a<b) q=true:= @Di _ q h
def Ajx {a b:Nat} {q:Decidable (a<b)} (h:b<=a): @decide (a<b) q=false:= @Dn _ q (by omega)
def Abe {a b:Nat} {q:Decidable (a<=b)} (h:a<=b): @decide (a<=b) q=true:= @Di _ q h
def AeI {a b:Nat} {q:Decidable (a<=b)} (h:b<a): @decide (a<=b) q=false:= @Dn _ q (by omega)
def PH {a b:Int} (h:a=b):(a==b)=true:=by subst h;exact ER _
def NP {a b:Int} (h:a≠b:=by omega):(a==b)=false:=Ed h
def dF {a b:Int} (h:a≠b):(a != b)=true:=by unfold bne;rw[NP h];rfl
def lU {a b:Int} (h:a=b):(a != b)=false:=by unfold bne;rw[PH h];rfl
def toNat_add (a b:Nat):((a:Int)+(b:Int)).toNat=a+b:=by omega
def toNat_sub (a b:Nat):((a:Int) - (b:Int)).toNat=a - b:=by omega
def Aqv (a:Nat):((a:Int)+1).toNat=a+1:=by omega
def Aft (a:Nat):((a:Int) - 1).toNat=a - 1:=by omega
def KU (a:Nat):((a:Int)+1)=((a+1:Nat):Int):=rfl
def AtJ {α :Type} (a: α):(some a).isSome=true:=rfl
def getD_mem {α :Type} {l:List α} {i:Nat} (d: α) (h:i<l.length):l.getD i d∈l:=by rw[getD_lt l i d h];exact Ef h
def Uo {R S ρ :Type} (x:R ⊕ S) (ret:R->Option ρ) (k:S->Option ρ):Option ρ :=match x with
 | .inl r=>ret r
 | .inr s=>k s
def Avq {R S ρ :Type} (r:R) (ret:R->Option ρ) (k:S->Option ρ):Uo (.inl r) ret k=ret r:=rfl
def AnM {R S ρ :Type} (s:S) (ret:R->Option ρ) (k:S->Option ρ):Uo (.inr s) ret k=k s:=rfl
def QP {R S ρ :Type} (b:Bool) (x y:R ⊕ S) (ret:R->Option ρ) (k:S->Option ρ):Uo (bif b then x else y) ret k=bif b then Uo x ret k else Uo y ret k:=by cases b<;>rfl
def AqU {R S ρ :Type} (b:Prop) [Decidable b] (x y:R ⊕ S) (ret:R->Option ρ) (k:S->Option ρ):Uo (if b then x else y) ret k=if b then Uo x ret k else Uo y ret k:=by split<;>rfl
def AdE {R S ρ :Type} (x:R ⊕ S) (f:R-> ρ) (g:S-> ρ):Uo x (fun r=>some (f r)) (fun s=>some (g s))=some (x.elim f g):=by cases x<;>rfl
def QW {E R S:Type} (step:E->S->R ⊕ S):List E->S->R ⊕ S
 | [],s=>.inr s
 | e::r,s=>match step e s with
  | .inl x=>.inl x
  | .inr s'=>QW step r s'
def ArL {E R S:Type} (step:E->S->R ⊕ S) (s:S):QW step [] s= .inr s:=rfl
def QX {E R S:Type} (step:E->S->R ⊕ S) (e:E) (l:List E) (s:S):QW step (e::l) s=(step e s).elim Sum.inl (fun s'=>QW step l s'):=by simp only[QW];cases step e s<;>rfl
def jO {X Y S E R ρ :Type} {B:X->(X->Option ρ)->(Y->Option ρ)->Option ρ} {kx:Y->Option ρ} (mk:Nat->S->X) (l:List E) (d:E) (I:Nat->S->Prop) (step:E->S->R ⊕ S) (ret:R->Option ρ) (fin:S->Option ρ)
 (h: ∀(i:Nat) (s:S),i<l.length->I i s-> ∀ k,B (mk i s) k kx=Uo (step (l.getD i d) s) ret fun s'=>k (mk (i+1) s'))
 (hI: ∀(i:Nat) (s s':S),i<l.length->I i s->step (l.getD i d) s= .inr s'->I (i+1) s')
 (hend: ∀(s:S) (k:X->Option ρ),I l.length s->B (mk l.length s) k kx=fin s) (N:Nat) (s:S) (h0:I 0 s) (hN:l.length<N):Jz B N (mk 0 s) kx=Uo (QW step l s) ret fin:=by
 have key: ∀(n i:Nat) (s:S),I i s->i<=l.length->l.length - i<n->Jz B n (mk i s) kx=Uo (QW step (l.drop i) s) ret fin:=by
  intro n
  induction n with
  | zero=>intro i s _ _ h;omega
  | succ n ih =>
   intro i s hi hil hn;rw[Ls];by_cases hl:i<l.length
   .rw[h i s hl hi,Ep hl];have hs:=hI i s;rw[show l.getD i d=l[i]from getD_lt l i d hl]at *
    rw[QX];cases hst:step l[i] s with
    | inl x=>rfl
    | inr s'=>exact ih (i+1) _ (hs _ hl hi hst) (by omega) (by omega)
   .have:i=l.length:=by omega
    subst this;rw[hend s _ hi,FY];rfl
 exact key N 0 s h0 (by omega) (by omega)
def Rh {X Y S E R ρ :Type} {B:X->(X->Option ρ)->(Y->Option ρ)->Option ρ} {kx:Y->Option ρ} (mk:Nat->S->X) (l:List E) (d:E) (step:E->S->R ⊕ S) (ret:R->Option ρ) (fin:S->Option ρ)
 (h: ∀(i:Nat) (s:S),i<l.length-> ∀ k,B (mk i s) k kx=Uo (step (l.getD i d) s) ret fun s'=>k (mk (i+1) s'))
 (hend: ∀(s:S) (k:X->Option ρ),B (mk l.length s) k kx=fin s) (N:Nat) (s:S) (hN:l.length<N:=by omega):Jz B N (mk 0 s) kx=Uo (QW step l s) ret fin :=
 jO mk l d (fun _ _=>True) step ret fin (fun i s hi _=>h i s hi) (fun _ _ _ _ _ _=>trivial) (fun s k _=>hend s k) N s trivial hN
def AlQ {X Y E ρ :Type} {B:X->(X->Option ρ)->(Y->Option ρ)->Option ρ} {kx:Y->Option ρ} (mk:Nat->X) (out:Nat->Y) (l:List E) (d:E) (p:E->Bool)
 (h: ∀(i:Nat) (k:X->Option ρ),i<l.length->B (mk i) k kx=bif p (l.getD i d)then kx (out i)else k (mk (i+1)))
 (hend: ∀ k:X->Option ρ,B (mk l.length) k kx=kx (out l.length)) (N:Nat) (hN:l.length<N):Jz B N (mk 0) kx=kx (out (l.findIdx p)):=by
 have key: ∀(n i:Nat),i<=l.length->l.length - i<n->Jz B n (mk i) kx=kx (out (i+(l.drop i).findIdx p)):=by
  intro n
  induction n with
  | zero=>intro i _ h;omega
  | succ n ih =>
   intro i hi hn;rw[Ls];by_cases hl:i<l.length
   .rw[h i _ hl,Ep hl,Gp,show l.getD i d=l[i]from getD_lt l i d hl];cases p l[i]with
    | true=>rfl
    | false =>rw[cond_false,cond_false,ih (i+1) (by omega) (by omega)];congr 2;omega
   .have:i=l.length:=by omega
    subst this;rw[hend,FY];rfl
 have:=key N 0 (EG _) (by omega);rwa [DV,FP]at this
def Ak3 {E:Type} (p:E->Bool): ∀ l:List E,(∀ x∈l,p x=false)->l.findIdx p=l.length:=by
 intro l
 induction l with
 | nil=>intro _;rfl
 | cons x r ih =>intro h;rw[Gp,h x Dv,ih (fun y hy=>h y (Dw _ hy))];rfl
def AoX {E:Type} (p:E->Bool): ∀(a:List E) (x:E) (r:List E),(∀ x∈a,p x=false)->p x=true->(a++x::r).findIdx p=a.length:=by
 intro a
 induction a with
 | nil=>intro x r _ h;rw[List.nil_append,Gp,h];rfl
 | cons y a ih =>intro x r h hx;rw[List.cons_append,Gp,h y Dv,ih x r (fun y hy=>h y (Dw _ hy)) hx];rfl
def zI {E R:Type} (p:E->Bool) (r:R): ∀ l:List E,QW (fun e (_:Unit)=>bif p e then .inr ()else .inl r) l ()=bif l.all p then .inr ()else .inl r:=by
 intro l
 induction l with
 | nil=>rfl
 | cons e t ih =>
  rw[QX,List.all_cons];cases p e with
  | true=>exact ih
  | false=>rfl
def Ah5 {E R:Type} (p:E->Bool) (r:R): ∀ l:List E,QW (fun e (_:Unit)=>bif p e then .inl r else .inr ()) l ()=bif l.any p then .inl r else .inr ():=by
 intro l
 induction l with
 | nil=>rfl
 | cons e t ih =>
  rw[QX,List.any_cons];cases p e with
  | true=>rfl
  | false=>exact ih
def AmS {E:Type} (f:E->Int): ∀ l:List E,QW (fun e (_:Unit)=>bif f e != 0 then .inl (f e)else .inr ()) l ()=bif KP f l != 0 then .inl (KP f l)else .inr ():=by
 intro l
 induction l with
 | nil=>rfl
 | cons e t ih =>
  rw[QX];unfold KP;by_cases h:f e=0
  .rw[h,show((0:Int) != 0)=false from rfl];exact ih
  .rw[Dp h,show(f e != 0)=true from Ey.2 h];rfl
def Adc {n i:Nat} (h:i<n):(List.range n).getD i 0=i:=by rw[getD_lt _ _ _ (by rw[DK];exact h),Jd]
section
variable {X Y E ρ :Type} {B:X->(X->Option ρ)->(Y->Option ρ)->Option ρ} {kx:Y->Option ρ}
def WT (mk:Nat->X) (l:List E) (d:E) (f:E->Int) (ret:Int->Option ρ) (fin:Option ρ)
 (h: ∀ i,i<l.length-> ∀ k,B (mk i) k kx=bif f (l.getD i d) != 0 then ret (f (l.getD i d))else k (mk (i+1)))
 (hend: ∀ k,B (mk l.length) k kx=fin) (N:Nat) (hN:l.length<N:=by omega):Jz B N (mk 0) kx=bif KP f l != 0 then ret (KP f l)else fin:=by
 refine E5 (Rh (S:=Unit) (R:=Int) (mk:=fun i _=>mk i) l d (fun e _=>bif f e != 0 then .inl (f e)else .inr ()) ret (fun _=>fin) ?_ (fun _ k=>hend k) N () hN) ?_
 .intro i _ hi k;rw[h i hi,QP];rfl
 .rw[AmS,QP];rfl
def aV (mk:Nat->X) (n:Nat) (f:Nat->Int) (ret:Int->Option ρ) (fin:Option ρ)
 (h: ∀ i,i<n-> ∀ k,B (mk i) k kx=bif f i != 0 then ret (f i)else k (mk (i+1)))
 (hend: ∀ k,B (mk n) k kx=fin) (N:Nat) (hN:n<N:=by omega):Jz B N (mk 0) kx=bif KP f (List.range n) != 0 then ret (KP f (List.range n))else fin:=by
 refine WT mk (List.range n) 0 f ret fin ?_ ?_ N (by rw[DK];exact hN)
 .intro i hi k;rw[DK]at hi;rw[Adc hi];exact h i hi k
 .intro k;rw[DK];exact hend k
def bV (mk:Nat->X) (l:List E) (d:E) (p:E->Bool) (x fin:Option ρ)
 (h: ∀ i,i<l.length-> ∀ k,B (mk i) k kx=bif p (l.getD i d)then x else k (mk (i+1)))
 (hend: ∀ k,B (mk l.length) k kx=fin) (N:Nat) (hN:l.length<N:=by omega):Jz B N (mk 0) kx=bif l.any p then x else fin:=by
 refine E5 (Rh (S:=Unit) (R:=Unit) (mk:=fun i _=>mk i) l d (fun e _=>bif p e then .inl ()else .inr ()) (fun _=>x) (fun _=>fin) ?_ (fun _ k=>hend k) N () hN) ?_
 .intro i _ hi k;rw[h i hi,QP];rfl
 .rw[Ah5,QP];rfl
end
def first_some (e:Int):(bif e != 0 then some e else some 0)=some e:=by
 by_cases h:e=0
 .subst h;rfl
 .rw[show(e != 0)=true from Ey.2 h];rfl
def Oe {α :Type} (b:Bool) (x y: α):(bif b then some x else some y)=some (bif b then x else y):=by cases b<;>rfl
theorem RN {E:Type} (f:E->Int) (x:E) (r:List E):KP f (x::r)=bif f x != 0 then f x else KP f r:=by
 show(if f x≠0 then f x else KP f r)=_;by_cases h:f x=0
 .rw[Dk (fun hn=>hn h),h];rfl
 .rw[Dp h,show(f x != 0)=true from Ey.2 h];rfl
def xQ {α :Type} (l:List α) (i:Nat):J6 l 0 i=l.take i:=rfl
section
variable {X Y E A ρ :Type} {B:X->(X->Option ρ)->(Y->Option ρ)->Option ρ} {kx:Y->Option ρ}
def Ap3 (er:E->Int) (g:E->A): ∀(l:List E) (acc:List A),QW (fun e (acc:List A)=>bif er e != 0 then Sum.inl (er e)else Sum.inr (acc++[g e])) l acc=bif KP er l != 0 then .inl (KP er l)else .inr (acc++l.map g):=by
 intro l
 induction l with
 | nil=>intro acc;rw[Fg,En];rfl
 | cons e r ih =>
  intro acc;rw[QX,RN];cases h:er e != 0 with
  | true=>rw[cond_true,cond_true,h];rfl
  | false =>rw[cond_false,cond_false];show QW _ r (acc++[g e])=_;rw[ih,Ej];rfl
def AkA (mk:Nat->List A->X) (l:List E) (d:E) (er:E->Int) (g:E->A) (ret:Int->Option ρ) (fin:List A->Option ρ)
 (h: ∀(i:Nat) (acc:List A),i<l.length->acc.length=i-> ∀ k,B (mk i acc) k kx=bif er (l.getD i d) != 0 then ret (er (l.getD i d))else k (mk (i+1) (acc++[g (l.getD i d)])))
 (hend: ∀(acc:List A) (k:X->Option ρ),acc.length=l.length->B (mk l.length acc) k kx=fin acc) (N:Nat) (hN:l.length<N):Jz B N (mk 0 []) kx=bif KP er l != 0 then ret (KP er l)else fin (l.map g):=by
 refine(jO (S:=List A) (R:=Int) mk l d (fun i acc=>acc.length=i) (fun e acc=>bif er e != 0 then .inl (er e)else .inr (acc++[g e])) ret fin ?_ ?_ (fun acc k ha=>hend acc k ha) N [] rfl hN).trans ?_
 .intro i acc hi ha k;rw[h i acc hi ha,QP];rfl
 .intro i acc acc' hi ha he;cases hb:er (l.getD i d) != 0 with
  | true=>rw[hb]at he;cases he
  | false =>rw[hb]at he;injection he with he;subst he;rw[Dx,ha];rfl
 .rw[Ap3,QP,List.nil_append];rfl
def Ak4: ∀ l:List E,KP (fun _=>(0:Int)) l=0:=by
 intro l
 induction l with
 | nil=>rfl
 | cons e r ih=>rw[RN];exact ih
def Yr (mk:Nat->List A->X) (l:List E) (d:E) (g:E->A) (fin:List A->Option ρ)
 (h: ∀(i:Nat) (acc:List A),i<l.length->acc.length=i-> ∀ k,B (mk i acc) k kx=k (mk (i+1) (acc++[g (l.getD i d)])))
 (hend: ∀(acc:List A) (k:X->Option ρ),acc.length=l.length->B (mk l.length acc) k kx=fin acc) (N:Nat) (hN:l.length<N:=by omega):Jz B N (mk 0 []) kx=fin (l.map g):=by
 refine(AkA mk l d (fun _=>0) g (fun _=>none) fin (fun i acc hi ha k=>h i acc hi ha k) hend N hN).trans ?_;rw[Ak4];rfl
def Ahs (g:E->Bs) (l:List E) (d:E) {i:Nat} (h:i<l.length):((l.take i).map g).flatten++g (l.getD i d)=((l.take (i+1)).map g).flatten:=by rw[getD_lt l i d h,FC,DC h,F7,G9];simp
def Av3 (g:E->Bs) (l:List E) (i:Nat):((l.take i).map g).flatten.length<=(l.map g).flatten.length:=by
 conv=>rhs;rw[<- GM i l,F7,G9,Dx]
 omega
def pJ (mk:Nat->Bs->X) (l:List E) (d:E) (er:E->Int) (g:E->Bs) (ret:Int->Option ρ) (fin:Bs->Option ρ)
 (h: ∀(i:Nat) (t:Bs),i<l.length->t.length+(g (l.getD i d)).length<=(l.map g).flatten.length-> ∀ k,B (mk i t) k kx=bif er (l.getD i d) != 0 then ret (er (l.getD i d))else k (mk (i+1) (t++g (l.getD i d))))
 (hend: ∀(t:Bs) (k:X->Option ρ),B (mk l.length t) k kx=fin t) (N:Nat) (hN:l.length<N:=by omega):Jz B N (mk 0 []) kx=bif KP er l != 0 then ret (KP er l)else fin (l.map g).flatten:=by
 refine(jO (S:=Bs) (R:=Int) mk l d (fun i t=>t=((l.take i).map g).flatten) (fun e t=>bif er e != 0 then .inl (er e)else .inr (t++g e)) ret fin ?_ ?_ (fun t k _=>hend t k) N [] rfl hN).trans ?_
 .intro i t hi ht k;rw[h i t hi ?_,QP]
  .rfl
  .rw[ht,<- Dx,Ahs g l d hi];exact Av3 g l (i+1)
 .intro i t t' hi ht he;cases hb:er (l.getD i d) != 0 with
  | true=>rw[hb]at he;cases he
  | false =>rw[hb]at he;injection he with he;rw[<- he,ht,Ahs g l d hi]
 .have: ∀(l:List E) (t:Bs),QW (fun e (t:Bs)=>bif er e != 0 then Sum.inl (er e)else Sum.inr (t++g e)) l t=bif KP er l != 0 then .inl (KP er l)else .inr (t++(l.map g).flatten):=by
   intro l
   induction l with
   | nil=>intro t;simp [ArL,KP]
   | cons e r ih =>
    intro t;rw[QX,RN];cases h:er e != 0 with
    | true=>rw[cond_true,cond_true,h];rfl
    | false=>rw[cond_false,cond_false,Em,List.flatten_cons,<- Ej,<- ih];rfl
  rw[this,QP,List.nil_append];rfl
def Af8 (mk:Nat->Bs->X) (l:List E) (d:E) (g:E->Bs) (fin:Bs->Option ρ)
 (h: ∀(i:Nat) (t:Bs),i<l.length->t.length+(g (l.getD i d)).length<=(l.map g).flatten.length-> ∀ k,B (mk i t) k kx=k (mk (i+1) (t++g (l.getD i d))))
 (hend: ∀(t:Bs) (k:X->Option ρ),B (mk l.length t) k kx=fin t) (N:Nat) (hN:l.length<N:=by omega):Jz B N (mk 0 []) kx=fin (l.map g).flatten:=by
 refine(pJ mk l d (fun _=>0) g (fun _=>none) fin (fun i t hi ht k=>h i t hi ht k) hend N hN).trans ?_;rw[Ak4];rfl
def Art {f:E->Int}: ∀ {l:List E},(∀ e∈l,f e=0)->KP f l=0:=by
 intro l
 induction l with
 | nil=>intro _;rfl
 | cons e r ih=>intro h;rw[RN,h e Dv];exact ih fun e he=>h e (Dw _ he)
def Zl {f:E->Int}: ∀ {l:List E},KP f l=0-> ∀ e∈l,f e=0:=by
 intro l
 induction l with
 | nil=>intro _ e he;cases he
 | cons x r ih =>
  intro h e he;rw[RN]at h;cases hx:f x != 0 with
  | true=>rw[hx]at h;rw[show f x=0 from h]at hx;cases hx
  | false =>
   rw[hx]at h;rcases D6.1 he with rfl | he
   .simpa using hx
   .exact ih h e he
def Oa {g:E->Bs} {M:Nat}: ∀ {l:List E},(∀ e∈l,(g e).length<=M)->(l.map g).flatten.length<=M*l.length:=by
 intro l
 induction l with
 | nil=>intro _;simp
 | cons e r ih =>intro h;have h1:=h e Dv;have h2:=ih fun e he=>h e (Dw _ he);rw[Em,List.flatten_cons,Dx,List.length_cons,Nat.mul_succ];omega
end
def jS (x y:Bool):(x|| !y&& !x||y)=true:=by cases x<;>cases y<;>rfl
def U1 {α :Type} {c:Bool} {a x y: α} (h:c=false->x=y):(bif c then a else x)=bif c then a else y:=by
 cases c with
 | true=>rfl
 | false=>exact h rfl
set_option linter.defProp false in
def JZ:=And.intro @Yq (And.intro @NU (And.intro @Jv (And.intro @Jr (And.intro @cond_true.{1} (And.intro @cond_false.{1} (And.intro @Y8 (And.intro @AaU (And.intro @Vq (And.intro @AuM (And.intro @AdT (And.intro @Ajp (And.intro @Axq (And.intro @Axp (And.intro @Ajy (And.intro @Ajx (And.intro @Abe (And.intro @AeI (And.intro @PH (And.intro @NP (And.intro @dF (And.intro @lU (And.intro @w64 (And.intro @Int.toNat_natCast (And.intro @toNat_add (And.intro @toNat_sub (And.intro @Aqv (And.intro @Aft (And.intro @DR (And.intro @Ew (And.intro @EN (And.intro @ET (And.intro @EE (And.intro @FK (And.intro @Fa (And.intro @Hr (And.intro @Eh (And.intro @DY (And.intro @Jc (And.intro @GV (And.intro @Ir (And.intro @GL.{1} (And.intro @G8 (And.intro @II (And.intro @Gt (And.intro @I8 (And.intro @Iu (And.intro @Gj (And.intro @Avq (And.intro @AnM (And.intro @QP (And.intro @AqU (And.intro @U2.eq_1 (And.intro @U3.eq_1 (And.intro @U4.eq_1 (And.intro @U5.eq_1 (And.intro @U6.eq_1 (And.intro @U7.eq_1 (And.intro @U8.eq_1 (And.intro @U9.eq_1 (@U10.eq_1))))))))))))))))))))))))))))))))))))))))))))))))))))))))))))
end Go.Proofs.YtehkhflpjkokeaaGreatDoor.Vm
namespace Go.Proofs.YtehkhflpjkokeaaGreatDoor.Pl
open IntKind (i64 u8 u32 u64)
open Go Vm
def AcU {α :Type} {P: α ->Prop} {l:List α} {x: α} (h: ∀ y∈l,P y) (hx:P x): ∀ y∈l++[x],P y:=by
 intro y hy;rcases DJ.1 hy with hy | hy
 .exact h y hy
 .rw[DT.1 hy];exact hx
def Ends {α :Type} (Q: α ->Prop) (o:Option α):Prop:= ∃ v,o=some v/\Q v
theorem Kr {α :Type} {Q: α ->Prop} {v: α} (h:Q v):Ends Q (some v):=⟨v,rfl,h⟩
def JK {α ρ :Type} [Inhabited α] {P: α ->Prop} {Q: ρ ->Prop} {o:Option α} {k: α ->Option ρ} (h:Ends P o) (hk: ∀ v,P v->Ends Q (k v)):Ends Q (Jq o k):=by obtain⟨v,rfl,hv⟩:=h;exact hk v hv
def JG {ρ :Type} {Q: ρ ->Prop} {c:Bool} {k:Option ρ} (h:c=true) (hk:Ends Q k):Ends Q (Vm.chk c k):=by rw[h];exact hk
def JQ {ρ :Type} {Q: ρ ->Prop} {c:Bool} {x y:Option ρ} (h1:c=true->Ends Q x) (h2:c=false->Ends Q y):Ends Q (bif c then x else y):=by
 cases c with
 | true=>exact h1 rfl
 | false=>exact h2 rfl
def PY {α ρ :Type} {P: α ->Prop} {Q: ρ ->Prop} {A:(α ->Option ρ)->Option ρ} {f: α ->Option ρ} (hA: ∀ j: α ->Option ρ,(∀ x,P x->Ends Q (j x))->Ends Q (A j)) (hf: ∀ x,P x->Ends Q (f x)):Ends Q (JX A f):=hA f hf
def PX {X Y ρ :Type} {B:X->(X->Option ρ)->(Y->Option ρ)->Option ρ} {kx:Y->Option ρ} {Q: ρ ->Prop} (I:X->Prop) (μ :X->Nat)
 (h: ∀ x,I x-> ∀ k:X->Option ρ,(∀ x',I x'-> μ x'< μ x->Ends Q (k x'))->Ends Q (B x k kx)) (N:Nat) (x:X) (hI:I x) (hm: μ x<N):Ends Q (Jz B N x kx):=QV I μ (Ends Q) h N x hI hm
def Ar0 {α :Type} {P Q: α ->Prop} {o:Option α} (h:Ends P o) (hq: ∀ v,P v->Q v):Ends Q o:=by obtain⟨v,rfl,hv⟩:=h;exact⟨v,rfl,hq v hv⟩
def KO (L:List Int) (d:List Int×Int):Prop:= ∃ k:Nat,d=(L,(k:Int))/\k<=L.length
def ArS (N:Nat) {L:List Int} (hL:L.length<=9223372036854775807) {d:List Int×Int} (hd:KO L d) (n:Nat) (hn:0<n) (hn':n<2147483648) :
 Ends (fun r=>0<=r.1/\r.1<(n:Int)/\KO L r.2) (JB N d (n:Int)):=by
 obtain⟨k,rfl,hk⟩:=hd;unfold JB;try simp -zeta only[Ap]
 try dsimp only
 by_cases h:k<L.length
 .rw[VL,Ay9,w64 (x:=(k:Int)+1),w64 (x:=(k:Int)+1 - 1),mG,AyA,mG,AyA];generalize L.getD _ _=x;have hne:((n:Int) != 0)=true:=by simp;omega
  rw[hne,Jv,Jv];have h1:=Je x (show(0:Int)<(n:Int) by omega);have h2: -(n:Int)<x.tmod (n:Int):=Int.lt_tmod_of_pos x (by omega);rw[w64 (x:=x.tmod (n:Int)+(n:Int))];have h3:0<=(x.tmod (n:Int)+(n:Int)).tmod (n:Int):=Int.tmod_nonneg _ (by omega);have h4:=Je (x.tmod (n:Int)+(n:Int)) (show(0:Int)<(n:Int) by omega);refine⟨_,rfl,h3,h4,k+1,by rw[show((k+1:Nat):Int)=(k:Int)+1 by omega],h⟩
 .rw[VL,AyA];exact⟨_,rfl,FH _,by show(0:Int)<n;omega,k,rfl,hk⟩
def Yw {α :Type} {P: α ->Prop} {l:List α} {d: α} {i:Int} (h: ∀ x∈l,P x) (h0:0<=i) (hi:i<(l.length:Int)):P (l.getD i.toNat d):=h _ (getD_mem d (by omega))
section
variable (N:Nat) (hN:1048578<N) {L:List Int} (hL:L.length<=9223372036854775807)
include hL
theorem nx {d:List Int×Int} (hd:KO L d) (n:Int) (h0:0<n) (h1:n<2147483648:=by omega):Ends (fun r=>0<=r.1/\r.1<n/\KO L r.2) (JB N d n):=by
 have:=ArS N hL hd n.toNat (by omega) (by omega)
 rw[show((n.toNat:Nat):Int)=n by omega]at this;exact this
end
def Pv (y:Int):Bool:=bif y.tmod 4==0 then(bif y.tmod 100 != 0 then true else y.tmod 400==0)else false
def AvA (N:Nat) (y:Int):Zd N y=some (Pv y):=by
 unfold Zd Pv;try simp -zeta only[Ap]
 cases y.tmod 4==0<;>cases y.tmod 100 != 0<;>rfl
def Yp (y m:Int):Int:=bif (m==2)&&Pv y then 29 else([31,28,31,30,31,30,31,31,30,31,30,31]:List Int).getD (m - 1).toNat 0
def length_eq (N:Nat) (y m:Int) (h1:1<=m) (h2:m<=12):PU N y m=some (Yp y m):=by
 unfold PU Yp;try simp -zeta only[Ap]
 rw[AvA,w64,Di (show(0:Int)<=m - 1 by omega),Di (show m - 1<12 by omega)];cases m==2<;>cases Pv y<;>rfl
def O8 (y:Int):Int:=365*(y - 1950)+((y - 1) / 4 - (y - 1) / 100+(y - 1) / 400) - 472
def Ad3 (N:Nat) (n:Int) (h1:0<=n:=by omega) (h2:n<=1000000:=by omega):P8 N n=some (n / 4 - n / 100+n / 400):=by unfold P8;rw[DX h1,DX h1,DX h1,w64 (x:=n / 4),w64 (x:=n / 100),w64 (x:=n / 400),w64 (x:=n / 4 - n / 100)];all_goals grind[w64]
def iT (N:Nat) (y:Int) (h1:1950<=y:=by omega) (h2:y<=10001:=by omega):RI N y=some (O8 y):=by unfold RI;rw[w64 (x:=y - 1),w64 (x:=y - 1950),w64 (x:=365*(y - 1950))];have e1:mV N 201 (y - 1)=P8 N (y - 1):=rfl;have e2:mV N 201 1949=P8 N 1949:=rfl;rw[e1,e2,Ad3 N _,Ad3 N _,Jr,Jr];rw[w64 (x:=365*(y - 1950)+((y - 1) / 4 - (y - 1) / 100+(y - 1) / 400)),w64];rfl
def Ae6 {y:Int} (h:0<=y):(Pv y=true/\O8 (y+1) - O8 y=366)\/(Pv y=false/\O8 (y+1) - O8 y=365):=by
 have e4:y.tmod 4=y % 4:=DU h;have e1:y.tmod 100=y % 100:=DU h;have e2:y.tmod 400=y % 400:=DU h;unfold Pv O8;rw[e4,e1,e2];by_cases a:y % 4=0
 .rw[PH a,cond_true];by_cases b:y % 100=0
  .rw[show(y % 100 != 0)=false from lU b,cond_false];by_cases c:y % 400=0
   .left;exact⟨PH c,by omega⟩
   .right;exact⟨NP c,by omega⟩
  .rw[show(y % 100 != 0)=true from dF b,cond_true];left;exact⟨rfl,by omega⟩
 .rw[NP a,cond_false];right;exact⟨rfl,by omega⟩
def Y0 (b:Bool) (m:Int):Int:=([365,334,306,275,245,214,184,153,122,92,61,31]:List Int).getD (m - 1).toNat 0+(bif decide (m<=2)&&b then 1 else 0)
def AlK (y m:Int) (h1:1<=m) (h2:m<=12):28<=Yp y m/\Yp y m<=31/\(m=12->Y0 (Pv y) m=Yp y m)/\(m<=11->Y0 (Pv y) (m+1)=Y0 (Pv y) m - Yp y m):=by
 unfold Yp;generalize Pv y=b;have:m=1\/m=2\/m=3\/m=4\/m=5\/m=6\/m=7\/m=8\/m=9\/m=10\/m=11\/m=12:=by omega
 rcases this with rfl | rfl | rfl | rfl | rfl | rfl | rfl | rfl | rfl | rfl | rfl | rfl<;>cases b<;>decide
abbrev Dt:Type:=Int×Int×Int×Int×Int×Int
def Awh (d:Dt):Prop:=(1950<=d.1/\d.1<=9999)/\(1<=d.2.1/\d.2.1<=12)/\(1<=d.2.2.1/\d.2.2.1<=31)/\(0<=d.2.2.2.1/\d.2.2.2.1<=23)/\(0<=d.2.2.2.2.1/\d.2.2.2.2.1<=59)/\0<=d.2.2.2.2.2/\d.2.2.2.2.2<=59
section
variable (N:Nat) (hN:1048578<N)
include hN
theorem Aq2 (t:Int) (h0:0<=t) (h1:t<=254033452799):Ends (fun r=>Awh r.1/\r.2=0) (Tm N t):=by
 unfold Tm;try simp -zeta only[Ap]
 have a0:decide (t<0)=false:=Ay8;have a1:decide (t>254033452799)=false:=Ay8;rw[a0,a1];refine JG rfl (JG rfl (JG rfl ?_));refine JQ (fun h=>by cases h) (fun _=> ?_);have q:t.tdiv 86400=t / 86400:=DX h0;have q2:t.tmod 86400=t % 86400:=DU h0;rw[q,q2];have hd0:0<=t / 86400:=by omega
 have hd1:t / 86400<=2940201:=by omega
 have hs0:0<=t % 86400:=by omega
 have hs1:t % 86400<=86399:=by omega
 generalize t / 86400=D at hd0 hd1 ⊢;generalize t % 86400=S at hs0 hs1 ⊢;rw[w64 (x:=D)];have q3:D.tdiv 366=D / 366:=DX hd0;have q4:S.tdiv 3600=S / 3600:=DX hs0;have q5:S.tdiv 60=S / 60:=DX hs0;have q6:S.tmod 60=S % 60:=DU hs0;have q7:(S / 60).tmod 60=S / 60 % 60:=DU (by omega);rw[q3,q4,q5,q6,w64 (x:=D / 366),w64 (x:=1950+D / 366),w64 (x:=S / 3600),w64 (x:=S / 60),q7];refine PX (fun(y:Int)=>1950<=y/\y<=9999/\O8 y<=D) (fun y=>(10000 - y).toNat) ?_ N _ ⟨by omega,by omega,by unfold O8;omega⟩ (by omega);intro y ⟨y0,y1,y2⟩ k hk;rw[w64 (x:=y+1),iT N (y+1),Jr];refine JQ (fun h=> ?_) (fun h=> ?_)
 .grind[O8]
 .have h: ¬ O8 (y+1)<=D:=Et h;show Ends _ (Jq (RI N y) _);rw[iT N y,Jr,w64 (x:=D - O8 y) (by omega) (by unfold O8;omega)]
  have hr:0<=D - O8 y/\D - O8 y<Y0 (Pv y) 1:=by
   refine⟨by omega,?_⟩;rcases Ae6 (show 0<=y by omega)with ⟨a,b⟩ | ⟨a,b⟩<;>rw[a]
   .rw[show Y0 true 1=366 from rfl];omega
   .rw[show Y0 false 1=365 from rfl];omega
  generalize D - O8 y=E at hr ⊢;refine PX (fun(x:Int×Int)=>1<=x.2/\x.2<=12/\0<=x.1/\x.1<Y0 (Pv y) x.2/\x.1<=366) (fun x=>(13 - x.2).toNat) ?_ N _ ⟨by dsimp only;omega,by dsimp only;omega,hr.1,hr.2,?_⟩ (by dsimp only;omega)
  .rintro ⟨e,m⟩ ⟨m0,m1,e0,e1,e2⟩ k2 hk2;dsimp only at m0 m1 e0 e1 e2 hk2;dsimp only[U2];rw[length_eq N y m m0 m1,Jr,Jr];obtain⟨l0,l1,l2,l3⟩:=AlK y m m0 m1;refine JQ (fun h=> ?_) (fun h=> ?_)
   .have h:e>=Yp y m:=D9 h;all_goals grind[w64]
   .have h: ¬ e>=Yp y m:=Et h;all_goals grind[w64,Kr,Ends,Awh,Tm]
  .have:Y0 (Pv y) 1<=366:=by cases Pv y<;>decide
   omega
omit hN in
theorem tt {α :Type} {o:Option α} {Q: α ->Prop} (h:Ends Q o):Ends (fun _=>True) o:=Ar0 h fun _ _=>trivial
end
end Go.Proofs.YtehkhflpjkokeaaGreatDoor.Pl
namespace Go.Proofs.YtehkhflpjkokeaaGreatDoor.Vm
open IntKind (i64 u8 u32 u64)
open Go
def Kw (c:UInt8):Bs->List Bs
 | []=>[[]]
 | b::r=>if b=c then []::Kw c r else match Kw c r with
  | []=>[[b]]
  | h::t=>(b::h)::t
def AhK (c:UInt8) (s:Bs):Kw c s≠ []:=by
 cases s with
 | nil=>simp [Kw]
 | cons b r =>
  unfold Kw;split
  .simp
  .split<;>simp
def YP (c b:UInt8) (r:Bs) (h:b≠c):Kw c (b::r)=(b::(Kw c r).headD [])::(Kw c r).tail:=by
 have hn:=AhK c r;show(if b=c then _ else _)=_;rw[Dk h];cases hs:Kw c r with
 | nil=>exact absurd hs hn
 | cons x t=>rfl
def UY (c:UInt8): ∀(a r:Bs),c∉a->Kw c (a++c::r)=a::Kw c r:=by
 intro a
 induction a with
 | nil =>intro r _;show(if c=c then _ else _)=_;rw[Dp rfl]
 | cons b a ih =>intro r h;have hb:b≠c:=fun e=>h (by rw[e];exact Dv);have:=ih r (fun hm=>h (Dw _ hm));show Kw c (b::(a++c::r))=_;rw[YP _ _ _ hb,this];rfl
def YQ (c:UInt8): ∀ a:Bs,c∉a->Kw c a=[a]:=by
 intro a
 induction a with
 | nil=>intro _;rfl
 | cons b a ih =>intro h;have hb:b≠c:=fun e=>h (by rw[e];exact Dv);rw[YP _ _ _ hb,ih (fun hm=>h (Dw _ hm))];rfl
def index_none (c:UInt8): ∀ s:Bs,c∉s->Lib.index s [c]= -1:=by
 intro s
 induction s with
 | nil=>intro _;rfl
 | cons b r ih =>intro h;have hb: ¬ c=b:=fun e=>h (by rw[e];exact Dv);have h2:=ih (fun hm=>h (Dw _ hm));show(if List.isPrefixOf [c] (b::r)=true then(0:Int)else if Lib.index r [c]== -1 then -1 else Lib.index r [c]+1)= -1;rw[h2,Dk (by simp [List.isPrefixOf,hb])];rfl
def AcF (c:UInt8): ∀(a r:Bs),c∉a->Lib.index (a++c::r) [c]=(a.length:Int):=by
 intro a
 induction a with
 | nil =>intro r _;show(if List.isPrefixOf [c] (c::r)=true then(0:Int)else _)=_;rw[Dp (by simp [List.isPrefixOf])];rfl
 | cons b a ih =>intro r h;have hb: ¬ c=b:=fun e=>h (by rw[e];exact Dv);have h2:=ih r (fun hm=>h (Dw _ hm));show(if List.isPrefixOf [c] (b::(a++c::r))=true then(0:Int)else if Lib.index (a++c::r) [c]== -1 then -1 else Lib.index (a++c::r) [c]+1)=_;rw[h2,Dk (by simp [List.isPrefixOf,hb]),Dk (by simp)];simp
def Zc (c:UInt8) (s:Bs):c∉s\/ ∃ a r,s=a++c::r/\c∉a:=by
 induction s with
 | nil=>left;simp
 | cons b t ih =>
  by_cases hb:b=c
  .right;exact⟨[],t,by rw[hb];rfl,by simp⟩
  .rcases ih with h | ⟨a,r,h1,h2⟩
   .left;intro hm;rcases D6.1 hm with h3 | h3
    .exact hb h3.symm
    .exact h h3
   .right;refine⟨b::a,r,by rw[h1];rfl,fun hm=> ?_⟩;rcases D6.1 hm with h3 | h3
    .exact hb h3.symm
    .exact h2 h3
def As0 (c:UInt8): ∀(n:Nat) (s:Bs),s.length<=n->Lib.splitK [c] 0 (Lib.count s [c]) s=Kw c s:=by
 intro n
 induction n with
 | zero =>intro s h;have:s=[]:=FW (by omega);subst this;rfl
 | succ n ih =>
  intro s h;rcases Zc c s with hn | ⟨a,r,rfl,ha⟩
  .rw[Lib.count_miss (index_none c s hn),YQ c s hn];rfl
  .have hi:=AcF c a r ha;rw[Lib.count_hit (by simp) hi,Nat.add_comm];show(if Lib.index (a++c::r) [c]== -1 then _ else _)=_;rw[hi,Dk (by simp),UY c a r ha];have e1:(a++c::r).take ((a.length:Int).toNat+0)=a:=by simp
   have e2:(a++c::r).drop ((a.length:Int).toNat+ [c].length)=r:=by rw[show((a.length:Int).toNat+ [c].length)=a.length+1 from by simp];rw[<- FN,Gx];rfl
   have e3:(a++c::r).drop (a.length+ [c].length)=r:=by rw[show(a.length+ [c].length)=a.length+1 from by simp,<- FN,Gx];rfl
   rw[e1,e2,e3,ih r (by simp at h;omega)]
theorem AlV (c:UInt8) (s:Bs):Lib.split s [c]=Kw c s:=As0 c s.length s (DN _)
def XV (c:UInt8): ∀ s:Bs,(Kw c s).length<=s.length+1/\0<(Kw c s).length/\ ∀ x∈Kw c s,x.length<=s.length:=by
 intro s
 induction s with
 | nil=>exact⟨by simp [Kw],by simp [Kw],by intro x hx;simp [Kw]at hx;simp [hx]⟩
 | cons b r ih =>
  obtain⟨h1,h2,h3⟩:=ih;by_cases hb:b=c
  .have e:Kw c (b::r)=[]::Kw c r:=by show(if b=c then _ else _)=_;rw[Dp hb]
   rw[e];refine⟨by simp;omega,by simp,fun x hx=> ?_⟩;rcases D6.1 hx with rfl | hx
   .simp
   .have:=h3 x hx;simp;omega
  .rw[YP _ _ _ hb];cases hs:Kw c r with
   | nil=>rw[hs]at h2;simp at h2
   | cons y t =>
    rw[hs]at h1 h3;refine⟨by simp at h1 ⊢;omega,by simp,fun x hx=> ?_⟩;rcases D6.1 hx with rfl | hx
    .have:=h3 y Dv;simp;omega
    .have:=h3 x (Dw _ hx);simp;omega
end Go.Proofs.YtehkhflpjkokeaaGreatDoor.Vm
namespace Go.Proofs.YtehkhflpjkokeaaGreatDoor.Pl
open IntKind (i64 u8 u32 u64)
open Go Vm
def LM (c:UInt8):Bool:=decide (48<=c.toNat)&&decide (c.toNat<=57)
def OG (d:Bs):Nat:=d.foldl (fun v c=>10*v+(c.toNat - 48)) 0
def Ahn (d:Bs) (c:UInt8):OG (d++[c])=10*OG d+(c.toNat - 48):=by simp [OG,Ik]
def Atq: ∀(d:Bs) (v k:Nat),d.all LM=true->v<10 ^ k->d.foldl (fun v c=>10*v+(c.toNat - 48)) v<10 ^ (k+d.length):=by
 intro d
 induction d with
 | nil=>intro v k _ h;exact h
 | cons c d ih =>intro v k h hv;rw[List.all_cons,Du]at h;have h2:=h.1;unfold LM at h2;simp only[Du,Dz]at h2;have:=ih (10*v+(c.toNat - 48)) (k+1) h.2 (by rw[Nat.pow_succ];omega);rw[List.length_cons,show k+(d.length+1)=k+1+d.length by omega];exact this
def AnN (d:Bs) (h:d.all LM=true):OG d<10 ^ d.length:=by have:=Atq d 0 0 h (by decide);rwa [DV]at this
def Adx (d:Bs):Bool:= !(decide (d.length=0)||decide (10<d.length)||(decide ((d.getD 0 0).toNat=48)&&decide (1<d.length)))&&(d.all LM&&decide (OG d<=2147483647))
def Ti (d:Bs):Option Nat:=if Adx d then some (OG d)else none
def Alk:Option Nat->Int
 | none=> -1
 | some n=>n
def Akk {c:Nat} (h1:48<=c) (h2:c<=57):i64.wrap (u8.wrap ((c:Int) - 48))=((c - 48:Nat):Int):=by grind[w8,w64]
def AsV {ρ :Type} (N:Nat) (s:Bs) (hs:s.length<=10) (hN:10<N) (bad:Option ρ) (fin:Int->Option ρ) :
 Jz (X:=Int×Int) (Y:=Int) (U2 fun t3a t4a k7 x8 =>
  bif decide (t4a<(s.length:Int))then Vm.chk (decide ((0:Int)<=t4a)) (Vm.chk (decide (t4a<(s.length:Int)))
   (Vm.chk (decide ((0:Int)<=t4a)||decide (((s.getD t4a.toNat 0).toNat:Int)<(48:Int)))
     (Vm.chk (decide (t4a<(s.length:Int))||decide (((s.getD t4a.toNat 0).toNat:Int)<(48:Int)))
       (bif decide (((s.getD t4a.toNat 0).toNat:Int)<(48:Int))||decide (((s.getD t4a.toNat 0).toNat:Int)>(57:Int))then bad
        else Vm.chk (decide ((0:Int)<=t4a)) (Vm.chk (decide (t4a<(s.length:Int)))
         (k7 (i64.wrap ((i64.wrap ((10:Int)*t3a))+i64.wrap (u8.wrap (((s.getD t4a.toNat 0).toNat:Int) - (48:Int)))),i64.wrap (t4a+(1:Int)))))))))
  else x8 t3a) N (0,0) fin=if s.all LM=true then fin ((OG s:Nat):Int)else bad:=by
 refine MK (I:=fun x=> ∃ i:Nat,x=(((OG (s.take i):Nat):Int),(i:Int))/\i<=s.length/\(s.take i).all LM=true) (μ :=fun x=>s.length - x.2.toNat) (fun _=>if s.all LM=true then fin ((OG s:Nat):Int)else bad) ?_ N (0,0) ⟨0,rfl,by omega,rfl⟩ (by show s.length - 0<N;omega);rintro x ⟨i,rfl,hi,hd⟩ k hk;show(bif decide ((i:Int)<(s.length:Int))then _ else _)=_;by_cases hl:i<s.length
 .have hv:=AnN (s.take i) hd;have h10:(10:Nat) ^ (s.take i).length<=10 ^ 9:=Gu (by decide) (by simp;omega);have hg:s.getD ((i:Int)).toNat 0=s[i]:=getD_lt s i 0 hl;rw[Di,cond_true,hg,Di (show(0:Int)<=(i:Int) by omega)];simp only[DR,Jv];have htake:s.take (i+1)=s.take i++[s[i]]:=by rw[FC,DC hl];rfl
  by_cases hc:LM s[i]=true
  .have hc':=hc;unfold LM at hc';simp only[Du,Dz]at hc';rw[Ay8,Ay8];simp only[Iu,cond_false];rw[Akk hc'.1 hc'.2,w64 (x:=(10:Int)*((OG (s.take i):Nat):Int)),w64 (x:=(10:Int)*((OG (s.take i):Nat):Int)+_),w64 (x:=(i:Int)+1)];refine hk _ ⟨i+1,?_,by omega,by rw[htake,Ha,hd];simpa using hc⟩ (by show s.length - ((i:Int)+1).toNat<s.length - ((i:Int)).toNat;omega);rw[htake,Ahn]
   push_cast
   rfl
  .grind[LM,AnI]
 .have:i=s.length:=by omega
  subst this;rw[Ay8,cond_false];rw[ES]at hd;rw[Dp hd,ES]
def ApE (N:Nat) (s:Bs) (hN:16<N):cZ N s=some (Alk (Ti s)):=by
 unfold cZ;try simp only[clR]
 by_cases h0:s.length=0
 .have:s=[]:=FW h0;subst this;rfl
 .have hne:(s==([]:Bs))=false:=by cases s with | nil=>exact absurd rfl h0 | cons _ _=>rfl
  rw[hne,Di (show(0:Int)<(s.length:Int) by omega)];simp only[EN,DR,Jv];unfold Ti Adx;by_cases h1:10<s.length
  .grind[Jv,Alk]
  .rw[Dn (show ¬((s.length:Int)>10) by omega),Dn h1,Dn h0];simp only[ET,EN,DY,EE,Ir,Jv];by_cases h2:(s.getD 0 0).toNat=48/\1<s.length
   .rw[show(((s.getD 0 0).toNat:Int)==48)=true from by rw[EI];omega,Di (show(s.length:Int)>1 by omega),Di h2.1,Di h2.2];rfl
   .have e:((((s.getD 0 0).toNat:Int)==48)&&decide ((s.length:Int)>1))=false:=by
     rw[EX];simp only[F5,Ec];omega
    have e':(decide ((s.getD 0 0).toNat=48)&&decide (1<s.length))=false:=by all_goals simp_all[Bs,cZ,Alk,Ti]
    rw[e,e',cond_false];refine E5 (AsV N s (by omega) (by omega) _ _) ?_;by_cases h3:s.all LM=true
    .rw[Dp h3,h3];by_cases h4:OG s<=2147483647
     .rw[Ay8,Di h4];rfl
     .rw[Di,Dn h4];rfl
    .rw[Dk h3,show s.all LM=false by simpa using h3];rfl
def VS (l:List Nat):Bool:=(decide (l.getD 0 0<=1)&&decide (l.getD 1 0<=39))||decide (l.getD 0 0=2)
def MR (s:Bs):Option (List Nat) :=
 if(Kw 46 s).length<2\/12<(Kw 46 s).length then none
 else match Qn Ti (Kw 46 s)with
  | none=>none
  | some l=>if VS l=true then some l else none
def ints (l:List Nat):List Int:=l.map fun(n:Nat)=>(n:Int)
def Auh:Option (List Nat)->List Int
 | none=>[]
 | some l=>ints l
def Avl {s:Bs} {n:Nat} (h:Ti s=some n):n<=2147483647:=by unfold Ti at h;split at h;all_goals grind[Adx]
def AtW {α β :Type} {f: α ->Option β}: ∀ {l:List α} {r:List β},Qn f l=some r-> ∀ b∈r,∃ a∈l,f a=some b:=by
 intro l
 induction l with
 | nil=>grind[Qn]
 | cons a t ih =>intro r h b hb;unfold Qn at h;split at h;all_goals grind[Qn]
def Anc (N:Nat) (a b:Nat):rG N (a:Int) (b:Int)=some ((decide (a<=1)&&decide (b<=39))||decide (a=2)):=by
 unfold rG;try simp only[clR]
 have e1:decide ((a:Int)<=1)=decide (a<=1):=by rw[H9];omega
 have e2:decide ((b:Int)<=39)=decide (b<=39):=by rw[H9];omega
 have e3:((a:Int)==2)=decide (a=2):=by rw[Fj,EI,Dz];omega
 rw[e1,e2,e3]
def Acf (N:Nat) (s:Bs) (hN:16<N) (hs:s.length<=1048576):Yu N s=some (Auh (MR s)):=by
 unfold Yu;try simp only[clR]
 have hsp:strings_Split N s [46]=some (Kw 46 s):=by all_goals grind[strings_Split,AlV]
 rw[hsp,Jr];unfold MR;have hlen:=XV 46 s;generalize hp:Kw 46 s=p at hlen ⊢;by_cases h1:p.length<2\/12<p.length
 .rw[Dp h1,show(decide ((p.length:Int)<2)||decide ((p.length:Int)>12))=true by simp only[Eo,Dz];omega];rfl
 .rw[Dk h1,show(decide ((p.length:Int)<2)||decide ((p.length:Int)>12))=false by simp only[Gv,Ec];omega,cond_false];refine E5 (Oo (S:=List Int) (mk:=fun i a=>(i,a)) (out:=fun a=>a) p [] (fun i a=>a.length=i) (bT Ti (fun a v=>a++[(v:Int)]) (some [])) ?_ ?_ N [] rfl) ?_
  .intro i a hi ha;have hg:p.getD ((i:Int)).toNat []=p[i]:=getD_lt p i [] hi;rw[getD_lt p i [] hi];have key: ∀(K:Int->Option (List Int)),(Vm.chk (decide ((0:Int)<=(i:Int))) (Vm.chk (decide ((i:Int)<(p.length:Int))) (Jq (cZ N (p.getD ((i:Int)).toNat [])) K)))=K (Alk (Ti p[i])):=by all_goals simp_all[Jv,ApE,Jr,Bs,hs,Yu,Auh,MR]
   refine Au1 (fun hv k=> ?_) (fun v hv=>⟨fun k=> ?_,by simp [ha]⟩)
   .dsimp only[U2];rw[key,hv,Di (show(i:Int)<(p.length:Int) by omega)];rfl
   .dsimp only[U2];rw[key,hv,Di (show(i:Int)<(p.length:Int) by omega),cond_true];rw[show Alk (some v)=(v:Int)from rfl,Dn (show ¬((v:Int)<0) by omega),cond_false,Di (show(a.length+1)*9<=140737488355328 by omega),Jv,w64]
  .grind[U2]
  .rw[AlN];cases hm:Qn Ti p with
   | none=>rfl
   | some l =>
    have hl:=AcR hm;have hf:l.foldl (fun(a:List Int) (v:Nat)=>a++[(v:Int)]) []=l.map (fun(v:Nat)=>(v:Int)):=by rw[Aru,List.nil_append]
    dsimp only[Option.elim];rw[hf];have e1:(l.map (fun(v:Nat)=>(v:Int))).length=l.length:=D5 ..;rw[e1,Di (show(0:Int)<(l.length:Int) by omega),Di (show 0<l.length by omega),Di (show(1:Int)<(l.length:Int) by omega),Di (show 1<l.length by omega)];simp only[Jv];have g0:(l.map (fun(v:Nat)=>(v:Int))).getD 0 0=((l.getD 0 0:Nat):Int):=by rw[getD_lt _ 0 0 (by rw[e1];omega),getD_lt _ 0 0];simp
    have g1:(l.map (fun(v:Nat)=>(v:Int))).getD 1 0=((l.getD 1 0:Nat):Int):=by rw[getD_lt _ 1 0 (by rw[e1];omega),getD_lt _ 1 0];simp
    rw[g0,g1,Anc,Jr];show(bif !(VS l)then _ else _)=_;cases VS l<;>rfl
def kL (cur:Bs) (out:List Nat):Option (List Nat):=if out.length=12 then none else(Ti cur).map fun v=>out++[v]
def TK:Bs->List Nat->Bs->Option (List Nat)
 | cur,out,[]=>kL cur out
 | cur,out,c::r=>if c=46 then(kL cur out).bind fun o=>TK [] o r else if LM c=true then TK (cur++[c]) out r else none
def AhH (cur:Bs) (out:List Nat) (r:Bs):TK cur out (46::r)=(kL cur out).bind fun o=>TK [] o r:=Dp rfl
def AhF (cur:Bs) (out:List Nat) (c:UInt8) (r:Bs) (h1:c≠46) (h2: ¬ LM c=true):TK cur out (c::r)=none:=by show(if c=46 then _ else if LM c=true then _ else _)=_;rw[Dk h1,Dk h2]
def AhG (cur:Bs) (out:List Nat) (c:UInt8) (r:Bs) (h1:c≠46) (h2:LM c=true):TK cur out (c::r)=TK (cur++[c]) out r:=by simp_all[LM,Bs,TK]
def Xt (l:List Nat):Option (List Nat):=if 2<=l.length/\VS l=true then some l else none
def Adn:Option (List Nat)->List Int×Bool
 | none=>([],false)
 | some l=>(ints l,true)
def Anv {ρ :Type} (N:Nat) (d:Bs) (out:List Int) (hs:d.length<=10) (hd:d.all LM=true) (hN:10<N) (fin:Int×List Int->Option ρ) :
 Jz (X:=Int×Int×List Int) (Y:=Int×List Int) (U3 fun t8b t9b l1004096b k11 x12 =>
  bif decide (t9b<(d.length:Int))then Vm.chk (decide (0<=t9b)) (Vm.chk (decide (t9b<(d.length:Int)))
   (k11 (i64.wrap (i64.wrap (10*t8b)+i64.wrap (u8.wrap (((d.getD t9b.toNat 0).toNat:Int) - 48))),i64.wrap (t9b+1),l1004096b)))
  else x12 (t8b,l1004096b)) N (0,0,out) fin=fin ((OG d:Nat),out):=by
 refine MK (I:=fun x=> ∃ i:Nat,x=(((OG (d.take i):Nat):Int),(i:Int),out)/\i<=d.length) (μ :=fun x=>d.length - x.2.1.toNat) (fun _=>fin ((OG d:Nat),out)) ?_ N (0,0,out) ⟨0,rfl,by omega⟩ (by show d.length - 0<N;omega);rintro x ⟨i,rfl,hi⟩ k hk;dsimp only[U3];by_cases hl:i<d.length
 .have hdi:(d.take i).all LM=true:=DD.2 fun x hx=>DD.1 hd x (F9 hx);have hv:=AnN (d.take i) hdi;have h10:(10:Nat) ^ (d.take i).length<=10 ^ 9:=Gu (by decide) (by simp;omega);have hg:d.getD ((i:Int)).toNat 0=d[i]:=getD_lt d i 0 hl;have htake:d.take (i+1)=d.take i++[d[i]]:=by rw[FC,DC hl];rfl
  have hc:=AnI hd hl;unfold LM at hc;simp only[Du,Dz]at hc;rw[Di,cond_true,hg,Di (show(0:Int)<=(i:Int) by omega),Jv,Jv];rw[Akk hc.1 hc.2,w64 (x:=(10:Int)*((OG (d.take i):Nat):Int)),w64 (x:=(10:Int)*((OG (d.take i):Nat):Int)+_),w64 (x:=(i:Int)+1)];refine hk _ ⟨i+1,?_,by omega⟩ (by show d.length - ((i:Int)+1).toNat<d.length - ((i:Int)).toNat;omega);rw[htake,Ahn]
  push_cast
  rfl
 .have:i=d.length:=by omega
  all_goals simp_all[Bs,hs,hd,LM,Jz,U3]
def AsU {d:Bs} (hd:d.all LM=true):Ti d=if d.length=0\/10<d.length\/((d.getD 0 0).toNat=48/\1<d.length)\/2147483647<OG d then none else some (OG d):=by unfold Ti Adx;rw[hd];all_goals grind[OG]
def Avx {d:Bs} (o:List Nat) (hd:d.all LM=true):kL d o=if(d.length=0\/10<d.length\/((d.getD 0 0).toNat=48/\1<d.length))\/o.length=12\/2147483647<OG d then none else some (o++[OG d]):=by unfold kL;rw[AsU hd];all_goals grind[OG]
def xP (s:Bs) {a j:Nat} (ha:a<=j) (hj:j<s.length):J6 s a (j+1)=J6 s a j++[s[j]]:=by unfold J6;rw[FC,DC hj,Ih (by simp;omega)];rfl
def WN {α :Type} (s:List α) (a:Nat):J6 s a a=[]:=by grind[J6]
def Ar4 (o:List Nat) (v:Nat):ints o++[(v:Int)]=ints (o++[v]):=by simp [ints]
theorem Md (o:List Nat):(ints o).length=o.length:=D5 ..
def AvM (o:List Nat):(Vm.chk (decide (0<((ints o).length:Int))||decide (((ints o).length:Int)<2))
 (Vm.chk (decide (0<(ints o).length)||decide (((ints o).length:Int)<2))
   (Vm.chk (decide (0<((ints o).length:Int))||(decide (((ints o).length:Int)<2)||decide ((ints o).getD 0 0>2)))
     (Vm.chk (decide (0<(ints o).length)||(decide (((ints o).length:Int)<2)||decide ((ints o).getD 0 0>2)))
       (Vm.chk (decide (1<((ints o).length:Int))|| !(!(decide (((ints o).length:Int)<2)||decide ((ints o).getD 0 0>2))&&decide ((ints o).getD 0 0<2)))
         (Vm.chk (decide (1<(ints o).length)|| !(!(decide (((ints o).length:Int)<2)||decide ((ints o).getD 0 0>2))&&decide ((ints o).getD 0 0<2)))
           (Vm.chk (!decide ((ints o).getD 0 0<2)|| !(decide (((ints o).length:Int)<2)||decide ((ints o).getD 0 0>2))&&decide ((ints o).getD 0 0<2)||(decide (((ints o).length:Int)<2)||decide ((ints o).getD 0 0>2)))
             (bif decide (((ints o).length:Int)<2)||decide ((ints o).getD 0 0>2)||decide ((ints o).getD 0 0<2)&&decide ((ints o).getD 1 0>39)then some (([]:List Int),false)else some (ints o,true)))))))))=some (Adn (Xt o)):=by grind[Xt,Md,Jv,Adn,ints,VS]
def AnZ (c:UInt8) (k:Nat):(((c.toNat:Nat):Int) != (k:Int))=decide (c.toNat≠k):=by grind
def AiH (N:Nat) (s:Bs) (hN:16<N) (hs:s.length<=1048576) (hl:s.length+1<N):V5 N s=some (Adn ((TK [] [] s).bind Xt)):=by
 unfold V5;try simp only[clR]
 generalize hR:TK [] [] s=R0;refine MK (I:=fun x=> ∃(a j:Nat) (o:List Nat),x=((a:Int),(j:Int),ints o)/\a<=j/\o.length<=12/\((j<=s.length/\(J6 s a j).all LM=true/\TK (J6 s a j) o (s.drop j)=R0)\/(j=s.length+1/\some o=R0))) (μ :=fun x=>s.length+1 - x.2.1.toNat) (fun _=>some (Adn (R0.bind Xt))) ?_ N (0,0,[]) ⟨0,0,[],rfl,by omega,by simp,.inl ⟨by omega,by rw[WN];rfl,by rw[WN,FP];exact hR⟩⟩ (by show s.length+1 - 0<N;omega);rintro x ⟨a,j,o,rfl,ha,ho,hx⟩ k hk;dsimp only[U3];rcases hx with ⟨hj,hd,hsc⟩ | ⟨rfl,hsc⟩
 .have hmu: ∀ j':Nat,j<j'->s.length+1 - ((j':Int)).toNat<s.length+1 - ((j:Int)).toNat:=fun j' h=>by omega
  rw[Di (show(j:Int)<=(s.length:Int) by omega),cond_true,Di (show(0:Int)<=(j:Int) by omega)];simp only[DR,Jv]
  have proc: ∀(d:Bs),d.all LM=true->(if j<s.length then(kL d o).bind fun o=>TK [] o (s.drop (j+1))else kL d o)=R0 ->
   (Vm.chk (decide ((0:Int)<=(a:Int))) (Vm.chk (decide ((a:Int)<=(j:Int)))
     (Vm.chk (decide (0<(d.length:Int))|| !(!((d.length:Int)==0||decide ((d.length:Int)>10))&&decide ((d.length:Int)>1)))
       (Vm.chk (!decide ((d.length:Int)>1)|| !((d.length:Int)==0||decide ((d.length:Int)>10))&&decide ((d.length:Int)>1)||((d.length:Int)==0||decide ((d.length:Int)>10)))
         (bif (d.length:Int)==0||decide ((d.length:Int)>10)||decide ((d.length:Int)>1)&&((d.getD 0 0).toNat:Int)==48||((ints o).length:Int)==12 then some (([]:List Int),false)
          else Jz (X:=Int×Int×List Int) (Y:=Int×List Int) (U3 fun t8b t9b l1004096b k11 x12 =>
           bif decide (t9b<(d.length:Int))then Vm.chk (decide (0<=t9b)) (Vm.chk (decide (t9b<(d.length:Int)))
            (k11 (i64.wrap (i64.wrap (10*t8b)+i64.wrap (u8.wrap (((d.getD t9b.toNat 0).toNat:Int) - 48))),i64.wrap (t9b+1),l1004096b)))
           else x12 (t8b,l1004096b)) N (0,0,ints o) (U2 fun t8c l1008192c=>bif decide (t8c>2147483647)then some ([],false)else Vm.chk (decide ((l1008192c.length+1)*9<=140737488355328)) (k (i64.wrap ((j:Int)+1),i64.wrap ((j:Int)+1),l1008192c++[t8c]))))))))=some (Adn (R0.bind Xt)):=by
   intro d hd hsc;rw[Di (show(0:Int)<=(a:Int) by omega),Di (show(a:Int)<=(j:Int) by omega)];simp only[Jv];have c0:(((d.length:Nat):Int)==0)=decide (d.length=0):=by rw[Fj,EI,Dz];omega
   have c1:decide (((d.length:Nat):Int)>10)=decide (10<d.length):=by rw[H9];omega
   have c2:decide (((d.length:Nat):Int)>1)=decide (1<d.length):=by rw[H9];omega
   have c3:((((d.getD 0 0).toNat:Nat):Int)==48)=decide ((d.getD 0 0).toNat=48):=by rw[Fj,EI,Dz];omega
   have c4:(((ints o).length:Int)==12)=decide (o.length=12):=by rw[Md,Fj,EI,Dz];omega
   have c5:decide (0<((d.length:Nat):Int))= !(decide (d.length=0)):=by rw[Fj,Dz,EY,Ec];omega
   rw[c0,c1,c2,c3,c4,c5];have t1:((!(decide (d.length=0)))|| !(!(decide (d.length=0)||decide (10<d.length))&&decide (1<d.length)))=true:=by cases decide (d.length=0)<;>cases decide (10<d.length)<;>cases decide (1<d.length)<;>rfl
   have t2:(!decide (1<d.length)|| !(decide (d.length=0)||decide (10<d.length))&&decide (1<d.length)||(decide (d.length=0)||decide (10<d.length)))=true:=by cases decide (d.length=0)<;>cases decide (10<d.length)<;>cases decide (1<d.length)<;>rfl
   rw[t1,t2,Jv,Jv];have hE:=Avx o hd;by_cases hb:(d.length=0\/10<d.length\/((d.getD 0 0).toNat=48/\1<d.length))\/o.length=12
   .rw[show(decide (d.length=0)||decide (10<d.length)||decide (1<d.length)&&decide ((d.getD 0 0).toNat=48)||decide (o.length=12))=true by simp only[Eo,Du,Dz];omega,cond_true];rw[AyA]at hE;have:R0=none:=by rw[<- hsc,hE];split<;>rfl
    rw[this];rfl
   .rw[show(decide (d.length=0)||decide (10<d.length)||decide (1<d.length)&&decide ((d.getD 0 0).toNat=48)||decide (o.length=12))=false by simp only[Gv,EX,Ec];omega,cond_false];refine E5 (Anv N d (ints o) (by omega) hd (by omega) _) ?_;dsimp only[U2];by_cases hv:2147483647<OG d
    .rw[Di (show((OG d:Nat):Int)>2147483647 by omega),cond_true];rw[AyA]at hE;have:R0=none:=by rw[<- hsc,hE];split<;>rfl
     rw[this];rfl
    .rw[Dn (show ¬((OG d:Nat):Int)>2147483647 by omega),cond_false,Md,Di (show(o.length+1)*9<=140737488355328 by omega),Jv,w64,Ar4];rw[Ay9]at hE;rw[hE]at hsc;refine hk _ ⟨j+1,j+1,o++[OG d],rfl,by omega,by simp;omega,?_⟩ (hmu (j+1) (by omega));by_cases hjl:j<s.length
     .rw[Dp hjl]at hsc;exact .inl ⟨by omega,by rw[WN];rfl,by rw[WN];exact hsc⟩
     .rw[Dk hjl]at hsc;exact .inr ⟨by omega,hsc⟩
  by_cases hjl:j<s.length
  .have hg:s.getD ((j:Int)).toNat 0=s[j]:=getD_lt s j 0 hjl;rw[Di (show(j:Int)<(s.length:Int) by omega),hg];simp only[DR,Jv,EE];by_cases h46:s[j].toNat=46
   .rw[show(((s[j].toNat:Nat):Int) != 46)=false by rw[show(46:Int)=((46:Nat):Int)from rfl,AnZ,Dn (by simp [h46])],cond_false];have he:s[j]=46:=UInt8.toNat.inj (by rw[h46];rfl);refine proc _ hd ?_;rw[Dp hjl,<- hsc,Ep hjl,he,AhH];rfl
   .rw[show(((s[j].toNat:Nat):Int) != 46)=true by rw[show(46:Int)=((46:Nat):Int)from rfl,AnZ,Di (by simp [h46])],cond_true];have hne:s[j]≠46:=fun e=>h46 (by rw[e];rfl);rw[Ep hjl]at hsc;by_cases hdg:LM s[j]=true
    .rw[AhG _ _ _ _ hne hdg]at hsc;have hc:=hdg;unfold LM at hc;simp only[Du,Dz]at hc;rw[Dn (show ¬((s[j].toNat:Nat):Int)<48 by omega),Dn (show ¬((s[j].toNat:Nat):Int)>57 by omega)];simp only[Iu,cond_false];rw[w64];refine hk _ ⟨a,j+1,o,rfl,by omega,ho,.inl ⟨by omega,?_,?_⟩⟩ (hmu (j+1) (by omega))
     .rw[xP s ha hjl,Ha,hd];simpa using hdg
     .rw[xP s ha hjl];exact hsc
    .rw[AhF _ _ _ _ hne hdg]at hsc;have:(decide (((s[j].toNat:Nat):Int)<48)||decide (((s[j].toNat:Nat):Int)>57))=true:=by unfold LM at hdg;simp only[Du,Dz]at hdg;simp only[Eo,Dz];omega
     rw[this,cond_true,<- hsc];rfl
  .rw[Dn (show ¬(j:Int)<(s.length:Int) by omega)];simp only[Fa,cond_false];refine proc _ hd ?_;rw[Dk hjl,<- hsc,FZ (by omega)];rfl
 .rw[Dn (show ¬((s.length+1:Nat):Int)<=(s.length:Int) by omega),cond_false,<- hsc];exact AvM o
def Aqj (c b:UInt8) (hb:b≠c): ∀ s:Bs,b∈s-> ∃ x∈Kw c s,b∈x:=by
 intro s
 induction s with
 | nil=>intro h;cases h
 | cons a r ih =>
  intro h;by_cases ha:a=c
  .rcases D6.1 h with rfl | h
   .exact absurd ha hb
   .obtain⟨x,h1,h2⟩:=ih h;refine⟨x,?_,h2⟩;show x∈(if a=c then _ else _);rw[Dp ha];exact Dw _ h1
  .rw[YP _ _ _ ha];rcases D6.1 h with rfl | h
   .exact⟨_,Dv,Dv⟩
   .obtain⟨x,h1,h2⟩:=ih h;have hn:=AhK c r;cases hs:Kw c r with
    | nil=>exact absurd hs hn
    | cons y t =>
     rw[hs]at h1;rcases D6.1 h1 with rfl | h1
     .exact⟨_,Dv,Dw _ h2⟩
     .exact⟨x,Dw _ h1,h2⟩
def ArO {α β :Type} {f: α ->Option β}: ∀ {l:List α} {a: α},a∈l->f a=none->Qn f l=none:=by
 intro l
 induction l with
 | nil=>intro a h;cases h
 | cons x t ih =>
  intro a h ha;unfold Qn;rcases D6.1 h with rfl | h
  .rw[ha]
  .rw[ih h ha];split
   .rename_i h1 h2;cases h2
   .rfl
def zN {α β :Type} (f: α ->Option β) (a: α) (l:List α):Qn f (a::l)=(f a).bind fun b=>(Qn f l).map fun r=>b::r:=by show(match f a,Qn f l with | some b,some bs=>some (b::bs) | _,_=>none)=_;cases f a<;>cases Qn f l<;>rfl
def AdU {d:Bs} (h:d.all LM=true):(46:UInt8)∉d:=by intro hm;have:=DD.1 h _ hm;revert this;decide
def AvS: ∀(s cur:Bs) (out:List Nat),cur.all LM=true->out.length<=12->TK cur out s=if 12<out.length+(Kw 46 (cur++s)).length then none else(Qn Ti (Kw 46 (cur++s))).map fun r=>out++r:=by
 intro s
 induction s with
 | nil =>
  intro cur out hc ho;rw[En,YQ _ _ (AdU hc),zN];show kL cur out=_;unfold kL;by_cases h:out.length=12
  .rw[Dp h,Dp (by simp only[List.length_singleton];omega)]
  .rw[Dk h,Dk (by simp only[List.length_singleton];omega)];cases Ti cur<;>rfl
 | cons c r ih =>
  intro cur out hc ho;by_cases h1:c=46
  .subst h1;rw[AhH,UY _ _ _ (AdU hc),zN];unfold kL;have hl:=(XV 46 r).2.1;by_cases h:out.length=12
   .rw[Dp h,Dp (by rw[List.length_cons];omega)];rfl
   .rw[Dk h];cases hv:Ti cur with
    | none=>simp
    | some v =>
     have:=ih [] (out++[v]) rfl (by simp;omega);rw[List.nil_append]at this;show TK [] (out++[v]) r=_;rw[this];simp only[Dx,List.length_singleton,List.length_cons,List.length_nil,Option.bind_some,Option.map_map];by_cases h3:12<out.length+(0+1)+(Kw 46 r).length
     .rw[Dp h3,AyA]
     .rw[Dk h3,Ay9];cases Qn Ti (Kw 46 r)<;>simp
  .by_cases h2:LM c=true
   .rw[AhG _ _ _ _ h1 h2,ih (cur++[c]) out (by simp [hc,h2]) ho,Ej];rfl
   .rw[AhF _ _ _ _ h1 h2];obtain⟨x,hx1,hx2⟩:=Aqj 46 c h1 (cur++c::r) (by simp)
    rw[ArO hx1 (by
     unfold Ti Adx;rw[Dk];have:x.all LM=false:=by apply Gm.2;intro h;exact h2 (DD.1 h _ hx2)
     rw[this];simp)]
    split<;>rfl
def AqC (s:Bs):(TK [] [] s).bind Xt=MR s:=by
 rw[AvS s [] [] rfl (by decide)];unfold MR;simp only[List.length_nil,DV,List.nil_append];by_cases h:12<(Kw 46 s).length
 .rw[Dp h,Dp (Or.inr h)];rfl
 .rw[Dk h];cases hm:Qn Ti (Kw 46 s)with
  | none=>split<;>rfl
  | some l =>
   have hl:=AcR hm;show Xt l=_;unfold Xt
   have h3: ∀ q:Option (List Nat),(if(Kw 46 s).length<2\/12<(Kw 46 s).length then none else q)=if 2<=l.length then q else none:=by
    intro q;by_cases h2:2<=l.length
    .rw[Ay9,Dp h2]
    .rw[Dp (Or.inl (by omega)),Dk h2]
   rw[h3];dsimp only;by_cases h2:2<=l.length<;>by_cases hr:VS l=true<;>simp [h2,hr]
def o5 (N:Nat) (s:Bs) (hN:16<N) (hs:s.length<=1048576) (hl:s.length+1<N):V5 N s=some (Adn (MR s)):=by rw[AiH N s hN hs hl,AqC]
def hi (m:Nat):List Nat:=if m=0 then []else hi (m / 128)++[m % 128+128]
termination_by m
decreasing_by omega
def AcD:hi 0=[]:=by rw[hi];rfl
def Api {m:Nat} (h:m≠0):hi m=hi (m / 128)++[m % 128+128]:=by rw[hi,Dk h]
def WG (n:Nat):List Nat:=hi (n / 128)++[n % 128]
def cnt (m:Nat):Nat:=(hi m).length
def AdD:cnt 0=0:=by unfold cnt;rw[AcD];rfl
def Ajn {m:Nat} (h:m≠0):cnt m=cnt (m / 128)+1:=by unfold cnt;rw[Api h];simp
def cnt_le: ∀(k m:Nat),m<128 ^ k->cnt m<=k:=by
 intro k
 induction k with
 | zero=>intro m h;have:m=0:=by rw[Nat.pow_zero]at h;omega
         rw[this,AdD];omega
 | succ k ih =>
  intro m h;by_cases h0:m=0
  .rw[h0,AdD];omega
  .rw[Ajn h0];have:=ih (m / 128) (by rw[Nat.pow_succ]at h;omega);omega
def lJ (m:Nat):Nat->List Nat
 | 0=>[]
 | t+1=>(m / 128 ^ t % 128+128)::lJ m t
def div_pow (m t:Nat):m / 128 ^ (t+1)=m / 128 / 128 ^ t:=by rw[Nat.pow_succ,Iz,Ic]
def As7: ∀(t m:Nat),lJ m (t+1)=lJ (m / 128) t++[m % 128+128]:=by
 intro t
 induction t with
 | zero=>intro m;show [m / 128 ^ 0 % 128+128]=_;rw[Nat.pow_zero,Nat.div_one];rfl
 | succ t ih =>intro m;show(m / 128 ^ (t+1) % 128+128)::lJ m (t+1)=_;rw[ih,div_pow];rfl
def AvX: ∀(k m:Nat),m<128 ^ k->lJ m (cnt m)=hi m:=by
 intro k
 induction k with
 | zero=>intro m h;have:m=0:=by rw[Nat.pow_zero]at h;omega
         rw[this,AdD,AcD];rfl
 | succ k ih =>
  intro m h;by_cases h0:m=0
  .rw[h0,AdD,AcD];rfl
  .rw[Ajn h0,As7,ih _ (by rw[Nat.pow_succ]at h;omega),<- Api h0]
def sh7 (n t:Nat) (ht:t<=9):(n:Int).fdiv (2 ^ min (u64.wrap (7*u64.wrap (t:Int))).toNat 64)=((n / 128 ^ t:Nat):Int):=by
 rw[wu64 (x:=(t:Int)) (by omega),wu64 (by omega),show min ((7:Int)*(t:Int)).toNat 64=7*t by omega];have h:(2:Nat) ^ (7*t)=128 ^ t:=by rw[Nat.pow_mul]
 have e:(2:Int) ^ (7*t)=((128 ^ t:Nat):Int):=by rw[<- h];push_cast;rfl
 rw[e];exact(Int.ofNat_fdiv _ _).symm
def Aq9 (n:Nat) (h:n<9223372036854775808):J9 .and .i64 (n:Int) 127=((n % 128:Nat):Int):=by show i64.wrap (((BitVec.ofInt 64 (n:Int)) &&& (BitVec.ofInt 64 ((127:Nat):Int))).toNat:Int)=_;rw[show(BitVec.ofInt 64 (n:Int))=BitVec.ofNat 64 n by simp,show(BitVec.ofInt 64 ((127:Nat):Int))=BitVec.ofNat 64 127 by simp];rw[BitVec.toNat_and,Hm,Hm,FM (by omega),FM (by omega)];rw[show(127:Nat)=2 ^ 7 - 1 by decide,Nat.and_two_pow_sub_one_eq_mod];exact w64
def Ax0 (a:Nat) (h:a<128):J9 .or .i64 (a:Int) 128=((a+128:Nat):Int):=by
 have: ∀ a:Fin 128,J9 .or .i64 ((a.val:Nat):Int) 128=((a.val+128:Nat):Int):=by decide +kernel
 exact this ⟨a,h⟩
def Awc {ρ :Type} (N n:Nat) (l:List Int) (hn:n<34359738368) (hN:16<N) (fin:Int×List Int->Option ρ) :
 Jz (X:=Int×List Int) (Y:=Int×List Int) (U2 fun t5a l0a k1 x2 =>
  Vm.chk (decide (0<=u64.wrap (7*u64.wrap t5a)))
   (bif decide ((n:Int).fdiv (2 ^ min (u64.wrap (7*u64.wrap t5a)).toNat 64)>0)then
     k1 (i64.wrap (t5a+1),l0a)
   else x2 (t5a,l0a))) N (1,l) fin=fin (((1+cnt (n / 128):Nat):Int),l):=by
 refine E5 (MK (I:=fun x:Int×List Int=> ∃ t:Nat,x=((t:Int),l)/\1<=t/\t<=5) (μ :=fun x=>5 - x.1.toNat) (F:=fun x=>fin (((x.1.toNat+cnt (n / 128 ^ x.1.toNat):Nat):Int),l)) ?_ N (1,l) ⟨1,rfl,by omega,by omega⟩ (by show 5 - 1<N;omega)) rfl;rintro x ⟨t,rfl,h1,h2⟩ k hk;dsimp only[U2];rw[sh7 n t (by omega),Di (show(0:Int)<=u64.wrap (7*u64.wrap (t:Int)) by rw[wu64 (x:=(t:Int)) (by omega),wu64 (by omega)];omega),Jv];have ht:((t:Int)).toNat=t:=by omega
 rw[ht];generalize hm:n / 128 ^ t=m;by_cases h0:m=0
 .rw[h0,Ay8,cond_false,AdD];rfl
 .rw[Di,cond_true,w64];have h5:t<5:=by refine Nat.lt_of_le_of_ne h2 fun e=>h0 ?_;rw[<- hm,e];exact Nat.div_eq_of_lt hn
  have e1:((t:Int)+1).toNat=t+1:=by omega
  rw[hk _ ⟨t+1,by push_cast;rfl,by omega,by omega⟩ (by show 5 - ((t:Int)+1).toNat<5 - (t:Int).toNat;omega)];show fin (((((t:Int)+1).toNat+cnt (n / 128 ^ ((t:Int)+1).toNat):Nat):Int),l)=_;rw[e1,Nat.pow_succ,<- Iz,hm,Ajn h0];congr 2;omega
def Ard {ρ :Type} (N n:Nat) (hn:n<34359738368) (hN:16<N) (fin:List Int->Option ρ) (t:Nat) (l:List Int) (ht:t<=5) (hl:l.length<=2000000) :
 Jz (X:=Int×List Int) (Y:=List Int) (U2 fun t6c l1008192c k3 x4 =>
      bif decide (t6c>0)then
       Vm.chk (decide (0<=u64.wrap (7*u64.wrap t6c)))
        (Vm.chk (decide ((l1008192c.length+1)*2<=140737488355328))
          (k3
            (i64.wrap (t6c - 1),
              l1008192c ++
               [u8.wrap
                (J9 BinOp.or i64
                  (J9 BinOp.and i64
                    ((n:Int).fdiv (2 ^ min (u64.wrap (7*u64.wrap t6c)).toNat 64)) 127)
                  128)])))
      else x4 l1008192c) N ((t:Int),l) fin=fin (l++ints (lJ (n / 128) t)):=by
 refine E5 (MK (I:=fun x:Int×List Int=> ∃(t:Nat) (l:List Int),x=((t:Int),l)/\t<=5/\l.length+t<=2000005) (μ :=fun x=>x.1.toNat) (F:=fun x=>fin (x.2++ints (lJ (n / 128) x.1.toNat))) ?_ N ((t:Int),l) ⟨t,l,rfl,ht,by omega⟩ (by show(t:Int).toNat<N;omega)) rfl;rintro x ⟨t,l,rfl,h2,h3⟩ k hk;have ht:((t:Int)).toNat=t:=by omega
 cases t with
 | zero =>dsimp only[U2];rw[Ay8,cond_false];show _=fin (l++[]);rw[En]
 | succ t =>
  dsimp only[U2];rw[sh7 n (t+1) (by omega),Di (show(0:Int)<=u64.wrap (7*u64.wrap ((t+1:Nat):Int)) by rw[wu64 (x:=((t+1:Nat):Int)) (by omega),wu64 (by omega)];omega),Jv,Di (show((t+1:Nat):Int)>0 by omega),cond_true,Di,Jv];have hd:n / 128 ^ (t+1)<=n:=Nat.div_le_self _ _;rw[Aq9 _ (by omega),Ax0 _ (by omega),w8,w64,ht];have e1:(((t+1:Nat):Int) - 1).toNat=t:=by omega
  rw[hk _ ⟨t,_,by congr 1;omega,by omega,by rw[Dx,List.length_singleton];omega⟩ (by show(((t+1:Nat):Int) - 1).toNat<((t+1:Nat):Int).toNat;omega)];show fin ((l++_)++ints (lJ (n / 128) (((t+1:Nat):Int) - 1).toNat))=fin (l++ints ((n / 128 / 128 ^ t % 128+128)::lJ (n / 128) t));rw[e1,div_pow,Ej];congr 2;show _=((n / 128 / 128 ^ t % 128+128:Nat):Int)::ints (lJ (n / 128) t);rw[show(((n / 128 / 128 ^ t % 128+128:Nat):Int)) % 256=((n / 128 / 128 ^ t % 128+128:Nat):Int) by omega];rfl
def AeM (N:Nat) (l:List Int) (n:Nat) (hn:n<34359738368) (hN:16<N) (hl:l.length<=1000000):nS N l (n:Int)=some (l++ints (WG n)):=by
 unfold nS;try simp -zeta only[Ap]
 have hc:cnt (n / 128)<=4:=cnt_le 4 _ (by omega);have h1:=AvX 4 (n / 128) (by omega);rw[Awc N n l hn hN];dsimp only[U2];rw[w64,show((1+cnt (n / 128):Nat):Int) - 1=((cnt (n / 128):Nat):Int) by omega,Ard N n hn hN _ _ _ (by omega) (by omega),h1];have hlen:(l++ints (hi (n / 128))).length<=1000004:=by rw[Dx,Md];show l.length+cnt (n / 128)<=_;omega
 rw[Di,Jv,Aq9 _ (by omega),w8,show(((n % 128:Nat):Int)) % 256=((n % 128:Nat):Int) by omega,Ej];unfold WG ints;rw[F7];rfl
def Axv: ∀(k m:Nat),m<128 ^ k-> ∀ x∈hi m,x<256:=by
 intro k
 induction k with
 | zero =>intro m h x hx;rw[Nat.pow_zero]at h;rw[show m=0 by omega,AcD]at hx;cases hx
 | succ k ih =>
  intro m h x hx;by_cases h0:m=0
  .rw[h0,AcD]at hx;cases hx
  .rw[Api h0,DJ,DT]at hx;rcases hx with hx | rfl
   .exact ih _ (by rw[Nat.pow_succ]at h;omega) x hx
   .omega
def Aoh (n:Nat) (h:n<34359738368): ∀ x∈WG n,x<256:=by
 intro x hx;unfold WG at hx;rw[DJ,DT]at hx;rcases hx with hx | rfl
 .exact Axv 5 _ (by omega) x hx
 .omega
def gJ (n:Nat) (h:n<34359738368):(WG n).length<=5:=by unfold WG;rw[Dx];have:=cnt_le 4 (n / 128) (by omega);unfold cnt at this;simp only[List.length_singleton];omega
def dR (l:List Nat):List Nat:=WG (40*l.getD 0 0+l.getD 1 0)++(l.drop 2).flatMap WG
def encR:Option (List Nat)->Bs×Int
 | none=>([],11)
 | some l=>((dR l).map UInt8.ofNat,0)
def aQ {s:Bs} {l:List Nat} (h:MR s=some l):2<=l.length/\l.length<=12/\(∀ x∈l,x<=2147483647)/\VS l=true:=by
 unfold MR at h;split at h
 .cases h
 .cases hm:Qn Ti (Kw 46 s)with
  | none=>rw[hm]at h;cases h
  | some r =>
   rw[hm]at h;dsimp only at h;split at h
   .rename_i hr;injection h with h;subst h;have hl:=AcR hm;refine⟨by omega,by omega,fun x hx=> ?_,hr⟩;obtain⟨a,_,ha⟩:=AtW hm x hx;exact Avl ha
   .cases h
def qK {l:List Nat} (h1:2<=l.length) (h2: ∀ x∈l,x<=2147483647) (h3:VS l=true):40*l.getD 0 0+l.getD 1 0<34359738368/\l.getD 0 0<=2/\l.getD 1 0<=2147483647:=by have:=h2 (l.getD 1 0) (by rw[getD_lt l 1 0];exact Ef _);unfold VS at h3;simp only[Eo,Du,Dz]at h3;omega
def yV {l:List Nat} (h: ∀ x∈l,x<256):(ints l).all Vm.isByte=true/\(ints l).map Vm.byteOf=l.map UInt8.ofNat:=by
 constructor
 .rw[DD];intro x hx;obtain⟨n,hn,rfl⟩:=DF.1 hx;have:=h n hn;unfold Vm.isByte;simp only[Du,Dz];omega
 .unfold ints;rw[EW];rfl
def AnS {l:List Nat} (h1:2<=l.length) (h2: ∀ x∈l,x<=2147483647) (h3:VS l=true): ∀ x∈dR l,x<256:=by
 intro x hx;unfold dR at hx;rw[DJ]at hx;rcases hx with hx | hx
 .exact Aoh _ (qK h1 h2 h3).1 x hx
 .obtain⟨n,hn,hx⟩:=Ez.1 hx;have:=h2 n (FU hn);exact Aoh n (by omega) x hx
def WU (l:List Nat) (i:Nat):(ints l).getD i 0=((l.getD i 0:Nat):Int):=by
 unfold ints;by_cases h:i<l.length
 .rw[getD_lt _ _ _ (by rw[D5];exact h),getD_lt _ _ _ h,FX]
 .rw[Dj,Dj,Ei (by rw[D5];omega),Ei (by omega)];rfl
def AkM (l:List Nat):J6 (ints l) 2 (ints l).length=ints (l.drop 2):=by unfold J6 ints;rw[ES,List.map_drop]
def eG (a b:List Nat):ints (a++b)=ints a++ints b:=by unfold ints;rw[F7]
def Aht (f:Nat->List Nat): ∀(l:List Nat) (a:List Int),l.foldl (fun a n=>a++ints (f n)) a=a++ints (l.flatMap f):=by
 intro l
 induction l with
 | nil=>intro a;show a=a++[];rw[En]
 | cons x r ih =>intro a;rw[List.foldl_cons,ih,H6,eG,Ej]
def At6 (f:Nat->List Nat) (k:Nat): ∀(l:List Nat),(∀ x∈l,(f x).length<=k)->(l.flatMap f).length<=k*l.length:=by
 intro l
 induction l with
 | nil=>intro _;exact EG _
 | cons x r ih =>intro h;rw[H6,Dx,List.length_cons,Nat.mul_succ];have:=ih (fun y hy=>h y (Dw _ hy));have:=h x Dv;omega
def AlW {X E S ρ :Type} {g:S->E->S} {e:E} {s:S} {b:(X->Option ρ)->Option ρ} {nx:S->X} {I:S->Prop} (h:(∀ k,b k=k (nx (g s e)))/\I (g s e)):gU b nx I (bT some g (none:Option ρ) e s):=h
def Ah6 {α :Type}: ∀ l:List α,Qn some l=some l:=by
 intro l
 induction l with
 | nil=>rfl
 | cons a r ih=>rw[zN,ih];rfl
def uO (N:Nat) (s:Bs) (hN:16<N) (hs:s.length<=1048576):TB N s=some (encR (MR s)):=by
 unfold TB;try simp -zeta only[Ap]
 rw[Acf N s hN hs,Jr];cases ha:MR s with
 | none=>rfl
 | some l =>
  obtain⟨h1,h2,h3,h4⟩:=aQ ha;have hf:=qK h1 h3 h4;show(bif (ints l).isEmpty then _ else _)=_;rw[show Auh (some l)=ints l from rfl,show(ints l).isEmpty=false by rw[Ho];exact⟨_,DF.2 ⟨l.getD 0 0,by rw[getD_lt l 0 0];exact Ef _,rfl⟩⟩,cond_false,Md,Di,Jv,Di,Jv,WU,WU];rw[w64 (x:=40*((l.getD 0 0:Nat):Int)),w64,show(40:Int)*((l.getD 0 0:Nat):Int)+((l.getD 1 0:Nat):Int)=((40*l.getD 0 0+l.getD 1 0:Nat):Int) by omega];dsimp only;rw[AeM N [] _ hf.1 hN (EG _),Jr];rw[Di,Jv,<- Md l,AkM];generalize hd:l.drop 2=d;have hdl:d.length<=10:=by rw[<- hd,EJ];omega
  have hdm: ∀ x∈d,x<=2147483647:=fun x hx=>h3 x (FU (hd▸hx));refine E5 (Oo (S:=List Int) (mk:=fun i a=>(i,a)) (out:=fun a=>a) d 0 (fun i a=>a.length<=5*(i+1)) (bT some (fun a n=>a++ints (WG n)) none) ?_ ?_ N _ (by rw[List.nil_append,Md];have:=gJ _ hf.1;omega)) ?_
  .intro i a hi ha;rw[getD_lt d i 0 hi];have hn:=hdm d[i] (Ef hi);refine AlW ⟨fun k=> ?_,?_⟩
   .dsimp only[U2];rw[Md,Di,cond_true,Di,Jv,Jv,show((i:Int)).toNat=i by omega,WU,getD_lt d i 0 hi,AeM N a _ (by omega) hN (by omega),Jr,w64]
   .have:=gJ d[i] (by omega);rw[Dx,Md];omega
  .intro a k ha;dsimp only[U2];rw[Md,Ay8,cond_false]
  .rw[AlN,Ah6];dsimp only[Option.elim];rw[Aht,List.nil_append,<- eG];have hb:=yV (AnS h1 h3 h4);unfold dR at hb;rw[hd]at hb;rw[hb.1,hb.2,Jv];show _=some ((dR l).map UInt8.ofNat,0);unfold dR;rw[hd]
end Go.Proofs.YtehkhflpjkokeaaGreatDoor.Pl
