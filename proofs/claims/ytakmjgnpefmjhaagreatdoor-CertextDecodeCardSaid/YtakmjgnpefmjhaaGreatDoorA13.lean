import Derived.Test.YtakmjgnpefmjhaaGreatDoorA10
import Derived.Lib.SplitLaws
set_option linter.all false
namespace Go.Proofs.YtakmjgnpefmjhaaGreatDoor.Vm
open IntKind (i64 u8 u32 u64)
open Go
def w64 {x:Int} (h1: -9223372036854775808<=x) (h2:x<=9223372036854775807):i64.wrap x=x:=by
 have e:i64.wrap x=if 9223372036854775808<=x % 18446744073709551616 then x % 18446744073709551616 - 18446744073709551616 else x % 18446744073709551616:=by show(if(true&&decide (x % 18446744073709551616>=9223372036854775808))=true then _ else _)=_;simp only[ET,D6,ge_iff_le];rfl
 rw[e];split<;>omega
def w8 (x:Int):u8.wrap x=x % 256:=by
 have hp:(2:Int) ^ 8=256:=by decide
 simp only[IntKind.wrap,IntKind.bits,IntKind.signed,FN,Hr,Gf,hp]
def kL (x:Int):isByte (u8.wrap x)=true:=by rw[w8];unfold isByte;simp;omega
def wu64 {x:Int} (h1:0<=x) (h2:x<=18446744073709551615):u64.wrap x=x:=by
 have hp:(2:Int) ^ 64=18446744073709551616:=by decide
 simp only[IntKind.wrap,IntKind.bits,IntKind.signed,FN,Hr,Gf,hp];omega
def Ayo (a:Nat) (h:a<256):JY .and .i64 (a:Int) 31=((a % 32:Nat):Int):=by
 have: ∀ a:Fin 256,JY .and .i64 ((a.val:Nat):Int) 31=((a.val % 32:Nat):Int):=by decide +kernel
 exact this ⟨a,h⟩
def Ayp (a:Nat) (h:a<256):JY .and .i64 (a:Int) 32=((if a / 32 % 2=1 then 32 else 0:Nat):Int):=by
 have: ∀ a:Fin 256,JY .and .i64 ((a.val:Nat):Int) 32=((if a.val / 32 % 2=1 then 32 else 0:Nat):Int):=by decide +kernel
 exact this ⟨a,h⟩
def or8 (t b:Nat) (ht:t<36028797018963968) (hb:b<256):JY .or .i64 (((t*256:Nat)):Int) (b:Int)=((t*256+b:Nat):Int):=by
 have e: ∀ n:Nat,n<2 ^ 64->(BitVec.ofInt 64 (n:Int))=BitVec.ofNat 64 n:=fun n _=>by simp
 show i64.wrap _=_;rw[show(BitVec.ofInt (i64).bits ((t*256:Nat):Int))=BitVec.ofNat 64 (t*256)from e _ (by omega),show(BitVec.ofInt (i64).bits ((b:Nat):Int))=BitVec.ofNat 64 b from e _ (by omega)];show i64.wrap (((BitVec.ofNat 64 (t*256)) ||| (BitVec.ofNat 64 b)).toNat:Int)=_;rw[BitVec.toNat_or,FY,FY,F6 (by omega),F6 (by omega)];rw[show t*256=t <<< 8 by rw[G8],<- Gz (by omega:b<2 ^ 8),G8];exact w64 (by omega) (by omega)
def Xf {ρ :Type} (p:Prop) [Decidable p] (k:Option ρ):chk (decide p) k=if p then k else none:=by by_cases h:p<;>simp [chk,h]
def J8 {ρ :Type} (k:Option ρ):chk true k=k:=rfl
def Aji {ρ :Type} (b:Bool) (k:Option ρ):chk (!b|| !!b) k=k:=by cases b<;>rfl
def AkU {ρ :Type} (b:Bool) (k:Option ρ):chk (b|| !b) k=k:=by cases b<;>rfl
def ArL {ρ :Type} (b:Bool) (k:Option ρ):chk (bif b then true else !b) k=k:=by cases b<;>rfl
def AoN {ρ :Type} (b:Bool) (k:Option ρ):chk (bif b then true else true) k=k:=by cases b<;>rfl
def AoI (a b:Bool):(bif a then true else b)=(a||b):=by cases a<;>rfl
def OJ {α :Type} (p:Prop) [Decidable p] (a b: α):(bif decide p then a else b)=if p then a else b:=by by_cases h:p<;>simp [h]
def AkV {ρ :Type} (b:Bool) (k:Option ρ):chk (b||true) k=k:=by cases b<;>rfl
def Q3 {α :Type} (b:Bool) (x y: α):(bif b then x else y)=if b=true then x else y:=by cases b<;>rfl
def ArM {ρ :Type} (b:Bool) (k:Option ρ):chk b k=if b=true then k else none:=by cases b<;>rfl
theorem Js {α ρ :Type} [Inhabited α] (a: α) (k: α ->Option ρ):Jq (some a) k=k a:=rfl
def Pz {α ρ :Type} (A:(α ->Option ρ)->Option ρ) (f: α ->Option ρ):Ld A f=A f:=rfl
def OA {X Y ρ :Type} (B:X->(X->Option ρ)->(Y->Option ρ)->Option ρ) (n:Nat) (x:X) (kx:Y->Option ρ):J6 B (n+1) x kx=B x (fun x'=>J6 B n x' kx) kx:=rfl
def Ox {X Y ρ :Type} {B:X->(X->Option ρ)->(Y->Option ρ)->Option ρ} {kx:Y->Option ρ} (I:X->Prop) (μ :X->Nat) (F:X->Option ρ)
 (h: ∀ x,I x-> ∀ k:X->Option ρ,(∀ x',I x'-> μ x'< μ x->k x'=F x')->B x k kx=F x): ∀(N:Nat) (x:X),I x-> μ x<N->J6 B N x kx=F x:=by
 intro N
 induction N with
 | zero=>intro x _ h;omega
 | succ N ih=>intro x hI hm;exact h x hI _ (fun x' hI' hm'=>ih x' hI' (by omega))
def AjK {X Y ρ :Type} {B:X->(X->Option ρ)->(Y->Option ρ)->Option ρ} {kx:Y->Option ρ} (I:X->Prop) (μ :X->Nat) (Q:Option ρ ->Prop)
 (h: ∀ x,I x-> ∀ k:X->Option ρ,(∀ x',I x'-> μ x'< μ x->Q (k x'))->Q (B x k kx)): ∀(N:Nat) (x:X),I x-> μ x<N->Q (J6 B N x kx):=by
 intro N
 induction N with
 | zero=>intro x _ h;omega
 | succ N ih=>intro x hI hm;exact h x hI _ (fun x' hI' hm'=>ih x' hI' (by omega))
def JV {E:Type} (f:E->Int):List E->Int
 | []=>0
 | e::r=>if f e≠0 then f e else JV f r
set_option linter.defProp false in
def Aa_r {ρ:Type} (b:Bool) (k:Option ρ):Aa b k=chk (b||!b) k:=rfl
def Aa_e {ρ:Type} (b:Bool) (k:Option ρ):Aa b k=k:=by cases b<;>rfl
def Ac_r {ρ:Type} (b:Bool) (k:Option ρ):Ac b k=chk (b||!b) (chk (b||!b) k):=rfl
def Ac_e {ρ:Type} (b:Bool) (k:Option ρ):Ac b k=k:=by cases b<;>rfl
def Ad_r {ρ:Type} (b:Bool) (k:Option ρ):Ad b k=chk (b||!b) (chk (b||!b) (chk (b||!b) k)):=rfl
def Ad_e {ρ:Type} (b:Bool) (k:Option ρ):Ad b k=k:=by cases b<;>rfl
def Ae_r {ρ:Type} (b:Bool) (k:Option ρ):Ae b k=chk (b||!b) (chk (b||!b) (chk (b||!b) (chk (b||!b) k))):=rfl
def Ae_e {ρ:Type} (b:Bool) (k:Option ρ):Ae b k=k:=by cases b<;>rfl
def Af_r {ρ:Type} (b:Bool) (k:Option ρ):Af b k=chk (b||!b) (chk (b||!b) (chk (b||!b) (chk (b||!b) (chk (b||!b) k)))):=rfl
def Af_e {ρ:Type} (b:Bool) (k:Option ρ):Af b k=k:=by cases b<;>rfl
def Ag_r {ρ:Type} (b:Bool) (k:Option ρ):Ag b k=chk (b||!b) (chk (b||!b) (chk (b||!b) (chk (b||!b) (chk (b||!b) (chk (b||!b) k))))):=rfl
def Ag_e {ρ:Type} (b:Bool) (k:Option ρ):Ag b k=k:=by cases b<;>rfl
def Ah_r {ρ:Type} (b:Bool) (k:Option ρ):Ah b k=chk (bif b then b else true) (chk (bif b then true else true) k):=rfl
def Ah_e {ρ:Type} (b:Bool) (k:Option ρ):Ah b k=k:=by cases b<;>rfl
def Ai_r {ρ:Type} (b:Bool) (k:Option ρ):Ai b k=chk (bif b then true else !b) (chk (bif b then true else true) k):=rfl
def Ai_e {ρ:Type} (b:Bool) (k:Option ρ):Ai b k=k:=by cases b<;>rfl
def Aj_r {ρ:Type} (i:Int) (n:Nat) (k:Option ρ):Aj i n k=chk (decide (0<=i)) (chk (decide (i<(n:Int))) k):=rfl
def Aj_e {ρ:Type} (i:Int) (n:Nat) (k:Option ρ):Aj i n k=chk (decide (0<=i)) (chk (decide (i<(n:Int))) k):=rfl
def Ak_r {ρ:Type} (p:Prop) [Decidable p] (k:Option ρ):Ak p k=chk (decide p) k:=rfl
def Ak_e {ρ:Type} (p:Prop) [Decidable p] (k:Option ρ):Ak p k=chk (decide p) k:=rfl
def Am_r {ρ:Type} (n:Nat) (k:Option ρ):Am n k=chk (decide (n<=140737488355328)) k:=rfl
def Am_e {ρ:Type} (n:Nat) (k:Option ρ):Am n k=chk (decide (n<=140737488355328)) k:=rfl
def CY_e {a b c d e:Type} (x:a×b×c×d×e):CY x=x.2.2.2.2:=rfl
def CZ_e {a b c d e f g h i:Type} (x:a×b×c×d×e×f×g×h×i):CZ x=x.2.2.2.2.2.2.2.2:=rfl
def Dc_e {a b c d e f g h i j k l m:Type} (x:a×b×c×d×e×f×g×h×i×j×k×l×m):Dc x=x.2.2.2.2.2.2.2.2.2.2.2.2:=rfl
def Dh_e {a b c d e f g h i j k l m n o p q:Type} (x:a×b×c×d×e×f×g×h×i×j×k×l×m×n×o×p×q):Dh x=x.2.2.2.2.2.2.2.2.2.2.2.2.2.2.2.2:=rfl
def Di_e {a b c d e f g h i j k l m n o p q r s t u:Type} (x:a×b×c×d×e×f×g×h×i×j×k×l×m×n×o×p×q×r×s×t×u):Di x=x.2.2.2.2.2.2.2.2.2.2.2.2.2.2.2.2.2.2.2.2:=rfl
def Dj_e {a b c d e f g h i j k l m n o p q r s t u v w x y:Type} (x:a×b×c×d×e×f×g×h×i×j×k×l×m×n×o×p×q×r×s×t×u×v×w×x×y):Dj x=x.2.2.2.2.2.2.2.2.2.2.2.2.2.2.2.2.2.2.2.2.2.2.2.2:=rfl
def Dk_e {a b c d e f g h i j k l m n o p q r s t u v w x y z A B C:Type} (x:a×b×c×d×e×f×g×h×i×j×k×l×m×n×o×p×q×r×s×t×u×v×w×x×y×z×A×B×C):Dk x=x.2.2.2.2.2.2.2.2.2.2.2.2.2.2.2.2.2.2.2.2.2.2.2.2.2.2.2.2:=rfl
def Ap:=And.intro @Dk_e (And.intro @Dj_e (And.intro @Di_e (And.intro @Dh_e (And.intro @Dc_e (And.intro @CZ_e (And.intro @CY_e (And.intro @Am_r (And.intro @Ak_r (And.intro @Aj_r (And.intro @Ai_r (And.intro @Ah_r (And.intro @Ag_r (And.intro @Af_r (And.intro @Ae_r (And.intro @Ad_r (And.intro @Ac_r (@Aa_r)))))))))))))))))
def clR:=And.intro @Dk_e (And.intro @Dj_e (And.intro @Di_e (And.intro @Dh_e (And.intro @Dc_e (And.intro @CZ_e (And.intro @CY_e (And.intro @Am_e (And.intro @Ak_e (And.intro @Aj_e (And.intro @Ai_e (And.intro @Ah_e (And.intro @Ag_e (And.intro @Af_e (And.intro @Ae_e (And.intro @Ad_e (And.intro @Ac_e (And.intro @Aa_e (And.intro @Al2 (And.intro @IG (And.intro @I9 (And.intro @IA (And.intro @Iz (And.intro @Jj (And.intro @Ie (And.intro @IZ (And.intro @J8 (And.intro @EE (And.intro @DV (And.intro @FP (@Bool.cond_self.{1}))))))))))))))))))))))))))))))
def Ur (c:UInt8):c.toNat<256:=Hm c
def getD_lt {α :Type} (l:List α) (i:Nat) (d: α) (h:i<l.length):l.getD i d=l[i]:=by rw[Dp,D9 h];rfl
def ArI {α :Type} {p: α ->Bool} {l:List α} (h:l.all p=true) {i:Nat} (hi:i<l.length):p l[i]=true:=DJ.1 h _ (EL hi)
def UY {E S ρ :Type} (step:E->S->Option ρ ⊕ S) (fin:S->Option ρ):List E->S->Option ρ
 | [],s=>fin s
 | e::r,s=>match step e s with
  | .inl x=>x
  | .inr s'=>UY step fin r s'
def Agf {X S ρ :Type} (b:(X->Option ρ)->Option ρ) (nx:S->X) (I:S->Prop):Option ρ ⊕ S->Prop
 | .inl x=> ∀ k,b k=x
 | .inr s'=>(∀ k,b k=k (nx s'))/\I s'
def kM {X Y S E ρ :Type} {B:X->(X->Option ρ)->(Y->Option ρ)->Option ρ} {kx:Y->Option ρ} (mk:Int->S->X) (l:List E) (d:E) (I:Nat->S->Prop) (step:E->S->Option ρ ⊕ S) (fin:S->Option ρ)
 (h: ∀(i:Nat) (s:S),i<l.length->I i s->Agf (fun k=>B (mk (i:Int) s) k kx) (mk ((i:Int)+1)) (I (i+1)) (step (l.getD i d) s))
 (hend: ∀(s:S) (k:X->Option ρ),I l.length s->B (mk (l.length:Int) s) k kx=fin s) (N:Nat) (s:S) (h0:I 0 s) (hN:l.length<N):J6 B N (mk 0 s) kx=UY step fin l s:=by
 have key: ∀(n i:Nat) (s:S),I i s->i<=l.length->l.length - i<n->J6 B n (mk (i:Int) s) kx=UY step fin (l.drop i) s:=by
  intro n
  induction n with
  | zero=>intro i s _ _ h;omega
  | succ n ih =>
   intro i s hI hi hn;rw[OA];by_cases hl:i<l.length
   .have h1:=h i s hl hI;rw[Es hl];show _=(match step l[i] s with | .inl x=>x | .inr s'=>UY step fin (l.drop (i+1)) s');rw[show l.getD i d=l[i] by simp [Dp,hl]]at h1;cases hs:step l[i] s with
    | inl x=>rw[hs]at h1;exact h1 _
    | inr s' =>rw[hs]at h1;obtain⟨h2,h3⟩:=h1;exact(h2 _).trans (ih (i+1) _ h3 (by omega) (by omega))
   .have:i=l.length:=by omega
    subst this;rw[hend s _ hI,EY];rfl
 exact key N 0 s h0 (by omega) (by omega)
def OY {X Y S E ρ :Type} {B:X->(X->Option ρ)->(Y->Option ρ)->Option ρ} {kx:Y->Option ρ} (mk:Int->S->X) (out:S->Y) (l:List E) (d:E) (I:Nat->S->Prop) (step:E->S->Option ρ ⊕ S)
 (h: ∀(i:Nat) (s:S),i<l.length->I i s->Agf (fun k=>B (mk (i:Int) s) k kx) (mk ((i:Int)+1)) (I (i+1)) (step (l.getD i d) s))
 (hend: ∀(s:S) (k:X->Option ρ),I l.length s->B (mk (l.length:Int) s) k kx=kx (out s)) (N:Nat) (s:S) (h0:I 0 s) (hN:l.length<N):J6 B N (mk 0 s) kx=UY step (fun s=>kx (out s)) l s :=
 kM mk l d I step _ h hend N s h0 hN
def Sj {α β :Type} (f: α ->Option β):List α ->Option (List β)
 | []=>some []
 | a::r=>match f a,Sj f r with
  | some b,some t=>some (b::t)
  | _,_=>none
def pW {E β S ρ :Type} (f:E->Option β) (g:S-> β ->S) (bad:Option ρ) (e:E) (s:S):Option ρ ⊕ S:=(f e).elim (.inl bad) (fun b=>.inr (g s b))
def Aq9 {X E β S ρ :Type} {f:E->Option β} {g:S-> β ->S} {bad:Option ρ} {e:E} {s:S} {b:(X->Option ρ)->Option ρ} {nx:S->X} {I:S->Prop} (h1:f e=none-> ∀ k,b k=bad) (h2: ∀ v,f e=some v->(∀ k,b k=k (nx (g s v)))/\I (g s v)):Agf b nx I (pW f g bad e s):=by
 unfold pW;cases h:f e with
 | none=>exact h1 h
 | some v=>exact h2 v h
def Aq2 {E β S ρ :Type} (f:E->Option β) (g:S-> β ->S) (bad:Option ρ) (fin:S->Option ρ): ∀(l:List E) (s:S),UY (pW f g bad) fin l s=(Sj f l).elim bad (fun bs=>fin (bs.foldl g s)):=by
 intro l
 induction l with
 | nil=>intro s;rfl
 | cons e r ih =>
  intro s;have h1:pW f g bad e s=(f e).elim (.inl bad) (fun b=>.inr (g s b)):=rfl;unfold UY Sj;rw[h1];cases f e with
  | none=>rfl
  | some b =>show UY (pW f g bad) fin r (g s b)=_;rw[ih];cases Sj f r<;>rfl
def Amq {α β :Type} (h: α -> β): ∀(l:List α) (a:List β),l.foldl (fun a x=>a++[h x]) a=a++l.map h:=by
 intro l
 induction l with
 | nil=>intro a;simp
 | cons x r ih=>intro a;rw[List.foldl_cons,ih];simp
def Ais {α β :Type} {f: α ->Option β}: ∀ {l:List α} {r:List β},Sj f l=some r->r.length=l.length:=by
 intro l
 induction l with
 | nil=>intro r h;injection h with h;subst h;rfl
 | cons a t ih =>
  intro r h;unfold Sj at h;split at h
  .rename_i b q h1 h2;injection h with h;subst h;simp [ih h2]
  .cases h
def KA (c:UInt8):Bs->List Bs
 | []=>[[]]
 | b::r=>if b=c then []::KA c r else match KA c r with
  | []=>[[b]]
  | h::t=>(b::h)::t
def AmL (c:UInt8) (s:Bs):KA c s≠ []:=by
 cases s with
 | nil=>simp [KA]
 | cons b r =>
  unfold KA;split
  .simp
  .split<;>simp
def jQ (c b:UInt8) (r:Bs) (h:b≠c):KA c (b::r)=(b::(KA c r).headD [])::(KA c r).tail:=by
 have hn:=AmL c r;show(if b=c then _ else _)=_;rw[Dt h];cases hs:KA c r with
 | nil=>exact absurd hs hn
 | cons x t=>rfl
def Vh (c:UInt8): ∀(a r:Bs),c∉a->KA c (a++c::r)=a::KA c r:=by
 intro a
 induction a with
 | nil =>intro r _;show(if c=c then _ else _)=_;rw[Dq rfl]
 | cons b a ih =>intro r h;have hb:b≠c:=fun e=>h (by rw[e];exact Dw);have:=ih r (fun hm=>h (Dz _ hm));show KA c (b::(a++c::r))=_;rw[jQ _ _ _ hb,this];rfl
def YL (c:UInt8): ∀ a:Bs,c∉a->KA c a=[a]:=by
 intro a
 induction a with
 | nil=>intro _;rfl
 | cons b a ih =>intro h;have hb:b≠c:=fun e=>h (by rw[e];exact Dw);rw[jQ _ _ _ hb,ih (fun hm=>h (Dz _ hm))];rfl
def index_none (c:UInt8): ∀ s:Bs,c∉s->Lib.index s [c]= -1:=by
 intro s
 induction s with
 | nil=>intro _;rfl
 | cons b r ih =>intro h;have hb: ¬ c=b:=fun e=>h (by rw[e];exact Dw);have h2:=ih (fun hm=>h (Dz _ hm));show(if List.isPrefixOf [c] (b::r)=true then(0:Int)else if Lib.index r [c]== -1 then -1 else Lib.index r [c]+1)= -1;rw[h2,Dt (by simp [List.isPrefixOf,hb])];rfl
def Aie (c:UInt8): ∀(a r:Bs),c∉a->Lib.index (a++c::r) [c]=(a.length:Int):=by
 intro a
 induction a with
 | nil =>intro r _;show(if List.isPrefixOf [c] (c::r)=true then(0:Int)else _)=_;rw[Dq (by simp [List.isPrefixOf])];rfl
 | cons b a ih =>intro r h;have hb: ¬ c=b:=fun e=>h (by rw[e];exact Dw);have h2:=ih r (fun hm=>h (Dz _ hm));show(if List.isPrefixOf [c] (b::(a++c::r))=true then(0:Int)else if Lib.index (a++c::r) [c]== -1 then -1 else Lib.index (a++c::r) [c]+1)=_;rw[h2,Dt (by simp [List.isPrefixOf,hb]),Dt (by simp)];simp
def kG (c:UInt8) (s:Bs):c∉s\/ ∃ a r,s=a++c::r/\c∉a:=by
 induction s with
 | nil=>left;simp
 | cons b t ih =>
  by_cases hb:b=c
  .right;exact⟨[],t,by rw[hb];rfl,by simp⟩
  .rcases ih with h | ⟨a,r,h1,h2⟩
   .left;intro hm;rcases D8.1 hm with h3 | h3
    .exact hb h3.symm
    .exact h h3
   .right;refine⟨b::a,r,by rw[h1];rfl,fun hm=> ?_⟩;rcases D8.1 hm with h3 | h3
    .exact hb h3.symm
    .exact h2 h3
def Awo (c:UInt8): ∀(n:Nat) (s:Bs),s.length<=n->Lib.splitK [c] 0 (Lib.count s [c]) s=KA c s:=by
 intro n
 induction n with
 | zero =>intro s h;have:s=[]:=Fz (by omega);subst this;rfl
 | succ n ih =>
  intro s h;rcases kG c s with hn | ⟨a,r,rfl,ha⟩
  .rw[Lib.count_miss (index_none c s hn),YL c s hn];rfl
  .have hi:=Aie c a r ha;rw[Lib.count_hit (by simp) hi,Nat.add_comm];show(if Lib.index (a++c::r) [c]== -1 then _ else _)=_;rw[hi,Dt (by simp),Vh c a r ha];have e1:(a++c::r).take ((a.length:Int).toNat+0)=a:=by simp
   have e2:(a++c::r).drop ((a.length:Int).toNat+ [c].length)=r:=by rw[show((a.length:Int).toNat+ [c].length)=a.length+1 from by simp];rw[<- FM,G6];rfl
   have e3:(a++c::r).drop (a.length+ [c].length)=r:=by rw[show(a.length+ [c].length)=a.length+1 from by simp,<- FM,G6];rfl
   rw[e1,e2,e3,ih r (by simp at h;omega)]
def Aq8 (c:UInt8) (s:Bs):Lib.split s [c]=KA c s:=Awo c s.length s (DK _)
def dZ (c:UInt8): ∀ s:Bs,(KA c s).length<=s.length+1/\0<(KA c s).length/\ ∀ x∈KA c s,x.length<=s.length:=by
 intro s
 induction s with
 | nil=>exact⟨by simp [KA],by simp [KA],by intro x hx;simp [KA]at hx;simp [hx]⟩
 | cons b r ih =>
  obtain⟨h1,h2,h3⟩:=ih;by_cases hb:b=c
  .have e:KA c (b::r)=[]::KA c r:=by show(if b=c then _ else _)=_;rw[Dq hb]
   rw[e];refine⟨by simp;omega,by simp,fun x hx=> ?_⟩;rcases D8.1 hx with rfl | hx
   .simp
   .have:=h3 x hx;simp;omega
  .rw[jQ _ _ _ hb];cases hs:KA c r with
   | nil=>rw[hs]at h2;simp at h2
   | cons y t =>
    rw[hs]at h1 h3;refine⟨by simp at h1 ⊢;omega,by simp,fun x hx=> ?_⟩;rcases D8.1 hx with rfl | hx
    .have:=h3 y Dw;simp;omega
    .have:=h3 x (Dz _ hx);simp;omega
end Go.Proofs.YtakmjgnpefmjhaaGreatDoor.Vm
namespace Go.Proofs.YtakmjgnpefmjhaaGreatDoor.Pl
open IntKind (i64 u8 u32 u64)
open Go Vm
def MG (c:UInt8):Bool:=decide (48<=c.toNat)&&decide (c.toNat<=57)
def OV (d:Bs):Nat:=d.foldl (fun v c=>10*v+(c.toNat - 48)) 0
def AeJ (d:Bs) (c:UInt8):OV (d++[c])=10*OV d+(c.toNat - 48):=by simp [OV,Hz]
def AwU: ∀(d:Bs) (v k:Nat),d.all MG=true->v<10 ^ k->d.foldl (fun v c=>10*v+(c.toNat - 48)) v<10 ^ (k+d.length):=by
 intro d
 induction d with
 | nil=>intro v k _ h;exact h
 | cons c d ih =>intro v k h hv;rw[List.all_cons,Dv]at h;have h2:=h.1;unfold MG at h2;simp only[Dv,D6]at h2;have:=ih (10*v+(c.toNat - 48)) (k+1) h.2 (by rw[Nat.pow_succ];omega);rw[List.length_cons,show k+(d.length+1)=k+1+d.length by omega];exact this
def ArQ (d:Bs) (h:d.all MG=true):OV d<10 ^ d.length:=by have:=AwU d 0 0 h (by decide);rwa [Ea]at this
def AiV (d:Bs):Bool:= !(decide (d.length=0)||decide (10<d.length)||(decide ((d.getD 0 0).toNat=48)&&decide (1<d.length)))&&(d.all MG&&decide (OV d<=2147483647))
def Ux (d:Bs):Option Nat:=if AiV d then some (OV d)else none
def AtX:Option Nat->Int
 | none=> -1
 | some n=>n
def AoY {c:Nat} (h1:48<=c) (h2:c<=57):i64.wrap (u8.wrap ((c:Int) - 48))=((c - 48:Nat):Int):=by rw[w8,w64 (by omega) (by omega)];omega
def AwB {ρ :Type} (N:Nat) (s:Bs) (hs:s.length<=10) (hN:10<N) (bad:Option ρ) (fin:Int->Option ρ) :
 J6 (X:=Int×Int) (Y:=Int) (U2 fun t3a t4a k7 x8 =>
  bif decide (t4a<(s.length:Int))then Vm.chk (decide ((0:Int)<=t4a)) (Vm.chk (decide (t4a<(s.length:Int)))
   (Vm.chk (decide ((0:Int)<=t4a)||decide (((s.getD t4a.toNat 0).toNat:Int)<(48:Int)))
     (Vm.chk (decide (t4a<(s.length:Int))||decide (((s.getD t4a.toNat 0).toNat:Int)<(48:Int)))
       (bif decide (((s.getD t4a.toNat 0).toNat:Int)<(48:Int))||decide (((s.getD t4a.toNat 0).toNat:Int)>(57:Int))then bad
        else Vm.chk (decide ((0:Int)<=t4a)) (Vm.chk (decide (t4a<(s.length:Int)))
         (k7 (i64.wrap ((i64.wrap ((10:Int)*t3a))+i64.wrap (u8.wrap (((s.getD t4a.toNat 0).toNat:Int) - (48:Int)))),i64.wrap (t4a+(1:Int)))))))))
  else x8 t3a) N (0,0) fin=if s.all MG=true then fin ((OV s:Nat):Int)else bad:=by
 refine Ox (I:=fun x=> ∃ i:Nat,x=(((OV (s.take i):Nat):Int),(i:Int))/\i<=s.length/\(s.take i).all MG=true) (μ :=fun x=>s.length - x.2.toNat) (fun _=>if s.all MG=true then fin ((OV s:Nat):Int)else bad) ?_ N (0,0) ⟨0,rfl,by omega,rfl⟩ (by show s.length - 0<N;omega);rintro x ⟨i,rfl,hi,hd⟩ k hk;show(bif decide ((i:Int)<(s.length:Int))then _ else _)=_;by_cases hl:i<s.length
 .have hv:=ArQ (s.take i) hd;have h10:(10:Nat) ^ (s.take i).length<=10 ^ 9:=FQ (by decide) (by simp;omega);have hg:s.getD ((i:Int)).toNat 0=s[i]:=getD_lt s i 0 hl;rw[Dn (by omega),cond_true,hg,Dn (show(0:Int)<=(i:Int) by omega)];simp only[DV,J8];have htake:s.take (i+1)=s.take i++[s[i]]:=by rw[Fv,D9 hl];rfl
  by_cases hc:MG s[i]=true
  .have hc':=hc;unfold MG at hc';simp only[Dv,D6]at hc';rw[Du (by omega),Du (by omega)];simp only[FP,cond_false];rw[AoY hc'.1 hc'.2,w64 (x:=(10:Int)*((OV (s.take i):Nat):Int)) (by omega) (by omega),w64 (x:=(10:Int)*((OV (s.take i):Nat):Int)+_) (by omega) (by omega),w64 (x:=(i:Int)+1) (by omega) (by omega)];refine hk _ ⟨i+1,?_,by omega,by rw[htake,Ij,hd];simpa using hc⟩ (by show s.length - ((i:Int)+1).toNat<s.length - ((i:Int)).toNat;omega);rw[htake,AeJ]
   push_cast
   rfl
  .have hall: ¬(s.all MG=true):=fun h=>hc (ArI h hl);rw[Dt hall];have:(decide (((s[i].toNat:Nat):Int)<48)||decide (((s[i].toNat:Nat):Int)>57))=true:=by unfold MG at hc;simp only[Dv,D6]at hc;simp only[E5,D6];omega
   rw[this,cond_true]
 .have:i=s.length:=by omega
  subst this;rw[Du (by omega),cond_false];rw[Ez]at hd;rw[Dq hd,Ez]
def AtN (N:Nat) (s:Bs) (hN:16<N):AaS N s=some (AtX (Ux s)):=by
 unfold AaS;try simp only[clR]
 by_cases h0:s.length=0
 .have:s=[]:=Fz h0;subst this;rfl
 .have hne:(s==([]:Bs))=false:=by cases s with | nil=>exact absurd rfl h0 | cons _ _=>rfl
  rw[hne,Dn (show(0:Int)<(s.length:Int) by omega)];simp only[EI,DV,J8];unfold Ux AiV;by_cases h1:10<s.length
  .rw[Dn (show(s.length:Int)>10 by omega),Dn h1];simp [J8,AtX]
  .rw[Du (show ¬((s.length:Int)>10) by omega),Du h1,Du h0];simp only[Fh,EI,Ee,ET,Ie,J8];by_cases h2:(s.getD 0 0).toNat=48/\1<s.length
   .rw[show(((s.getD 0 0).toNat:Int)==48)=true from by rw[EU];omega,Dn (show(s.length:Int)>1 by omega),Dn h2.1,Dn h2.2];rfl
   .have e:((((s.getD 0 0).toNat:Int)==48)&&decide ((s.length:Int)>1))=false:=by
     rw[ER];simp only[Hg,Ed];omega
    have e':(decide ((s.getD 0 0).toNat=48)&&decide (1<s.length))=false:=by rw[ER];simp only[Ed];omega
    rw[e,e',cond_false];refine Ey (AwB N s (by omega) (by omega) _ _) ?_;by_cases h3:s.all MG=true
    .rw[Dq h3,h3];by_cases h4:OV s<=2147483647
     .rw[Du (by omega),Dn h4];rfl
     .rw[Dn (by omega),Du h4];rfl
    .rw[Dt h3,show s.all MG=false by simpa using h3];rfl
def X8 (l:List Nat):Bool:=(decide (l.getD 0 0<=1)&&decide (l.getD 1 0<=39))||decide (l.getD 0 0=2)
def ND (s:Bs):Option (List Nat) :=
 if(KA 46 s).length<2\/12<(KA 46 s).length then none
 else match Sj Ux (KA 46 s)with
  | none=>none
  | some l=>if X8 l=true then some l else none
def ints (l:List Nat):List Int:=l.map fun(n:Nat)=>(n:Int)
def A12:Option (List Nat)->List Int
 | none=>[]
 | some l=>ints l
def AyF {s:Bs} {n:Nat} (h:Ux s=some n):n<=2147483647:=by
 unfold Ux at h;split at h
 .rename_i hk;injection h with h;unfold AiV at hk;simp only[Dv,D6]at hk;omega
 .cases h
def Ax0 {α β :Type} {f: α ->Option β}: ∀ {l:List α} {r:List β},Sj f l=some r-> ∀ b∈r,∃ a∈l,f a=some b:=by
 intro l
 induction l with
 | nil=>intro r h b hb;injection h with h;subst h;cases hb
 | cons a t ih =>
  intro r h b hb;unfold Sj at h;split at h
  .rename_i x q h1 h2;injection h with h;subst h;rcases D8.1 hb with rfl | hb
   .exact⟨a,Dw,h1⟩
   .obtain⟨y,h3,h4⟩:=ih h2 b hb;exact⟨y,Dz _ h3,h4⟩
  .cases h
def Ars (N:Nat) (a b:Nat):Acx N (a:Int) (b:Int)=some ((decide (a<=1)&&decide (b<=39))||decide (a=2)):=by
 unfold Acx;try simp only[clR]
 have e1:decide ((a:Int)<=1)=decide (a<=1):=by rw[GZ];omega
 have e2:decide ((b:Int)<=39)=decide (b<=39):=by rw[GZ];omega
 have e3:((a:Int)==2)=decide (a=2):=by rw[EW,EU,D6];omega
 rw[e1,e2,e3]
def Arp (N:Nat) (s:Bs) (hN:16<N) (hs:s.length<=1048576):tJ N s=some (A12 (ND s)):=by
 unfold tJ;try simp only[clR]
 have hsp:strings_Split N s [46]=some (KA 46 s):=by unfold strings_Split;rw[Dn (by omega),Aq8];rfl
 rw[hsp,Js];unfold ND;have hlen:=dZ 46 s;generalize hp:KA 46 s=p at hlen ⊢;by_cases h1:p.length<2\/12<p.length
 .rw[Dq h1,show(decide ((p.length:Int)<2)||decide ((p.length:Int)>12))=true by simp only[E5,D6];omega];rfl
 .rw[Dt h1,show(decide ((p.length:Int)<2)||decide ((p.length:Int)>12))=false by simp only[EN,Ed];omega,cond_false];refine Ey (OY (S:=List Int) (mk:=fun i a=>(i,a)) (out:=fun a=>a) p [] (fun i a=>a.length=i) (pW Ux (fun a v=>a++[(v:Int)]) (some [])) ?_ ?_ N [] rfl (by omega)) ?_
  .intro i a hi ha;have hg:p.getD ((i:Int)).toNat []=p[i]:=getD_lt p i [] hi;rw[getD_lt p i [] hi];have key: ∀(K:Int->Option (List Int)),(Vm.chk (decide ((0:Int)<=(i:Int))) (Vm.chk (decide ((i:Int)<(p.length:Int))) (Jq (AaS N (p.getD ((i:Int)).toNat [])) K)))=K (AtX (Ux p[i])):=by intro K;rw[Dn (show(0:Int)<=(i:Int) by omega),Dn (show(i:Int)<(p.length:Int) by omega),J8,J8,hg,AtN N _ hN,Js]
   refine Aq9 (fun hv k=> ?_) (fun v hv=>⟨fun k=> ?_,by simp [ha]⟩)
   .dsimp only[U2];rw[key,hv,Dn (show(i:Int)<(p.length:Int) by omega)];rfl
   .dsimp only[U2];rw[key,hv,Dn (show(i:Int)<(p.length:Int) by omega),cond_true];rw[show AtX (some v)=(v:Int)from rfl,Du (show ¬((v:Int)<0) by omega),cond_false,Dn (show(a.length+1)*9<=140737488355328 by omega),J8,w64 (by omega) (by omega)]
  .intro a k ha;dsimp only[U2];rw[Du (by omega),cond_false]
  .rw[Aq2];cases hm:Sj Ux p with
   | none=>rfl
   | some l =>
    have hl:=Ais hm;have hf:l.foldl (fun(a:List Int) (v:Nat)=>a++[(v:Int)]) []=l.map (fun(v:Nat)=>(v:Int)):=by rw[Amq,List.nil_append]
    dsimp only[Option.elim];rw[hf];have e1:(l.map (fun(v:Nat)=>(v:Int))).length=l.length:=D7 ..;rw[e1,Dn (show(0:Int)<(l.length:Int) by omega),Dn (show 0<l.length by omega),Dn (show(1:Int)<(l.length:Int) by omega),Dn (show 1<l.length by omega)];simp only[J8];have g0:(l.map (fun(v:Nat)=>(v:Int))).getD 0 0=((l.getD 0 0:Nat):Int):=by rw[getD_lt _ 0 0 (by rw[e1];omega),getD_lt _ 0 0 (by omega)];simp
    have g1:(l.map (fun(v:Nat)=>(v:Int))).getD 1 0=((l.getD 1 0:Nat):Int):=by rw[getD_lt _ 1 0 (by rw[e1];omega),getD_lt _ 1 0 (by omega)];simp
    rw[g0,g1,Ars,Js];show(bif !(X8 l)then _ else _)=_;cases X8 l<;>rfl
def yS (cur:Bs) (out:List Nat):Option (List Nat):=if out.length=12 then none else(Ux cur).map fun v=>out++[v]
def WV:Bs->List Nat->Bs->Option (List Nat)
 | cur,out,[]=>yS cur out
 | cur,out,c::r=>if c=46 then(yS cur out).bind fun o=>WV [] o r else if MG c=true then WV (cur++[c]) out r else none
def AmK (cur:Bs) (out:List Nat) (r:Bs):WV cur out (46::r)=(yS cur out).bind fun o=>WV [] o r:=Dq rfl
def AmI (cur:Bs) (out:List Nat) (c:UInt8) (r:Bs) (h1:c≠46) (h2: ¬ MG c=true):WV cur out (c::r)=none:=by show(if c=46 then _ else if MG c=true then _ else _)=_;rw[Dt h1,Dt h2]
def AmJ (cur:Bs) (out:List Nat) (c:UInt8) (r:Bs) (h1:c≠46) (h2:MG c=true):WV cur out (c::r)=WV (cur++[c]) out r:=by show(if c=46 then _ else if MG c=true then _ else _)=_;rw[Dt h1,Dq h2]
def Zt (l:List Nat):Option (List Nat):=if 2<=l.length/\X8 l=true then some l else none
def AfY:Option (List Nat)->List Int×Bool
 | none=>([],false)
 | some l=>(ints l,true)
def Ary {ρ :Type} (N:Nat) (d:Bs) (out:List Int) (hs:d.length<=10) (hd:d.all MG=true) (hN:10<N) (fin:Int×List Int->Option ρ) :
 J6 (X:=Int×Int×List Int) (Y:=Int×List Int) (U3 fun t8b t9b l1004096b k11 x12 =>
  bif decide (t9b<(d.length:Int))then Vm.chk (decide (0<=t9b)) (Vm.chk (decide (t9b<(d.length:Int)))
   (k11 (i64.wrap (i64.wrap (10*t8b)+i64.wrap (u8.wrap (((d.getD t9b.toNat 0).toNat:Int) - 48))),i64.wrap (t9b+1),l1004096b)))
  else x12 (t8b,l1004096b)) N (0,0,out) fin=fin ((OV d:Nat),out):=by
 refine Ox (I:=fun x=> ∃ i:Nat,x=(((OV (d.take i):Nat):Int),(i:Int),out)/\i<=d.length) (μ :=fun x=>d.length - x.2.1.toNat) (fun _=>fin ((OV d:Nat),out)) ?_ N (0,0,out) ⟨0,rfl,by omega⟩ (by show d.length - 0<N;omega);rintro x ⟨i,rfl,hi⟩ k hk;dsimp only[U3];by_cases hl:i<d.length
 .have hdi:(d.take i).all MG=true:=DJ.2 fun x hx=>DJ.1 hd x (G7 hx);have hv:=ArQ (d.take i) hdi;have h10:(10:Nat) ^ (d.take i).length<=10 ^ 9:=FQ (by decide) (by simp;omega);have hg:d.getD ((i:Int)).toNat 0=d[i]:=getD_lt d i 0 hl;have htake:d.take (i+1)=d.take i++[d[i]]:=by rw[Fv,D9 hl];rfl
  have hc:=ArI hd hl;unfold MG at hc;simp only[Dv,D6]at hc;rw[Dn (by omega),cond_true,hg,Dn (show(0:Int)<=(i:Int) by omega),J8,J8];rw[AoY hc.1 hc.2,w64 (x:=(10:Int)*((OV (d.take i):Nat):Int)) (by omega) (by omega),w64 (x:=(10:Int)*((OV (d.take i):Nat):Int)+_) (by omega) (by omega),w64 (x:=(i:Int)+1) (by omega) (by omega)];refine hk _ ⟨i+1,?_,by omega⟩ (by show d.length - ((i:Int)+1).toNat<d.length - ((i:Int)).toNat;omega);rw[htake,AeJ]
  push_cast
  rfl
 .have:i=d.length:=by omega
  subst this;rw[Du (by omega),cond_false,Ez]
def AoB {d:Bs} (hd:d.all MG=true):Ux d=if d.length=0\/10<d.length\/((d.getD 0 0).toNat=48/\1<d.length)\/2147483647<OV d then none else some (OV d):=by
 unfold Ux AiV;rw[hd];by_cases h:d.length=0\/10<d.length\/((d.getD 0 0).toNat=48/\1<d.length)\/2147483647<OV d
 .rw[Dq h,Dt];simp only[Dv,EF,EN,Ed,ER,D6];omega
 .rw[Dt h,Dq];have h1:d.length≠0:=by omega
  have h2: ¬ 10<d.length:=by omega
  have h3:OV d<=2147483647:=by omega
  have h4:(decide ((d.getD 0 0).toNat=48)&&decide (1<d.length))=false:=by rw[ER,Ed,Ed];omega
  rw[Du h1,Du h2,Dn h3,h4];rfl
def AyT {d:Bs} (o:List Nat) (hd:d.all MG=true):yS d o=if(d.length=0\/10<d.length\/((d.getD 0 0).toNat=48/\1<d.length))\/o.length=12\/2147483647<OV d then none else some (o++[OV d]):=by
 unfold yS;rw[AoB hd];by_cases h1:o.length=12
 .rw[Dq h1,Dq (.inr (.inl h1))]
 .rw[Dt h1];by_cases h2:d.length=0\/10<d.length\/((d.getD 0 0).toNat=48/\1<d.length)\/2147483647<OV d
  .rw[Dq h2,Dq (by omega)];rfl
  .rw[Dt h2,Dt (by omega)];rfl
def AeH (s:Bs) {a j:Nat} (ha:a<=j) (hj:j<s.length):J9 s a (j+1)=J9 s a j++[s[j]]:=by unfold J9;rw[Fv,D9 hj,He (by simp;omega)];rfl
def ZH {α :Type} (s:List α) (a:Nat):J9 s a a=[]:=by unfold J9;exact Gx (by simp;omega)
def Av7 (o:List Nat) (v:Nat):ints o++[(v:Int)]=ints (o++[v]):=by simp [ints]
def Nj (o:List Nat):(ints o).length=o.length:=D7 ..
def Azt (o:List Nat):(Vm.chk (decide (0<((ints o).length:Int))||decide (((ints o).length:Int)<2))
 (Vm.chk (decide (0<(ints o).length)||decide (((ints o).length:Int)<2))
   (Vm.chk (decide (0<((ints o).length:Int))||(decide (((ints o).length:Int)<2)||decide ((ints o).getD 0 0>2)))
     (Vm.chk (decide (0<(ints o).length)||(decide (((ints o).length:Int)<2)||decide ((ints o).getD 0 0>2)))
       (Vm.chk (decide (1<((ints o).length:Int))|| !(!(decide (((ints o).length:Int)<2)||decide ((ints o).getD 0 0>2))&&decide ((ints o).getD 0 0<2)))
         (Vm.chk (decide (1<(ints o).length)|| !(!(decide (((ints o).length:Int)<2)||decide ((ints o).getD 0 0>2))&&decide ((ints o).getD 0 0<2)))
           (Vm.chk (!decide ((ints o).getD 0 0<2)|| !(decide (((ints o).length:Int)<2)||decide ((ints o).getD 0 0>2))&&decide ((ints o).getD 0 0<2)||(decide (((ints o).length:Int)<2)||decide ((ints o).getD 0 0>2)))
             (bif decide (((ints o).length:Int)<2)||decide ((ints o).getD 0 0>2)||decide ((ints o).getD 0 0<2)&&decide ((ints o).getD 1 0>39)then some (([]:List Int),false)else some (ints o,true)))))))))=some (AfY (Zt o)):=by
 by_cases h:o.length<2
 .have e:Zt o=none:=Dt (by omega);rw[e,Nj,Dn (show(o.length:Int)<2 by omega)];simp [J8,AfY]
 .match o,h with
  | a::b::r,_ =>
   have e0:(ints (a::b::r)).getD 0 0=(a:Int):=rfl;have e1:(ints (a::b::r)).getD 1 0=(b:Int):=rfl;have e2:(ints (a::b::r)).length=r.length+2:=by rw[Nj];rfl
   rw[e0,e1,e2,Dn (show(0:Int)<((r.length+2:Nat):Int) by omega),Dn (show 0<r.length+2 by omega),Dn (show(1:Int)<((r.length+2:Nat):Int) by omega),Dn (show 1<r.length+2 by omega),Du (show ¬(((r.length+2:Nat):Int)<2) by omega)];have hr:X8 (a::b::r)= !(decide ((a:Int)>2)||(decide ((a:Int)<2)&&decide ((b:Int)>39))):=by show((decide (a<=1)&&decide (b<=39))||decide (a=2))=_;rw[EW];simp only[E5,Dv,D6,EF,EN,ER,Ed];omega
   unfold Zt;rw[hr];cases decide ((a:Int)>2)<;>cases decide ((a:Int)<2)<;>cases decide ((b:Int)>39)<;>simp [Vm.chk,AfY]
  | [],h=>exact absurd (by decide) h
  | [a],h=>exact absurd (by simp) h
def ArY (c:UInt8) (k:Nat):(((c.toNat:Nat):Int) != (k:Int))=decide (c.toNat≠k):=by rw[EW,EO,D6];omega
def AnB (N:Nat) (s:Bs) (hN:16<N) (hs:s.length<=1048576) (hl:s.length+1<N):XY N s=some (AfY ((WV [] [] s).bind Zt)):=by
 unfold XY;try simp only[clR]
 generalize hR:WV [] [] s=R0;refine Ox (I:=fun x=> ∃(a j:Nat) (o:List Nat),x=((a:Int),(j:Int),ints o)/\a<=j/\o.length<=12/\((j<=s.length/\(J9 s a j).all MG=true/\WV (J9 s a j) o (s.drop j)=R0)\/(j=s.length+1/\some o=R0))) (μ :=fun x=>s.length+1 - x.2.1.toNat) (fun _=>some (AfY (R0.bind Zt))) ?_ N (0,0,[]) ⟨0,0,[],rfl,by omega,by simp,.inl ⟨by omega,by rw[ZH];rfl,by rw[ZH,Gl];exact hR⟩⟩ (by show s.length+1 - 0<N;omega);rintro x ⟨a,j,o,rfl,ha,ho,hx⟩ k hk;dsimp only[U3];rcases hx with ⟨hj,hd,hsc⟩ | ⟨rfl,hsc⟩
 .have hmu: ∀ j':Nat,j<j'->s.length+1 - ((j':Int)).toNat<s.length+1 - ((j:Int)).toNat:=fun j' h=>by omega
  rw[Dn (show(j:Int)<=(s.length:Int) by omega),cond_true,Dn (show(0:Int)<=(j:Int) by omega)];simp only[DV,J8]
  have proc: ∀(d:Bs),d.all MG=true->(if j<s.length then(yS d o).bind fun o=>WV [] o (s.drop (j+1))else yS d o)=R0 ->
   (Vm.chk (decide ((0:Int)<=(a:Int))) (Vm.chk (decide ((a:Int)<=(j:Int)))
     (Vm.chk (decide (0<(d.length:Int))|| !(!((d.length:Int)==0||decide ((d.length:Int)>10))&&decide ((d.length:Int)>1)))
       (Vm.chk (!decide ((d.length:Int)>1)|| !((d.length:Int)==0||decide ((d.length:Int)>10))&&decide ((d.length:Int)>1)||((d.length:Int)==0||decide ((d.length:Int)>10)))
         (bif (d.length:Int)==0||decide ((d.length:Int)>10)||decide ((d.length:Int)>1)&&((d.getD 0 0).toNat:Int)==48||((ints o).length:Int)==12 then some (([]:List Int),false)
          else J6 (X:=Int×Int×List Int) (Y:=Int×List Int) (U3 fun t8b t9b l1004096b k11 x12 =>
           bif decide (t9b<(d.length:Int))then Vm.chk (decide (0<=t9b)) (Vm.chk (decide (t9b<(d.length:Int)))
            (k11 (i64.wrap (i64.wrap (10*t8b)+i64.wrap (u8.wrap (((d.getD t9b.toNat 0).toNat:Int) - 48))),i64.wrap (t9b+1),l1004096b)))
           else x12 (t8b,l1004096b)) N (0,0,ints o) (U2 fun t8c l1008192c=>bif decide (t8c>2147483647)then some ([],false)else Vm.chk (decide ((l1008192c.length+1)*9<=140737488355328)) (k (i64.wrap ((j:Int)+1),i64.wrap ((j:Int)+1),l1008192c++[t8c]))))))))=some (AfY (R0.bind Zt)):=by
   intro d hd hsc;rw[Dn (show(0:Int)<=(a:Int) by omega),Dn (show(a:Int)<=(j:Int) by omega)];simp only[J8];have c0:(((d.length:Nat):Int)==0)=decide (d.length=0):=by rw[EW,EU,D6];omega
   have c1:decide (((d.length:Nat):Int)>10)=decide (10<d.length):=by rw[GZ];omega
   have c2:decide (((d.length:Nat):Int)>1)=decide (1<d.length):=by rw[GZ];omega
   have c3:((((d.getD 0 0).toNat:Nat):Int)==48)=decide ((d.getD 0 0).toNat=48):=by rw[EW,EU,D6];omega
   have c4:(((ints o).length:Int)==12)=decide (o.length=12):=by rw[Nj,EW,EU,D6];omega
   have c5:decide (0<((d.length:Nat):Int))= !(decide (d.length=0)):=by rw[EW,D6,EF,Ed];omega
   rw[c0,c1,c2,c3,c4,c5];have t1:((!(decide (d.length=0)))|| !(!(decide (d.length=0)||decide (10<d.length))&&decide (1<d.length)))=true:=by cases decide (d.length=0)<;>cases decide (10<d.length)<;>cases decide (1<d.length)<;>rfl
   have t2:(!decide (1<d.length)|| !(decide (d.length=0)||decide (10<d.length))&&decide (1<d.length)||(decide (d.length=0)||decide (10<d.length)))=true:=by cases decide (d.length=0)<;>cases decide (10<d.length)<;>cases decide (1<d.length)<;>rfl
   rw[t1,t2,J8,J8];have hE:=AyT o hd;by_cases hb:(d.length=0\/10<d.length\/((d.getD 0 0).toNat=48/\1<d.length))\/o.length=12
   .rw[show(decide (d.length=0)||decide (10<d.length)||decide (1<d.length)&&decide ((d.getD 0 0).toNat=48)||decide (o.length=12))=true by simp only[E5,Dv,D6];omega,cond_true];rw[Dq (by omega)]at hE;have:R0=none:=by rw[<- hsc,hE];split<;>rfl
    rw[this];rfl
   .rw[show(decide (d.length=0)||decide (10<d.length)||decide (1<d.length)&&decide ((d.getD 0 0).toNat=48)||decide (o.length=12))=false by simp only[EN,ER,Ed];omega,cond_false];refine Ey (Ary N d (ints o) (by omega) hd (by omega) _) ?_;dsimp only[U2];by_cases hv:2147483647<OV d
    .rw[Dn (show((OV d:Nat):Int)>2147483647 by omega),cond_true];rw[Dq (by omega)]at hE;have:R0=none:=by rw[<- hsc,hE];split<;>rfl
     rw[this];rfl
    .rw[Du (show ¬((OV d:Nat):Int)>2147483647 by omega),cond_false,Nj,Dn (show(o.length+1)*9<=140737488355328 by omega),J8,w64 (by omega) (by omega),Av7];rw[Dt (by omega)]at hE;rw[hE]at hsc;refine hk _ ⟨j+1,j+1,o++[OV d],rfl,by omega,by simp;omega,?_⟩ (hmu (j+1) (by omega));by_cases hjl:j<s.length
     .rw[Dq hjl]at hsc;exact .inl ⟨by omega,by rw[ZH];rfl,by rw[ZH];exact hsc⟩
     .rw[Dt hjl]at hsc;exact .inr ⟨by omega,hsc⟩
  by_cases hjl:j<s.length
  .have hg:s.getD ((j:Int)).toNat 0=s[j]:=getD_lt s j 0 hjl;rw[Dn (show(j:Int)<(s.length:Int) by omega),hg];simp only[DV,J8,ET];by_cases h46:s[j].toNat=46
   .rw[show(((s[j].toNat:Nat):Int) != 46)=false by rw[show(46:Int)=((46:Nat):Int)from rfl,ArY,Du (by simp [h46])],cond_false];have he:s[j]=46:=Jo (by rw[h46];rfl);refine proc _ hd ?_;rw[Dq hjl,<- hsc,Es hjl,he,AmK];rfl
   .rw[show(((s[j].toNat:Nat):Int) != 46)=true by rw[show(46:Int)=((46:Nat):Int)from rfl,ArY,Dn (by simp [h46])],cond_true];have hne:s[j]≠46:=fun e=>h46 (by rw[e];rfl);rw[Es hjl]at hsc;by_cases hdg:MG s[j]=true
    .rw[AmJ _ _ _ _ hne hdg]at hsc;have hc:=hdg;unfold MG at hc;simp only[Dv,D6]at hc;rw[Du (show ¬((s[j].toNat:Nat):Int)<48 by omega),Du (show ¬((s[j].toNat:Nat):Int)>57 by omega)];simp only[FP,cond_false];rw[w64 (by omega) (by omega)];refine hk _ ⟨a,j+1,o,rfl,by omega,ho,.inl ⟨by omega,?_,?_⟩⟩ (hmu (j+1) (by omega))
     .rw[AeH s ha hjl,Ij,hd];simpa using hdg
     .rw[AeH s ha hjl];exact hsc
    .rw[AmI _ _ _ _ hne hdg]at hsc;have:(decide (((s[j].toNat:Nat):Int)<48)||decide (((s[j].toNat:Nat):Int)>57))=true:=by unfold MG at hdg;simp only[Dv,D6]at hdg;simp only[E5,D6];omega
     rw[this,cond_true,<- hsc];rfl
  .rw[Du (show ¬(j:Int)<(s.length:Int) by omega)];simp only[FN,cond_false];refine proc _ hd ?_;rw[Dt hjl,<- hsc,Gx (by omega)];rfl
 .rw[Du (show ¬((s.length+1:Nat):Int)<=(s.length:Int) by omega),cond_false,<- hsc];exact Azt o
def Aup (c b:UInt8) (hb:b≠c): ∀ s:Bs,b∈s-> ∃ x∈KA c s,b∈x:=by
 intro s
 induction s with
 | nil=>intro h;cases h
 | cons a r ih =>
  intro h;by_cases ha:a=c
  .rcases D8.1 h with rfl | h
   .exact absurd ha hb
   .obtain⟨x,h1,h2⟩:=ih h;refine⟨x,?_,h2⟩;show x∈(if a=c then _ else _);rw[Dq ha];exact Dz _ h1
  .rw[jQ _ _ _ ha];rcases D8.1 h with rfl | h
   .exact⟨_,Dw,Dw⟩
   .obtain⟨x,h1,h2⟩:=ih h;have hn:=AmL c r;cases hs:KA c r with
    | nil=>exact absurd hs hn
    | cons y t =>
     rw[hs]at h1;rcases D8.1 h1 with rfl | h1
     .exact⟨_,Dw,Dz _ h2⟩
     .exact⟨x,Dz _ h1,h2⟩
def AvI {α β :Type} {f: α ->Option β}: ∀ {l:List α} {a: α},a∈l->f a=none->Sj f l=none:=by
 intro l
 induction l with
 | nil=>intro a h;cases h
 | cons x t ih =>
  intro a h ha;unfold Sj;rcases D8.1 h with rfl | h
  .rw[ha]
  .rw[ih h ha];split
   .rename_i h1 h2;cases h2
   .rfl
def kQ {α β :Type} (f: α ->Option β) (a: α) (l:List α):Sj f (a::l)=(f a).bind fun b=>(Sj f l).map fun r=>b::r:=by show(match f a,Sj f l with | some b,some bs=>some (b::bs) | _,_=>none)=_;cases f a<;>cases Sj f l<;>rfl
def oP {d:Bs} (h:d.all MG=true):(46:UInt8)∉d:=by intro hm;have:=DJ.1 h _ hm;revert this;decide
def Az2: ∀(s cur:Bs) (out:List Nat),cur.all MG=true->out.length<=12->WV cur out s=if 12<out.length+(KA 46 (cur++s)).length then none else(Sj Ux (KA 46 (cur++s))).map fun r=>out++r:=by
 intro s
 induction s with
 | nil =>
  intro cur out hc ho;rw[DW,YL _ _ (oP hc),kQ];show yS cur out=_;unfold yS;by_cases h:out.length=12
  .rw[Dq h,Dq (by simp only[List.length_singleton];omega)]
  .rw[Dt h,Dt (by simp only[List.length_singleton];omega)];cases Ux cur<;>rfl
 | cons c r ih =>
  intro cur out hc ho;by_cases h1:c=46
  .subst h1;rw[AmK,Vh _ _ _ (oP hc),kQ];unfold yS;have hl:=(dZ 46 r).2.1;by_cases h:out.length=12
   .rw[Dq h,Dq (by rw[List.length_cons];omega)];rfl
   .rw[Dt h];cases hv:Ux cur with
    | none=>simp
    | some v =>
     have:=ih [] (out++[v]) rfl (by simp;omega);rw[List.nil_append]at this;show WV [] (out++[v]) r=_;rw[this];simp only[Dx,List.length_singleton,List.length_cons,List.length_nil,Option.bind_some,Option.map_map];by_cases h3:12<out.length+(0+1)+(KA 46 r).length
     .rw[Dq h3,Dq (by omega)]
     .rw[Dt h3,Dt (by omega)];cases Sj Ux (KA 46 r)<;>simp
  .by_cases h2:MG c=true
   .rw[AmJ _ _ _ _ h1 h2,ih (cur++[c]) out (by simp [hc,h2]) ho,Ei];rfl
   .rw[AmI _ _ _ _ h1 h2];obtain⟨x,hx1,hx2⟩:=Aup 46 c h1 (cur++c::r) (by simp)
    rw[AvI hx1 (by
     unfold Ux AiV;rw[Dt];have:x.all MG=false:=by apply Fa.2;intro h;exact h2 (DJ.1 h _ hx2)
     rw[this];simp)]
    split<;>rfl
def AuH (s:Bs):(WV [] [] s).bind Zt=ND s:=by
 rw[Az2 s [] [] rfl (by decide)];unfold ND;simp only[List.length_nil,Ea,List.nil_append];by_cases h:12<(KA 46 s).length
 .rw[Dq h,Dq (Or.inr h)];rfl
 .rw[Dt h];cases hm:Sj Ux (KA 46 s)with
  | none=>split<;>rfl
  | some l =>
   have hl:=Ais hm;show Zt l=_;unfold Zt
   have h3: ∀ q:Option (List Nat),(if(KA 46 s).length<2\/12<(KA 46 s).length then none else q)=if 2<=l.length then q else none:=by
    intro q;by_cases h2:2<=l.length
    .rw[Dt (by omega),Dq h2]
    .rw[Dq (Or.inl (by omega)),Dt h2]
   rw[h3];dsimp only;by_cases h2:2<=l.length<;>by_cases hr:X8 l=true<;>simp [h2,hr]
def Abb (N:Nat) (s:Bs) (hN:16<N) (hs:s.length<=1048576) (hl:s.length+1<N):XY N s=some (AfY (ND s)):=by rw[AnB N s hN hs hl,AuH]
def hi (m:Nat):List Nat:=if m=0 then []else hi (m / 128)++[m % 128+128]
termination_by m
decreasing_by omega
def Apz:hi 0=[]:=by rw[hi];rfl
def Axn {m:Nat} (h:m≠0):hi m=hi (m / 128)++[m % 128+128]:=by rw[hi,Dt h]
def nC (n:Nat):List Nat:=hi (n / 128)++[n % 128]
def cnt (m:Nat):Nat:=(hi m).length
def Ayt:cnt 0=0:=by unfold cnt;rw[Apz];rfl
def Ayu {m:Nat} (h:m≠0):cnt m=cnt (m / 128)+1:=by unfold cnt;rw[Axn h];simp
def cnt_le: ∀(k m:Nat),m<128 ^ k->cnt m<=k:=by
 intro k
 induction k with
 | zero=>intro m h;have:m=0:=by rw[Nat.pow_zero]at h;omega
         rw[this,Ayt];omega
 | succ k ih =>
  intro m h;by_cases h0:m=0
  .rw[h0,Ayt];omega
  .rw[Ayu h0];have:=ih (m / 128) (by rw[Nat.pow_succ]at h;omega);omega
def AzN (n:Nat) (h:n<9223372036854775808):JY .and .i64 (n:Int) 127=((n % 128:Nat):Int):=by show i64.wrap (((BitVec.ofInt 64 (n:Int)) &&& (BitVec.ofInt 64 ((127:Nat):Int))).toNat:Int)=_;rw[show(BitVec.ofInt 64 (n:Int))=BitVec.ofNat 64 n by simp,show(BitVec.ofInt 64 ((127:Nat):Int))=BitVec.ofNat 64 127 by simp];rw[BitVec.toNat_and,FY,FY,F6 (by omega),F6 (by omega)];rw[show(127:Nat)=2 ^ 7 - 1 by decide,Nat.and_two_pow_sub_one_eq_mod];exact w64 (by omega) (by omega)
def A0T: ∀(k m:Nat),m<128 ^ k-> ∀ x∈hi m,x<256:=by
 intro k
 induction k with
 | zero =>intro m h x hx;rw[Nat.pow_zero]at h;rw[show m=0 by omega,Apz]at hx;cases hx
 | succ k ih =>
  intro m h x hx;by_cases h0:m=0
  .rw[h0,Apz]at hx;cases hx
  .rw[Axn h0,DR,DY]at hx;rcases hx with hx | rfl
   .exact ih _ (by rw[Nat.pow_succ]at h;omega) x hx
   .omega
def Asn (n:Nat) (h:n<34359738368): ∀ x∈nC n,x<256:=by
 intro x hx;unfold nC at hx;rw[DR,DY]at hx;rcases hx with hx | rfl
 .exact A0T 5 _ (by omega) x hx
 .omega
def AiM (n:Nat) (h:n<34359738368):(nC n).length<=5:=by unfold nC;rw[Dx];have:=cnt_le 4 (n / 128) (by omega);unfold cnt at this;simp only[List.length_singleton];omega
def AeO (l:List Nat):List Nat:=nC (40*l.getD 0 0+l.getD 1 0)++(l.drop 2).flatMap nC
def encR:Option (List Nat)->Bs×Int
 | none=>([],11)
 | some l=>((AeO l).map UInt8.ofNat,0)
def Ab6 {s:Bs} {l:List Nat} (h:ND s=some l):2<=l.length/\l.length<=12/\(∀ x∈l,x<=2147483647)/\X8 l=true:=by
 unfold ND at h;split at h
 .cases h
 .cases hm:Sj Ux (KA 46 s)with
  | none=>rw[hm]at h;cases h
  | some r =>
   rw[hm]at h;dsimp only at h;split at h
   .rename_i hr;injection h with h;subst h;have hl:=Ais hm;refine⟨by omega,by omega,fun x hx=> ?_,hr⟩;obtain⟨a,_,ha⟩:=Ax0 hm x hx;exact AyF ha
   .cases h
def AhX {l:List Nat} (h1:2<=l.length) (h2: ∀ x∈l,x<=2147483647) (h3:X8 l=true):40*l.getD 0 0+l.getD 1 0<34359738368/\l.getD 0 0<=2/\l.getD 1 0<=2147483647:=by have:=h2 (l.getD 1 0) (by rw[getD_lt l 1 0 (by omega)];exact EL _);unfold X8 at h3;simp only[E5,Dv,D6]at h3;omega
def Amu {l:List Nat} (h: ∀ x∈l,x<256):(ints l).all Vm.isByte=true/\(ints l).map Vm.byteOf=l.map UInt8.ofNat:=by
 constructor
 .rw[DJ];intro x hx;obtain⟨n,hn,rfl⟩:=DD.1 hx;have:=h n hn;unfold Vm.isByte;simp only[Dv,D6];omega
 .unfold ints;rw[Fp];rfl
def AyS {l:List Nat} (h1:2<=l.length) (h2: ∀ x∈l,x<=2147483647) (h3:X8 l=true): ∀ x∈AeO l,x<256:=by
 intro x hx;unfold AeO at hx;rw[DR]at hx;rcases hx with hx | hx
 .exact Asn _ (AhX h1 h2 h3).1 x hx
 .obtain⟨n,hn,hx⟩:=Eu.1 hx;have:=h2 n (Gj hn);exact Asn n (by omega) x hx
def wW (l:List Nat) (i:Nat):(ints l).getD i 0=((l.getD i 0:Nat):Int):=by
 unfold ints;by_cases h:i<l.length
 .rw[getD_lt _ _ _ (by rw[D7];exact h),getD_lt _ _ _ h,GY]
 .rw[Dp,Dp,Eh (by rw[D7];omega),Eh (by omega)];rfl
def Axs (l:List Nat):J9 (ints l) 2 (ints l).length=ints (l.drop 2):=by unfold J9 ints;rw[Ez,List.map_drop]
def sG (a b:List Nat):ints (a++b)=ints a++ints b:=by unfold ints;rw[FC]
def Avx (f:Nat->List Nat): ∀(l:List Nat) (a:List Int),l.foldl (fun a n=>a++ints (f n)) a=a++ints (l.flatMap f):=by
 intro l
 induction l with
 | nil=>intro a;show a=a++[];rw[DW]
 | cons x r ih =>intro a;rw[List.foldl_cons,ih,Gi,sG,Ei]
def Axk (f:Nat->List Nat) (k:Nat): ∀(l:List Nat),(∀ x∈l,(f x).length<=k)->(l.flatMap f).length<=k*l.length:=by
 intro l
 induction l with
 | nil=>intro _;exact DF _
 | cons x r ih =>intro h;rw[Gi,Dx,List.length_cons,Nat.mul_succ];have:=ih (fun y hy=>h y (Dz _ hy));have:=h x Dw;omega
def AxV {X E S ρ :Type} {g:S->E->S} {e:E} {s:S} {b:(X->Option ρ)->Option ρ} {nx:S->X} {I:S->Prop} (h:(∀ k,b k=k (nx (g s e)))/\I (g s e)):Agf b nx I (pW some g (none:Option ρ) e s):=h
def AvJ {α :Type}: ∀ l:List α,Sj some l=some l:=by
 intro l
 induction l with
 | nil=>rfl
 | cons a r ih=>rw[kQ,ih];rfl
def hiD (m:Nat):List Nat:=if m=0 then []else hiD (m / 128)++[m % 128]
termination_by m
decreasing_by omega
def Atl:hiD 0=[]:=by rw[hiD];rfl
def Ayy {m:Nat} (h:m≠0):hiD m=hiD (m / 128)++[m % 128]:=by rw[hiD,Dt h]
def ArV: ∀(k m:Nat),m<128 ^ k->(hiD m).map (· +128)=hi m/\(hiD m).length<=k/\ ∀ x∈hiD m,x<128:=by
 intro k
 induction k with
 | zero =>intro m h;rw[Nat.pow_zero]at h;rw[show m=0 by omega,Apz,Atl];exact⟨rfl,DK _,fun x h=>by cases h⟩
 | succ k ih =>
  intro m h;by_cases h0:m=0
  .rw[h0,Apz,Atl];exact⟨rfl,DF _,fun x h=>by cases h⟩
  .obtain⟨h1,h2,h3⟩:=ih (m / 128) (by rw[Nat.pow_succ]at h;omega);rw[Axn h0,Ayy h0,FC,h1,Dx];refine⟨rfl,by simp only[List.length_singleton];omega,fun x hx=> ?_⟩;rw[DR,DY]at hx;rcases hx with hx | rfl
   .exact h3 x hx
   .omega
def Zq (n:Nat):List Nat:=hiD (n / 128)++[n % 128]
def bump:List Int->List Int
 | []=>[]
 | [x]=>[x]
 | x::y::r=>u8.wrap (x+128)::bump (y::r)
def AuS (z:Int): ∀ a:List Int,bump (a++[z])=a.map (fun x=>u8.wrap (x+128))++[z]:=by
 intro a
 induction a with
 | nil=>rfl
 | cons x r ih =>
  cases r with
  | nil=>rfl
  | cons y r =>show u8.wrap (x+128)::bump ((y::r)++[z])=_;rw[ih];rfl
def AuQ (n:Nat) (h:n<34359738368):bump (ints (Zq n))=ints (nC n):=by obtain⟨h1,h2,h3⟩:=ArV 4 (n / 128) (by omega);unfold Zq nC;rw[sG,sG,<- h1];show bump (ints (hiD (n / 128))++[((n % 128:Nat):Int)])=_;rw[AuS];congr 1;unfold ints;rw[Fp,Fp];refine EK fun x hx=> ?_;have:=h3 x hx;show u8.wrap ((x:Int)+128)=((x+128:Nat):Int);rw[w8];omega
def AwW (n:Nat) (h:n<34359738368):(Zq n).length<=5:=by obtain⟨h1,h2,h3⟩:=ArV 4 (n / 128) (by omega);unfold Zq;rw[Dx];simp only[List.length_singleton];omega
def AwV {ρ :Type} (N n:Nat) (L acc:List Int) (hn:n<34359738368) (hN:16<N) (fin:List Int×List Int×List Int->Option ρ) :
 J6 (X:=Int×List Int×List Int×List Int) (Y:=List Int×List Int×List Int) (U4 fun t8b l40192b l1004096b l1004112b k3 x4 =>
         Vm.chk (decide ((1+l1004096b.length)*2<=140737488355328))
          (bif i64.wrap (t8b.tdiv 128)==0 then
            x4 (l40192b,[u8.wrap (t8b.tmod 128)]++l1004096b,l1004112b)
          else
           k3
            (i64.wrap (t8b.tdiv 128),l40192b,
              [u8.wrap (t8b.tmod 128)]++l1004096b,l1004112b))) N ((n:Int),L,[],acc) fin=fin (L,ints (Zq n),acc):=by
 refine Ey (Ox (I:=fun x:Int×List Int×List Int×List Int=> ∃(n:Nat) (c:List Int),x=((n:Int),L,c,acc)/\n<34359738368/\c.length+cnt n<=10) (μ :=fun x=>cnt x.1.toNat) (F:=fun x=>fin (L,ints (Zq x.1.toNat)++x.2.2.1,acc)) ?_ N ((n:Int),L,[],acc) ⟨n,[],rfl,hn,by have:=cnt_le 5 n (by omega);simp only[List.length_nil];omega⟩ (by show cnt ((n:Int)).toNat<N;rw[show((n:Int)).toNat=n by omega];have:=cnt_le 5 n (by omega);omega)) ?_
 .rintro x ⟨n,c,rfl,h1,h2⟩ k hk;dsimp only[U4];have ht:((n:Int)).toNat=n:=by omega
  rw[Dn (by omega),J8,show((n:Int)).tdiv 128=((n / 128:Nat):Int)from rfl,show((n:Int)).tmod 128=((n % 128:Nat):Int)from rfl,w64 (by omega) (by omega),w8,show((n % 128:Nat):Int) % 256=((n % 128:Nat):Int) by omega,ht];by_cases h0:n / 128=0
  .rw[show(((n / 128:Nat):Int)==0)=true by rw[h0];rfl,cond_true];unfold Zq;rw[h0,Atl];rfl
  .have hb:(((n / 128:Nat):Int)==0)=false:=by
    apply Fa.2;intro h;have:=FT h;omega
   have hn0:n≠0:=fun e=>h0 (by rw[e]);have e1:(((n / 128:Nat)):Int).toNat=n / 128:=by omega
   have hc:=Ayu hn0;rw[hb,cond_false,hk _ ⟨n / 128,_,rfl,by omega,by rw[Dx,List.length_singleton];omega⟩ (by show cnt (((n / 128:Nat)):Int).toNat<cnt ((n:Int)).toNat;rw[e1,ht];omega)];show fin (L,ints (Zq (((n / 128:Nat)):Int).toNat)++([((n % 128:Nat):Int)]++c),acc)=_;rw[e1,<- Ei];have:ints (Zq (n / 128))++[((n % 128:Nat):Int)]=ints (Zq n):=by rw[show Zq n=Zq (n / 128)++[n % 128] by unfold Zq;rw[Ayy h0],sG];rfl
   rw[this]
 .show fin (L,ints (Zq ((n:Int)).toNat)++[],acc)=_;rw[DW,show((n:Int)).toNat=n by omega]
def AuR {ρ :Type} (N:Nat) (L A acc:List Int) (hA:A.length<=10) (hN:16<N) (fin:List Int×List Int×List Int->Option ρ) :
 J6 (X:=Int×List Int×List Int×List Int) (Y:=List Int×List Int×List Int) (U4 fun t10d l40192d l43264d l1012288d k5 x6 =>
         bif decide (i64.wrap (t10d+1)< ↑l43264d.length)then
          Vm.chk (decide (0<=t10d))
           (Vm.chk (decide (t10d< ↑l43264d.length))
             (Vm.chk (decide (t10d.toNat<l43264d.length))
               (Vm.chk (decide (0<=t10d))
                 (Vm.chk (decide (t10d< ↑l43264d.length))
                   (Vm.chk (decide (t10d.toNat<l43264d.length))
                     (k5
                       (i64.wrap (t10d+1),l40192d,
                         l43264d.set t10d.toNat
                          (u8.wrap (l43264d.getD t10d.toNat 0+128)),
                         l1012288d)))))))
         else x6 (l40192d,l43264d,l1012288d)) N (0,L,A,acc) fin=fin (L,bump A,acc):=by
 refine Ey (Ox (I:=fun x:Int×List Int×List Int×List Int=> ∃ p s:List Int,x=((p.length:Int),L,p++s,acc)/\p.length+s.length<=10) (μ :=fun x=>x.2.2.1.length - x.1.toNat) (F:=fun x=>fin (L,x.2.2.1.take x.1.toNat++bump (x.2.2.1.drop x.1.toNat),acc)) ?_ N (0,L,A,acc) ⟨[],A,rfl,by simpa using hA⟩ (by show A.length - 0<N;omega)) ?_
 .rintro x ⟨p,s,rfl,h1⟩ k hk;dsimp only[U4];have ht:((p.length:Int)).toNat=p.length:=by omega
  rw[w64 (by omega) (by omega),ht,Dx,Ho,G6]
  match s with
  | [] =>rw[Du (by simp only[List.length_nil];omega),cond_false];rfl
  | [x] =>rw[Du (by simp only[List.length_singleton];omega),cond_false];rfl
  | x::y::r =>
   simp only[List.length_cons]at h1;have hg:(p++x::y::r).getD p.length 0=x:=by rw[Dp,EG (DK _),IY];rfl
   have hset:(p++x::y::r).set p.length (u8.wrap (x+128))=(p++[u8.wrap (x+128)])++(y::r):=by rw[List.set_append_right _ _ (DK _),IY,Ei];rfl
   simp only[List.length_cons];rw[Dn (by omega),cond_true,Dn (by omega),J8,Dn (by omega),J8,Dn (by omega)];simp only[J8];rw[hg,hset];have e1:((p.length:Int)+1)=(((p++[u8.wrap (x+128)]).length:Nat):Int):=by rw[Dx,List.length_singleton];omega
   rw[e1,hk _ ⟨p++[u8.wrap (x+128)],y::r,rfl,by rw[Dx];simp only[List.length_cons,List.length_nil];omega⟩ (by
    show((p++[u8.wrap (x+128)])++(y::r)).length - (((p++[u8.wrap (x+128)]).length:Nat):Int).toNat<(p++x::y::r).length - ((p.length:Nat):Int).toNat
    simp only[Dx,List.length_cons,List.length_nil];omega)]
   have e2:(((p++[u8.wrap (x+128)]).length:Nat):Int).toNat=(p++[u8.wrap (x+128)]).length:=by omega
   show fin (L,((p++[u8.wrap (x+128)])++(y::r)).take (((p++[u8.wrap (x+128)]).length:Nat):Int).toNat++bump (((p++[u8.wrap (x+128)])++(y::r)).drop (((p++[u8.wrap (x+128)]).length:Nat):Int).toNat),acc)=_;rw[e2,Ho,G6,Ei];rfl
 .rfl
def Af5 (N:Nat) (s:Bs) (hN:16<N) (hs:s.length<=1048576) (hl:s.length+1<N):WQ N s=some (encR (ND s)):=by
 unfold WQ;try simp -zeta only[Ap]
 rw[Abb N s hN hs hl,Js];cases ha:ND s with
 | none=>rfl
 | some l =>
  obtain⟨h1,h2,h3,h4⟩:=Ab6 ha;have hf:=AhX h1 h3 h4;rw[show AfY (some l)=(ints l,true)from rfl];dsimp only;rw[Nj,Ec,cond_false,Dn (by omega),J8,Dn (by omega),J8,wW,wW];rw[w64 (x:=40*((l.getD 0 0:Nat):Int)) (by omega) (by omega),w64 (by omega) (by omega),show(40:Int)*((l.getD 0 0:Nat):Int)+((l.getD 1 0:Nat):Int)=((40*l.getD 0 0+l.getD 1 0:Nat):Int) by omega];try dsimp only
  rw[<- Nj l,Axs,Nj];generalize hd:l.drop 2=d;have hdl:d.length<=10:=by rw[<- hd,ED];omega
  have hdm: ∀ x∈d,x<=2147483647:=fun x hx=>h3 x (Gj (hd▸hx));have he: [((40*l.getD 0 0+l.getD 1 0:Nat):Int)]++ints d=ints ((40*l.getD 0 0+l.getD 1 0)::d):=rfl;rw[he];have hout:AeO l=((40*l.getD 0 0+l.getD 1 0)::d).flatMap nC:=by unfold AeO;rw[hd];rfl
  have hb:=Amu (AyS h1 h3 h4);rw[hout]at hb;show _=some ((AeO l).map UInt8.ofNat,0);rw[hout];generalize hee:(40*l.getD 0 0+l.getD 1 0)::d=e at hb ⊢;have hel:e.length<=11:=by rw[<- hee,List.length_cons];omega
  have hem: ∀ x∈e,x<34359738368:=by
   intro x hx;rw[<- hee]at hx;rcases D8.1 hx with rfl | hx
   .exact hf.1
   .have:=hdm x hx;omega
  rw[Dn (by omega),J8,Dn (by rw[Nj];omega),J8];refine Ey (OY (S:=List Int) (mk:=fun i a=>(i,ints e,a)) (out:=fun a=>a) e 0 (fun i a=>a.length<=5*i) (pW some (fun a n=>a++ints (nC n)) none) ?_ ?_ N [] (DK _) (by omega)) ?_
  .intro i a hi ha;rw[getD_lt e i 0 hi];have hn:=hem e[i] (EL hi);have hdl:=AwW e[i] hn;have hsl:=AiM e[i] hn;refine AxV ⟨fun k=> ?_,?_⟩
   .show(bif decide ((i:Int)<((ints e).length:Int))then _ else _)=_;rw[Nj,Dn (by omega),cond_true,Dn (by omega),J8,J8,show((i:Int)).toNat=i by omega,Dn (by omega),J8,wW,getD_lt e i 0 hi,AwV N e[i] (ints e) a hn hN];dsimp only[U3];rw[AuR N (ints e) (ints (Zq e[i])) a (by rw[Nj];omega) hN];dsimp only[U3];rw[AuQ _ hn,Nj,Dn (by omega),J8,w64 (by omega) (by omega)]
   .rw[Dx,Nj];omega
  .intro a k ha;show(bif decide ((e.length:Int)<((ints e).length:Int))then _ else _)=_;rw[Nj,Du (by omega),cond_false]
  .rw[Aq2,AvJ];dsimp only[Option.elim];rw[Avx,List.nil_append];rw[hb.1,hb.2,J8]
def Yh (N:Nat) (s:Bs) (hN:16<N) (hs:s.length<=1048576) (hl:s.length+1<N):Og N s=some (ND s).isSome/\KL N s=some (ND s).isSome:=by
 unfold Og KL;rw[Arp N s hN hs,Abb N s hN hs hl,Js,Js];cases ha:ND s with
 | none=>exact⟨rfl,rfl⟩
 | some l =>obtain⟨h1,h2,h3,h4⟩:=Ab6 ha;refine⟨?_,rfl⟩;show some (!(ints l).isEmpty)=_;rw[show(ints l).isEmpty=false by rw[List.isEmpty_eq_false_iff_exists_mem];exact⟨_,DD.2 ⟨l.getD 0 0,by rw[getD_lt l 0 0 (by omega)];exact EL _,rfl⟩⟩];rfl
abbrev dd (n:Nat):Bs:=Lib.decDigits n
def aY {n:Nat} (h:n<10):dd n=[UInt8.ofNat (48+n)]:=Lib.decDigits_one h
def qA {n:Nat} (h: ¬ n<10):dd n=dd (n / 10)++[UInt8.ofNat (48+n % 10)]:=by show Lib.decDigits n=_;rw[Lib.decDigits,dif_neg h]
def Agq {k:Nat} (h:k<10):(UInt8.ofNat (48+k)).toNat=48+k:=by rw[Gs];omega
def ArN {k:Nat} (h:k<10):MG (UInt8.ofNat (48+k))=true:=by unfold MG;rw[Agq h];simp only[Dv,D6];omega
def AoU (n:Nat):(dd n).all MG=true:=by
 induction n using Nat.strongRecOn with
 | _ n ih =>
  by_cases h:n<10
  .rw[aY h,List.all_cons,ArN h];rfl
  .rw[qA h,Ij,ih (n / 10) (by omega),List.all_cons,ArN (by omega)];rfl
def AzV (n:Nat):OV (dd n)=n:=by
 induction n using Nat.strongRecOn with
 | _ n ih =>
  by_cases h:n<10
  .rw[aY h];show 10*0+((UInt8.ofNat (48+n)).toNat - 48)=n;rw[Agq h];omega
  .rw[qA h,AeJ,ih (n / 10) (by omega),Agq (by omega)];omega
def Ayv (n:Nat):dd n≠ []:=by
 by_cases h:n<10
 .rw[aY h];simp
 .rw[qA h];simp
def Aa9 (k n:Nat) (h:n<10 ^ (k+1)):1<=(dd n).length/\(dd n).length<=k+1:=by
 constructor
 .exact FD.2 (Ayv n)
 .induction k generalizing n with
  | zero=>rw[aY (by simpa using h)];exact DK _
  | succ k ih =>
   by_cases h1:n<10
   .rw[aY h1];simp
   .rw[qA h1,Dx,List.length_singleton];have:=ih (n / 10) (by rw[Nat.pow_succ]at h;omega);omega
def AyN (n:Nat) (h:0<n):((dd n).getD 0 0).toNat≠48:=by
 induction n using Nat.strongRecOn with
 | _ n ih =>
  by_cases h1:n<10
  .rw[aY h1];show(UInt8.ofNat (48+n)).toNat≠48;rw[Agq h1];omega
  .have h2:=ih (n / 10) (by omega) (by omega);have h3:=FD.2 (Ayv (n / 10));rw[qA h1,Dp,Ew h3,<- Dp];exact h2
def AyE (n:Nat) (h:n<10000000000):Ux (dd n)=if n<=2147483647 then some n else none:=by
 have hl:=Aa9 9 n (by omega);rw[AoB (AoU n),AzV]
 have h2: ¬(((dd n).getD 0 0).toNat=48/\1<(dd n).length):=by
  rintro ⟨h3,h4⟩;by_cases h0:n<10
  .rw[aY h0]at h4;simp at h4
  .exact AyN n (by omega) h3
 by_cases h5:n<=2147483647
 .rw[Dt (by omega),Dq h5]
 .rw[Dq (by omega),Dt h5]
def AyA (N n:Nat) (h:n<10000000000):strconv_Itoa N (n:Int)=some (dd n):=by unfold strconv_Itoa;rw[Dn (by omega),Dn (by omega)];show some (Lib.itoa (n:Int))=_;unfold Lib.itoa;rw[Dt (by omega)];rfl
def ZG (k:Nat) (h:k<10):([u8.wrap (i64.wrap ((48:Int)+(k:Int)))].all Vm.isByte)=true/\ [u8.wrap (i64.wrap ((48:Int)+(k:Int)))].map Vm.byteOf=[UInt8.ofNat (48+k)]:=by rw[w64 (by omega) (by omega),w8,show((48:Int)+(k:Int)) % 256=((48+k:Nat):Int) by omega];have:=Amu (l:=[48+k]) (by intro x hx;rw[DY]at hx;omega);exact this
def Aox (N:Nat): ∀(k n:Nat),n<10 ^ (k+1)->k<=17-> ∀ F,k<F->Rt N F (n:Int)=some (dd n):=by
 intro k
 induction k with
 | zero =>
  intro n h _ F hF;obtain⟨F,rfl⟩: ∃ G,F=G+1:=⟨F - 1,by omega⟩
  have h1:n<10:=by simpa using h
  show UM N (Rt N F) (n:Int)=_;unfold UM;try simp -zeta only[Ap]
  rw[Dn (by omega),cond_true,(ZG n h1).1,(ZG n h1).2,J8,aY h1]
 | succ k ih =>
  intro n h hk F hF;obtain⟨F,rfl⟩: ∃ G,F=G+1:=⟨F - 1,by omega⟩
  show UM N (Rt N F) (n:Int)=_;unfold UM;try simp -zeta only[Ap]
  by_cases h1:n<10
  .rw[Dn (by omega),cond_true,(ZG n h1).1,(ZG n h1).2,J8,aY h1]
  .have h18:(10:Nat) ^ (k+1+1)<=10 ^ 18+0->n<9223372036854775807:=fun h2=>by omega
   have h19:n<9223372036854775807:=h18 (by rw[Nat.add_zero];exact FQ (by decide) (by omega));have hl:=Aa9 k (n / 10) (by rw[Nat.pow_succ]at h;omega);rw[Du (by omega),cond_false,show((n:Int)).tdiv 10=((n / 10:Nat):Int)from rfl,show((n:Int)).tmod 10=((n % 10:Nat):Int)from rfl,w64 (x:=((n / 10:Nat):Int)) (by omega) (by omega),ih (n / 10) (by rw[Nat.pow_succ]at h;omega) (by omega) F (by omega),Js];rw[(ZG (n % 10) (by omega)).1,(ZG (n % 10) (by omega)).2,J8];dsimp only;rw[Dn (by simp only[List.length_singleton];omega),J8,qA h1]
def Oe (lim:Nat):Bs->Nat->Bool->List Nat->Option (List Nat)
 | [],_,mid,acc=>if mid=true then none else some acc
 | b::r,cur,mid,acc =>
  if mid=false/\b.toNat=128 then none
  else if lim<cur*128+b.toNat % 128 then none
  else if 128<=b.toNat then Oe lim r (cur*128+b.toNat % 128) true acc
  else Oe lim r 0 false (acc++[cur*128+b.toNat % 128])
def QZ (lim:Nat) (b:UInt8) (r:Bs) (cur:Nat) (mid:Bool) (acc:List Nat):Oe lim (b::r) cur mid acc=if mid=false/\b.toNat=128 then none
 else if lim<cur*128+b.toNat % 128 then none
 else if 128<=b.toNat then Oe lim r (cur*128+b.toNat % 128) true acc
 else Oe lim r 0 false (acc++[cur*128+b.toNat % 128]):=rfl
def or7 (t b:Nat) (ht:t<36028797018963968) (hb:b<128):JY .or .i64 (((t*128:Nat)):Int) (b:Int)=((t*128+b:Nat):Int):=by
 have e: ∀ n:Nat,n<2 ^ 64->(BitVec.ofInt 64 (n:Int))=BitVec.ofNat 64 n:=fun n _=>by simp
 show i64.wrap _=_;rw[show(BitVec.ofInt (i64).bits ((t*128:Nat):Int))=BitVec.ofNat 64 (t*128)from e _ (by omega),show(BitVec.ofInt (i64).bits ((b:Nat):Int))=BitVec.ofNat 64 b from e _ (by omega)];show i64.wrap (((BitVec.ofNat 64 (t*128)) ||| (BitVec.ofNat 64 b)).toNat:Int)=_;rw[BitVec.toNat_or,FY,FY,F6 (by omega),F6 (by omega)];rw[show t*128=t <<< 7 by rw[G8],<- Gz (by omega:b<2 ^ 7),G8];exact w64 (by omega) (by omega)
def numO:Option (List Nat)->Option (List Int)
 | none=>some []
 | some l=>some (ints l)
def Ax9 (v:Nat) (hv:v<=4294967294) (b:UInt8):JY BinOp.or i64 (i64.wrap ((v:Int)*128)) (JY BinOp.and i64 (i64.wrap (b.toNat:Int)) 127)=((v*128+b.toNat % 128:Nat):Int):=by have:=Ur b;rw[w64 (x:=(b.toNat:Int)) (by omega) (by omega),AzN _ (by omega),w64 (by omega) (by omega),show(v:Int)*128=((v*128:Nat):Int) by omega,or7 _ _ (by omega) (by omega)]
def Ax8 {ρ :Type} (N:Nat) (s:Bs) (hN:s.length+1<N) (hs:s.length<=1048576) (G:Option (List Nat)->Option ρ) (kx:Int×List Int->Option ρ) (bad:Option ρ) (hbad:G none=bad)
 (i:Nat) (acc:List Nat) (hi:i<=s.length) (ha:acc.length<=i)
 (hk: ∀(j:Nat) (a:List Nat),i<j->j<=s.length->a.length<=j->kx ((j:Int),ints a)=G (Oe 4294967294 (s.drop j) 0 false a)) :
 J6 (X:=Int×Int×List Int) (Y:=(Int×List Int) ⊕ Unit) (U3 fun t4b t5b l1004096b k3 x4 =>
         bif decide (t4b< ↑(List.length s))then
          Vm.chk (decide (0<=t4b))
           (Vm.chk (decide (t4b< ↑(List.length s)))
             (bif
               decide
                (JY BinOp.or i64 (i64.wrap (t5b*128))
                  (JY BinOp.and i64 (i64.wrap ↑(List.getD s t4b.toNat 0).toNat)
                    127) >
                  4294967294)then
               bad
             else
              bif decide (i64.wrap ↑(List.getD s t4b.toNat 0).toNat<128)then
               Vm.chk (decide ((l1004096b.length+1)*9<=140737488355328))
                (x4
                  (Sum.inl
                    (i64.wrap (t4b+1),
                      l1004096b ++
                       [JY BinOp.or i64 (i64.wrap (t5b*128))
                        (JY BinOp.and i64
                          (i64.wrap ↑(List.getD s t4b.toNat 0).toNat) 127)])))
              else
               k3
                (i64.wrap (t4b+1),
                  JY BinOp.or i64 (i64.wrap (t5b*128))
                   (JY BinOp.and i64 (i64.wrap ↑(List.getD s t4b.toNat 0).toNat)
                     127),
                  l1004096b)))
         else x4 (Sum.inr ())) N ((i:Int),0,ints acc) (Sum.elim (U2 fun t4c l42240c=>kx (t4c,l42240c)) fun x=>bad)=G (Oe 4294967294 (s.drop i) 0 true acc):=by
 refine Ey (Ox (I:=fun x:Int×Int×List Int=> ∃(j v:Nat),x=((j:Int),(v:Int),ints acc)/\i<=j/\j<=s.length/\v<=4294967294) (μ :=fun x=>s.length - x.1.toNat) (F:=fun x=>G (Oe 4294967294 (s.drop x.1.toNat) x.2.1.toNat true acc)) ?_ N _ ⟨i,0,rfl,DK _,hi,by omega⟩ (by show s.length - ((i:Int)).toNat<N;omega)) ?_
 .rintro x ⟨j,v,rfl,h1,h2,h3⟩ k hk2;dsimp only[U3];rw[show((j:Int)).toNat=j by omega,show((v:Int)).toNat=v by omega];by_cases hl:j<s.length
  .have hg:s.getD j 0=s[j]:=getD_lt s j 0 hl;have hb:=Ur s[j];rw[hg,Ax9 v h3,Es hl,QZ,Dt (fun h=>by cases h.1),Dn (by omega),cond_true,Dn (by omega),J8,J8];by_cases hv:4294967294<v*128+s[j].toNat % 128
   .rw[Dq hv,Dn (by omega),cond_true,hbad]
   .rw[Dt hv,Du (by omega),cond_false,w64 (x:=(s[j].toNat:Int)) (by omega) (by omega),w64 (by omega) (by omega)];by_cases hc:128<=s[j].toNat
    .rw[Dq hc,Du (by omega),cond_false,show((j:Int)+1)=((j+1:Nat):Int)from rfl,hk2 _ ⟨j+1,_,rfl,by omega,by omega,by omega⟩ (by show s.length - ((j+1:Nat):Int).toNat<s.length - ((j:Int)).toNat;omega)];show G (Oe _ (s.drop ((j+1:Nat):Int).toNat) ((v*128+s[j].toNat % 128:Nat):Int).toNat true acc)=_;rw[show((j+1:Nat):Int).toNat=j+1 by omega,show((v*128+s[j].toNat % 128:Nat):Int).toNat=v*128+s[j].toNat % 128 by omega]
    .rw[Dt hc,Dn (by omega),cond_true,Nj,Dn (by omega),J8];show kx ((j:Int)+1,ints acc++ints [v*128+s[j].toNat % 128])=_;rw[<- sG];exact hk (j+1) _ (by omega) (by omega) (by rw[Dx,List.length_singleton];omega)
  .rw[Du (by omega),cond_false,show j=s.length by omega,EY];show bad=G none;exact hbad.symm
 .show G (Oe _ (s.drop ((i:Int)).toNat) (0:Int).toNat true acc)=_;rw[show((i:Int)).toNat=i by omega];rfl
def AlB (N:Nat) (s:Bs) (hs:s.length<=1048576) (hN:s.length+1<N):jF N s=numO (Oe 4294967294 s 0 false []):=by
 unfold jF;try simp -zeta only[Ap]
 refine Ey (Ox (I:=fun x:Int×List Int=> ∃(j:Nat) (a:List Nat),x=((j:Int),ints a)/\j<=s.length/\a.length<=j) (μ :=fun x=>s.length - x.1.toNat) (F:=fun x=>numO (Oe 4294967294 (s.drop x.1.toNat) 0 false (x.2.map Int.toNat))) ?_ N _ ⟨0,[],rfl,DF _,DF _⟩ (by show s.length - 0<N;omega)) rfl;rintro x ⟨j,a,rfl,h1,h2⟩ k hk;dsimp only[U2];have hmap: ∀ a:List Nat,(ints a).map Int.toNat=a:=by intro a;unfold ints;rw[Fp];exact(EK fun x _=>by rfl).trans (FW _)
 rw[show((j:Int)).toNat=j by omega,hmap];by_cases hl:j<s.length
 .have hg:s.getD j 0=s[j]:=getD_lt s j 0 hl;have hb:=Ur s[j];rw[hg,Dn (by omega),cond_true,Dn (by omega),J8,J8];by_cases h8:s[j].toNat=128
  .rw[Es hl,QZ,Dq ⟨rfl,h8⟩,h8];rfl
  .have hbe:(((s[j].toNat:Nat):Int)==128)=false:=by
    apply Fa.2;intro h;have:=FT h;omega
   rw[hbe,cond_false];have he:Oe 4294967294 (s.drop j) 0 false a=Oe 4294967294 (s.drop j) 0 true a:=by rw[Es hl,QZ,QZ];simp only[h8,and_false,Gf]
   rw[he];refine Ax8 N s hN hs numO k (some []) rfl j a h1 h2 ?_;intro i a' hi1 hi2 ha';rw[hk _ ⟨i,a',rfl,hi2,ha'⟩ (by show s.length - ((i:Int)).toNat<s.length - ((j:Int)).toNat;omega)];show numO (Oe _ (s.drop ((i:Int)).toNat) 0 false ((ints a').map Int.toNat))=_;rw[hmap,show((i:Int)).toNat=i by omega]
 .rw[Du (by omega),cond_false,show j=s.length by omega,EY];rfl
def Afv (lim:Nat): ∀(s:Bs) (cur:Nat) (mid:Bool) (acc l:List Nat),Oe lim s cur mid acc=some l-> ∃ t,l=acc++t:=by
 intro s
 induction s with
 | nil =>
  intro cur mid acc l h;cases mid with
  | true=>cases h
  | false=>injection h with h;exact⟨[],by rw[DW];exact h.symm⟩
 | cons b r ih =>
  intro cur mid acc l h;rw[QZ]at h;split at h
  .cases h
  .split at h
   .cases h
   .split at h
    .exact ih _ _ _ _ h
    .obtain⟨t,rfl⟩:=ih _ _ _ _ h;exact⟨_,Ei _ _ _⟩
def AvN (lim m:Nat): ∀(s:Bs) (v:Nat) (acc l:List Nat),m<v->Oe lim s v true acc=some l-> ∃ x∈l,m<x:=by
 intro s
 induction s with
 | nil=>intro v acc l _ h;cases h
 | cons b r ih =>
  intro v acc l hv h;rw[QZ]at h;split at h
  .cases h
  .split at h
   .cases h
   .split at h
    .exact ih _ _ _ (by omega) h
    .obtain⟨t,rfl⟩:=Afv _ _ _ _ _ _ h;exact⟨_,DI _ (DC _ Dw),by omega⟩
def upTo (m:Nat) (l:List Nat):Option (List Nat):=if ∀ x∈l,x<=m then some l else none
def Am5 (lim m:Nat) (hm:m<=lim): ∀(s:Bs) (cur:Nat) (mid:Bool) (acc:List Nat),(∀ x∈acc,x<=m)->Oe m s cur mid acc=(Oe lim s cur mid acc).bind (upTo m):=by
 intro s
 induction s with
 | nil =>
  intro cur mid acc ha;cases mid with
  | true=>rfl
  | false=>show some acc=upTo m acc;unfold upTo;rw[Dq ha]
 | cons b r ih =>
  intro cur mid acc ha;rw[QZ,QZ];by_cases h1:mid=false/\b.toNat=128
  .rw[Dq h1,Dq h1];rfl
  .rw[Dt h1,Dt h1];by_cases h2:lim<cur*128+b.toNat % 128
   .rw[Dq h2,Dq (by omega)];rfl
   .rw[Dt h2];by_cases h3:m<cur*128+b.toNat % 128
    .rw[Dq h3]
     have key: ∀ q:Option (List Nat),(∀ l,q=some l-> ∃ x∈l,m<x)->none=q.bind (upTo m):=by
      intro q hq;cases q with
      | none=>rfl
      | some l =>obtain⟨x,h4,h5⟩:=hq l rfl;show none=upTo m l;unfold upTo;rw[Dt (fun h=>by have:=h x h4;omega)]
     refine key _ fun l hl=> ?_;split at hl
     .exact AvN _ _ _ _ _ _ h3 hl
     .obtain⟨t,rfl⟩:=Afv _ _ _ _ _ _ hl;exact⟨_,DI _ (DC _ Dw),h3⟩
    .rw[Dt h3];split
     .exact ih _ _ _ ha
     .refine ih _ _ _ fun x hx=> ?_;rcases DR.1 hx with hx | hx
      .exact ha x hx
      .rw[DY]at hx;omega
def two (l:List Nat):List Nat:=match l with
 | []=>[]
 | n::t=>(if 2<n / 40 then 2 else n / 40)::(n - 40*(if 2<n / 40 then 2 else n / 40))::t
def SS (a:List Nat):Bs:=([46]:Bs).intercalate (a.map dd)
def bK (x y:Bs) (r:List Bs):([46]:Bs).intercalate (x::y::r)=x++46::([46]:Bs).intercalate (y::r):=by simp [List.intercalate]
def Auq: ∀(a:List Nat),a≠ []->KA 46 (SS a)=a.map dd:=by
 intro a
 induction a with
 | nil=>intro h;exact absurd rfl h
 | cons n r ih =>
  intro _;cases r with
  | nil =>show KA 46 (([46]:Bs).intercalate [dd n])=_;rw[show([46]:Bs).intercalate [dd n]=dd n by simp [List.intercalate],YL _ _ (oP (AoU n))];rfl
  | cons m r =>show KA 46 (([46]:Bs).intercalate (dd n::dd m::r.map dd))=_;rw[bK,Vh _ _ _ (oP (AoU n))];have:=ih (by simp);unfold SS at this;rw[Ej]at this;rw[this];rfl
def Azf: ∀(a:List Nat),(∀ x∈a,x<10000000000)->Sj Ux (a.map dd)=upTo 2147483647 a:=by
 intro a
 induction a with
 | nil=>intro _;rfl
 | cons n r ih =>
  intro h;rw[Ej,kQ,AyE n (h n Dw),ih (fun x hx=>h x (Dz _ hx))];unfold upTo;by_cases h1:n<=2147483647
  .rw[Dq h1];by_cases h2: ∀ x∈r,x<=2147483647
   .rw[Dq h2,Dq (fun x hx=>(D8.1 hx).elim (fun e=>e▸h1) (h2 x))];rfl
   .rw[Dt h2,Dt (fun h=>h2 fun x hx=>h x (Dz _ hx))];rfl
  .rw[Dt h1,Dt (show ¬ ∀ x∈n::r,x<=2147483647 from fun h=>h1 (h n Dw))];rfl
def AgE {l:List Nat} (h:l≠ []):(two l).length=l.length+1:=by
 cases l with
 | nil=>exact absurd rfl h
 | cons n t=>rfl
def Ayd {l:List Nat} (h:l≠ []):X8 (two l)=true:=by
 cases l with
 | nil=>exact absurd rfl h
 | cons n t =>show(decide ((if 2<n / 40 then 2 else n / 40)<=1)&&decide (n - 40*(if 2<n / 40 then 2 else n / 40)<=39)||decide ((if 2<n / 40 then 2 else n / 40)=2))=true;simp only[E5,Dv,D6];split<;>omega
def AkE {l:List Nat} {m:Nat} (hm:2<=m) (h: ∀ x∈l,x<m): ∀ x∈two l,x<m+1:=by
 cases l with
 | nil=>intro x hx;cases hx
 | cons n t =>
  intro x hx;have hn:=h n Dw;rcases D8.1 hx with rfl | hx
  .split<;>omega
  .rcases D8.1 hx with rfl | hx
   .omega
   .have:=h x (Dz _ hx);omega
def A0K {l:List Nat} (h: ∀ x∈two l,x<=2147483647): ∀ x∈l,x<=2147483727:=by
 cases l with
 | nil=>intro x hx;cases hx
 | cons n t =>
  intro x hx;rcases D8.1 hx with rfl | hx
  .have h1:=h (x - 40*(if 2<x / 40 then 2 else x / 40)) (Dz _ Dw);split at h1<;>omega
  .have:=h x (Dz _ (Dz _ hx));omega
def AuI {l:List Nat} (h:l≠ []) (h1:l.length<=11) (h2: ∀ x∈l,x<9999999999):ND (SS (two l))=upTo 2147483647 (two l):=by
 have hl:=AgE h;unfold ND;rw[Auq _ (by intro e;rw[e]at hl;simp at hl),D7,Dt (by have:=FD.2 h;omega),Azf _ (AkE (by omega) h2)];unfold upTo;by_cases h3: ∀ x∈two l,x<=2147483647
 .rw[Dq h3];dsimp only;rw[Dq (Ayd h)]
 .rw[Dt h3]
def TZ (s:Bs):Option (List Nat):=(Oe 4294967294 s 0 false []).bind fun l=>if l.length=0\/11<l.length then none else upTo 2147483647 (two l)
def OU:Option (List Nat)->Bs×Int
 | none=>([],11)
 | some a=>(SS a,0)
def Ax7 {lim:Nat} {s:Bs} {l:List Nat} (h:Oe lim s 0 false []=some l): ∀ x∈l,x<=lim:=by
 have h1:=Am5 lim lim (DK _) s 0 false [] (fun x hx=>by cases hx);rw[h]at h1;have h2:some l=upTo lim l:=h1;unfold upTo at h2;split at h2
 .assumption
 .cases h2
def AcW: ∀(a:List Nat),(∀ x∈a,x<10000000000)->(SS a).length<=11*a.length:=by
 intro a
 induction a with
 | nil=>intro _;exact DK _
 | cons n r ih =>
  intro h;have h1:=Aa9 9 n (by have:=h n Dw;omega);cases r with
  | nil =>show(([46]:Bs).intercalate [dd n]).length<=_;rw[show([46]:Bs).intercalate [dd n]=dd n by simp [List.intercalate]];simp only[List.length_singleton];omega
  | cons m r =>have h2:=ih (fun x hx=>h x (Dz _ hx));show(([46]:Bs).intercalate (dd n::dd m::r.map dd)).length<=_;rw[bK,Dx,List.length_cons];unfold SS at h2;rw[Ej]at h2;simp only[List.length_cons]at h2 ⊢;omega
def Av6 (l:List Nat) (k:Nat):J9 (ints l) k (ints l).length=ints (l.drop k):=by unfold J9 ints;rw[Ez,List.map_drop]
def Ap9 (n:Nat):Option Bs:=if n<=2147483647 then some (dd n)else none
def Axz: ∀ a:List Nat,Sj Ap9 a=(upTo 2147483647 a).map (List.map dd):=by
 intro a
 induction a with
 | nil=>rfl
 | cons n r ih =>
  rw[kQ,ih];unfold Ap9 upTo;by_cases h1:n<=2147483647
  .rw[Dq h1];by_cases h2: ∀ x∈r,x<=2147483647
   .rw[Dq h2,Dq (fun x hx=>(D8.1 hx).elim (fun e=>e▸h1) (h2 x))];rfl
   .rw[Dt h2,Dt (fun h=>h2 fun x hx=>h x (Dz _ hx))];rfl
  .rw[Dt h1,Dt (show ¬ ∀ x∈n::r,x<=2147483647 from fun h=>h1 (h n Dw))];rfl
def Asp (n:Nat) (hn:n<=4294967294):(bif decide ((2:Int)<i64.wrap (((n:Nat):Int).tdiv 40))then(2:Int)else i64.wrap (((n:Nat):Int).tdiv 40))=(((if 2<n / 40 then 2 else n / 40:Nat)):Int):=by
 rw[show((n:Int)).tdiv 40=((n / 40:Nat):Int)from rfl,w64 (by omega) (by omega)];by_cases h:2<n / 40
 .rw[Dn (by omega),Dq h];rfl
 .rw[Du (by omega),Dt h];rfl
def AqF (n:Nat) (hn:n<=4294967294):i64.wrap (((n:Nat):Int) - i64.wrap (40*(((if 2<n / 40 then 2 else n / 40:Nat)):Int)))=((n - 40*(if 2<n / 40 then 2 else n / 40):Nat):Int):=by
 have h:40*(if 2<n / 40 then 2 else n / 40)<=n:=by split<;>omega
 have h2:(if 2<n / 40 then 2 else n / 40)<=2:=by split<;>omega
 generalize (if 2<n / 40 then 2 else n / 40)=q at *
 rw[w64 (x:=40*(q:Int)) (by omega) (by omega),w64 (by omega) (by omega)];omega
def YY (N:Nat) (s:Bs) (hs:s.length<=1048576) (hN:s.length+1<N) (hN2:16<N):bY N s=some (OU (TZ s)):=by
 unfold bY;try simp only[clR]
 rw[AlB N s hs hN];unfold TZ;cases hsc:Oe 4294967294 s 0 false []with
 | none=>rfl
 | some l =>
  have hle:=Ax7 hsc;rw[show numO (some l)=some (ints l)from rfl,Js,Nj];show _=some (OU (if l.length=0\/11<l.length then none else upTo 2147483647 (two l)));by_cases h0:l.length=0\/11<l.length
  .rw[Dq h0,show(((l.length:Nat):Int)==0||decide ((l.length:Int)>11))=true by
    rcases h0 with h0 | h0
    .rw[h0];rfl
    .rw[Dn (by omega),EE]]
   rfl
  .have hb:(((l.length:Nat):Int)==0||decide ((l.length:Int)>11))=false:=by
    rw[Du (by omega),Fh];apply Fa.2;intro h;have:=FT h;omega
   rw[Dt h0,hb,cond_false]
   obtain⟨n,t,rfl⟩: ∃ n t,l=n::t:=by
    cases l with
    | nil=>exact absurd (Or.inl rfl) h0
    | cons n t=>exact⟨n,t,rfl⟩
   have hn:=hle n Dw;simp only[List.length_cons]at h0;have hc:J9 (ints (n::t)) 1 (n::t).length=ints t:=by rw[<- Nj (n::t),Av6];rfl
   rw[hc,show(ints (n::t)).getD 0 0=(n:Int)from rfl,Asp n hn,AqF n hn];have he: [(((if 2<n / 40 then 2 else n / 40:Nat)):Int),((n - 40*(if 2<n / 40 then 2 else n / 40):Nat):Int)]++ints t=ints (two (n::t)):=rfl;rw[he];have h2l:=AgE (l:=n::t) (by simp);have h2m:=AkE (m:=4294967295) (by omega) (fun x hx=>by have:=hle x hx;omega) (l:=n::t);simp only[List.length_cons]at h2l;rw[Dn (by simp only[List.length_cons];omega),J8,J8,Dn (by simp only[List.length_cons];omega),J8,Dn (by rw[Nj];omega),J8];generalize two (n::t)=e at *
   refine Ey (OY (S:=List Bs) (mk:=fun i a=>(i,ints e,a)) (out:=fun a=>a) e 0 (fun i a=>a.length=i) (pW Ap9 (fun a v=>a++[v]) (some ([],11))) ?_ ?_ N [] rfl (by omega)) ?_
   .intro i a hi ha;rw[getD_lt e i 0 hi];have hx:=h2m e[i] (EL hi);have key: ∀(A:Option (Bs×Int)) (K:Int->Option (Bs×Int)),(bif decide ((i:Int)<((ints e).length:Int))then Vm.chk (decide (0<=(i:Int))) (Vm.chk (decide ((i:Int)<((ints e).length:Int))) (Vm.chk (decide ((i:Int).toNat<(ints e).length)) (K ((ints e).getD (i:Int).toNat 0))))else A)=K ((e[i]:Nat):Int):=by intro A K;rw[Nj,Dn (by omega),cond_true,Dn (by omega),J8,J8,show((i:Int)).toNat=i by omega,Dn (by omega),J8,wW,getD_lt e i 0 hi]
    refine Aq9 (fun hv k=> ?_) (fun v hv=>⟨fun k=> ?_,by simp [ha]⟩)
    .unfold Ap9 at hv;split at hv
     .cases hv
     .dsimp only[U3];refine(key _ (fun y=>bif decide (y>2147483647)then some ([],11)else _)).trans ?_;rw[Dn (by omega),cond_true]
    .unfold Ap9 at hv;split at hv
     .injection hv with hv;subst hv;dsimp only[U3];refine(key _ (fun y=>bif decide (y>2147483647)then some ([],11)else Jq (strconv_Itoa N y) _)).trans ?_;rw[Du (by omega),cond_false,AyA N _ (by omega),Js,Dn (by omega),J8,w64 (by omega) (by omega)]
     .cases hv
   .intro a k ha;show(bif decide ((e.length:Int)<((ints e).length:Int))then _ else _)=_;rw[Nj,Du (by omega),cond_false]
   .rw[Aq2,Axz];have hf: ∀ l:List Bs,l.foldl (fun(a:List Bs) (v:Bs)=>a++[v]) []=l:=by intro l;rw[Amq (fun x=>x),List.nil_append,List.map_id']
    unfold upTo;by_cases hu: ∀ x∈e,x<=2147483647
    .rw[Dq hu];dsimp only[Option.map,Option.elim];rw[hf];have htl:=AcW e (fun x hx=>by have:=hu x hx;omega);unfold SS at htl;unfold strings_Join;rw[D7,Dn (by omega),Dn (by omega)];rfl
    .rw[Dt hu];rfl
end Go.Proofs.YtakmjgnpefmjhaaGreatDoor.Pl
