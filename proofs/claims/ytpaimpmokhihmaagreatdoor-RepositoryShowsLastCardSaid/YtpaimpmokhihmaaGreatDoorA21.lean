import Derived.Test.YtpaimpmokhihmaaGreatDoorA17
import Derived.ChangeArms
import Derived.SliceStrings
import Derived.Test.YtpaimpmokhihmaaGreatDoorRows
import Derived.Test.YtpaimpmokhihmaaGreatDoorChecked
import Derived.Lib.LaidU8
import Derived.Shelf.Vars
import Derived.HandedShaped
import Derived.LaidLaws
set_option linter.all false
namespace Go.Proofs.YtpaimpmokhihmaaGreatDoor.Vm
open IntKind (i64 u8 u32 u64)
open Go
def w64 {x:Int} (h1: -9223372036854775808<=x:=by omega) (h2:x<=9223372036854775807:=by omega):i64.wrap x=x:=by
 have e:i64.wrap x=if 9223372036854775808<=x % 18446744073709551616 then x % 18446744073709551616 - 18446744073709551616 else x % 18446744073709551616:=by show(if(true&&decide (x % 18446744073709551616>=9223372036854775808))=true then _ else _)=_;simp only[Bool.true_and,Ee,ge_iff_le];rfl
 rw[e];split<;>omega
def Ae3 {ρ :Type} (p:Prop) [Decidable p] (k:Option ρ):chk (decide p) k=if p then k else none:=by by_cases h:p<;>simp [chk,h]
def AgE {ρ :Type} (k:Option ρ):chk true k=k:=rfl
def Aey {α :Type} (p:Prop) [Decidable p] (a b: α):(bif decide p then a else b)=if p then a else b:=by by_cases h:p<;>simp [h]
def XB {α ρ :Type} [Inhabited α] (a: α) (k: α ->Option ρ):Jn (some a) k=k a:=rfl
def lD {X Y ρ :Type} {B:X->(X->Option ρ)->(Y->Option ρ)->Option ρ} {kx:Y->Option ρ} (I:X->Prop) (μ :X->Nat) (F:X->Option ρ)
 (h: ∀ x,I x-> ∀ k:X->Option ρ,(∀ x',I x'-> μ x'< μ x->k x'=F x')->B x k kx=F x): ∀(N:Nat) (x:X),I x-> μ x<N->Jy B N x kx=F x:=by
 intro N
 induction N with
 | zero=>intro x _ h;omega
 | succ N ih=>intro x hI hm;exact h x hI _ (fun x' hI' hm'=>ih x' hI' (by omega))
def Aa_r {ρ:Type} (b:Bool) (k:Option ρ):Aa b k=chk (b||!b) k:=rfl
def Aa_e {ρ:Type} (b:Bool) (k:Option ρ):Aa b k=k:=by cases b<;>rfl
def Ac_r {ρ:Type} (b:Bool) (k:Option ρ):Ac b k=chk (b||!b) (chk (b||!b) k):=rfl
def Ac_e {ρ:Type} (b:Bool) (k:Option ρ):Ac b k=k:=by cases b<;>rfl
def Ad_r {ρ:Type} (b:Bool) (k:Option ρ):Ad b k=chk (b||!b) (chk (b||!b) (chk (b||!b) k)):=rfl
def Ad_e {ρ:Type} (b:Bool) (k:Option ρ):Ad b k=k:=by cases b<;>rfl
def Ae_r {ρ:Type} (b:Bool) (k:Option ρ):Ae b k=chk (b||!b) (chk (b||!b) (chk (b||!b) (chk (b||!b) k))):=rfl
def Ae_e {ρ:Type} (b:Bool) (k:Option ρ):Ae b k=k:=by cases b<;>rfl
def Af_r {ρ:Type} (b:Bool) (k:Option ρ):Af b k=chk (b||!b) (chk (b||!b) (chk (b||!b) (chk (b||!b) (chk (b||!b) k)))):=rfl
def Af_e {ρ:Type} (b:Bool) (k:Option ρ):Af b k=k:=by cases b<;>rfl
def Ag_r {ρ:Type} (b:Bool) (k:Option ρ):Ag b k=chk (b||!b) (chk (b||!b) (chk (b||!b) (chk (b||!b) (chk (b||!b) (chk (b||!b) k))))):=rfl
def Ag_e {ρ:Type} (b:Bool) (k:Option ρ):Ag b k=k:=by cases b<;>rfl
def Ah_r {ρ:Type} (b:Bool) (k:Option ρ):Ah b k=chk (bif b then b else true) (chk (bif b then true else true) k):=rfl
def Ah_e {ρ:Type} (b:Bool) (k:Option ρ):Ah b k=k:=by cases b<;>rfl
def Ai_r {ρ:Type} (b:Bool) (k:Option ρ):Ai b k=chk (bif b then true else !b) (chk (bif b then true else true) k):=rfl
def Ai_e {ρ:Type} (b:Bool) (k:Option ρ):Ai b k=k:=by cases b<;>rfl
def Aj_r {ρ:Type} (i:Int) (n:Nat) (k:Option ρ):Aj i n k=chk (decide (0<=i)) (chk (decide (i<(n:Int))) k):=rfl
def Aj_e {ρ:Type} (i:Int) (n:Nat) (k:Option ρ):Aj i n k=chk (decide (0<=i)) (chk (decide (i<(n:Int))) k):=rfl
def Ak_r {ρ:Type} (p:Prop) [Decidable p] (k:Option ρ):Ak p k=chk (decide p) k:=rfl
def Ak_e {ρ:Type} (p:Prop) [Decidable p] (k:Option ρ):Ak p k=chk (decide p) k:=rfl
def Am_r {ρ:Type} (n:Nat) (k:Option ρ):Am n k=chk (decide (n<=140737488355328)) k:=rfl
def Am_e {ρ:Type} (n:Nat) (k:Option ρ):Am n k=chk (decide (n<=140737488355328)) k:=rfl
def CW_e {a b c d e:Type} (x:a×b×c×d×e):CW x=x.2.2.2.2:=rfl
def CX_e {a b c d e f g h i:Type} (x:a×b×c×d×e×f×g×h×i):CX x=x.2.2.2.2.2.2.2.2:=rfl
def CY_e {a b c d e f g h i j k l m:Type} (x:a×b×c×d×e×f×g×h×i×j×k×l×m):CY x=x.2.2.2.2.2.2.2.2.2.2.2.2:=rfl
def CZ_e {a b c d e f g h i j k l m n o p q:Type} (x:a×b×c×d×e×f×g×h×i×j×k×l×m×n×o×p×q):CZ x=x.2.2.2.2.2.2.2.2.2.2.2.2.2.2.2.2:=rfl
def Dc_e {a b c d e f g h i j k l m n o p q r s t u:Type} (x:a×b×c×d×e×f×g×h×i×j×k×l×m×n×o×p×q×r×s×t×u):Dc x=x.2.2.2.2.2.2.2.2.2.2.2.2.2.2.2.2.2.2.2.2:=rfl
def Df_e {a b c d e f g h i j k l m n o p q r s t u v w x y:Type} (x:a×b×c×d×e×f×g×h×i×j×k×l×m×n×o×p×q×r×s×t×u×v×w×x×y):Df x=x.2.2.2.2.2.2.2.2.2.2.2.2.2.2.2.2.2.2.2.2.2.2.2.2:=rfl
def Dh_e {a b c d e f g h i j k l m n o p q r s t u v w x y z A B C:Type} (x:a×b×c×d×e×f×g×h×i×j×k×l×m×n×o×p×q×r×s×t×u×v×w×x×y×z×A×B×C):Dh x=x.2.2.2.2.2.2.2.2.2.2.2.2.2.2.2.2.2.2.2.2.2.2.2.2.2.2.2.2:=rfl
def Ap:=And.intro @Dh_e (And.intro @Df_e (And.intro @Dc_e (And.intro @CZ_e (And.intro @CY_e (And.intro @CX_e (And.intro @CW_e (And.intro @Am_r (And.intro @Ak_r (And.intro @Aj_r (And.intro @Ai_r (And.intro @Ah_r (And.intro @Ag_r (And.intro @Af_r (And.intro @Ae_r (And.intro @Ad_r (And.intro @Ac_r (@Aa_r)))))))))))))))))
end Go.Proofs.YtpaimpmokhihmaaGreatDoor.Vm
namespace Go.Proofs.YtpaimpmokhihmaaGreatDoor.Pl
open IntKind (i64 u8 u32 u64)
open Go Vm
def N0:Nat:=2097152
abbrev PsT:=Int×Bs×Bs×Bs×Bs
abbrev KyT:=Bs×Bs×Bs×Bs
def sN (i:Nat):Bs:=(JU N0 (i:Int)).getD []
def okN (i:Nat):Bool:=(JU N0 (i:Int)).isSome&& !(sN i).isEmpty&&(match N9 N0 (sN i)with | some r=>r.2==0&&r.1.2.2.2.2.2.1==(i:Int) | none=>false)
set_option maxRecDepth 100000
def AhV:(List.range 8).all (fun i=>okN (i+1))=true:=by kernel_rfl
def AhW:(List.range 8).all (fun i=>okN (i+9))=true:=by kernel_rfl
def AhX:(List.range 8).all (fun i=>okN (i+17))=true:=by kernel_rfl
def AhY:(List.range 8).all (fun i=>okN (i+25))=true:=by kernel_rfl
def AhZ:(List.range 8).all (fun i=>okN (i+33))=true:=by kernel_rfl
def Aia:(List.range 8).all (fun i=>okN (i+41))=true:=by kernel_rfl
def Aib:(List.range 8).all (fun i=>okN (i+49))=true:=by kernel_rfl
def Aic:(List.range 8).all (fun i=>okN (i+57))=true:=by kernel_rfl
def Aid:(List.range 3).all (fun i=>okN (i+65))=true:=by kernel_rfl
def Ah5 {i:Nat} (h1:1<=i) (h2:i<=67):okN i=true:=by
 have go: ∀ a n,a<=i->i<a+n->(List.range n).all (fun i=>okN (i+a))=true->okN i=true:=fun a n g1 g2 g3=>by have:=DI.1 g3 (i - a) (EX.2 (by omega));rwa [show i - a+a=i by omega]at this
 by_cases g0:i<9
 .exact go 1 8 (by omega) (by omega) AhV
 by_cases g1:i<17
 .exact go 9 8 (by omega) (by omega) AhW
 by_cases g2:i<25
 .exact go 17 8 (by omega) (by omega) AhX
 by_cases g3:i<33
 .exact go 25 8 (by omega) (by omega) AhY
 by_cases g4:i<41
 .exact go 33 8 (by omega) (by omega) AhZ
 by_cases g5:i<49
 .exact go 41 8 (by omega) (by omega) Aia
 by_cases g6:i<57
 .exact go 49 8 (by omega) (by omega) Aib
 by_cases g7:i<65
 .exact go 57 8 (by omega) (by omega) Aic
 by_cases g8:i<68
 .exact go 65 3 (by omega) (by omega) Aid
 omega
structure Num (i:Nat):Prop where
 made:JU N0 (i:Int)=some (sN i)
 ne:(sN i).isEmpty=false
 dec: ∃ r,N9 N0 (sN i)=some (r,0)/\r.2.2.2.2.2.1=(i:Int)
def Afm {i:Nat} (h1:1<=i:=by omega) (h2:i<=67:=by omega):Num i:=by
 have h:=Ah5 h1 h2;unfold okN at h;rw[Dn,Dn]at h;obtain⟨⟨a,b⟩,c⟩:=h;refine⟨?_,by simpa using b,?_⟩
 .unfold sN;cases hq:JU N0 (i:Int)with
  | none=>rw[hq]at a;cases a
  | some x=>rfl
 .cases hd:N9 N0 (sN i)with
  | none=>rw[hd]at c;cases c
  | some r =>rw[hd]at c;have c:(r.2==0&&r.1.2.2.2.2.2.1==(i:Int))=true:=c;rw[Dn,F8,F8]at c;exact⟨r.1,by rw[<- c.1],c.2⟩
def AhS:N0=2097144+8:=rfl
def AfC:N0=2097151+1:=rfl
attribute [irreducible] N0 sN
def AhG {i j:Nat} (hi:Num i) (hj:Num j) (h:sN i=sN j):i=j:=by obtain⟨r,h1,h2⟩:=hi.dec;obtain⟨q,h3,h4⟩:=hj.dec;rw[h,h3]at h1;injection h1 with h1;injection h1 with h1 _;subst h1;rw[h2]at h4;exact Int.ofNat.inj h4
def kyN (i:Nat):KyT:=([],sN i,[],[])
def psN (t:Int) (i:Nat):PsT:=(t,[],sN i,[],[])
def Nu {ρ :Type} {c:Bool} (k:Option ρ) (h:c=true):chk c k=k:=by rw[h];rfl
def Aai {α :Type} {b:Bool} {x y: α} (h:b=true):(bif b then x else y)=x:=by rw[h];rfl
def Xd {α :Type} {b:Bool} {x y: α} (h:b=false):(bif b then x else y)=y:=by rw[h];rfl
def AgT {i j:Nat}:Ty.same Tq7 (kyN i) (kyN j)=(sN i==sN j):=by show(([]==([]:Bs):Bool)&&((sN i==sN j)&&(([]==([]:Bs):Bool)&&(([]==([]:Bs):Bool)&&true))))=_;cases sN i==sN j<;>rfl
def AfS {M:Nat} {t:Int} {c:UInt8} {q:Bs} {r:Mc} (hd:N9 (M+8) (c::q)=some (r,0)):NQ (M+8) (t,[],c::q,[],[])=some 0:=by
 unfold NQ;try simp -zeta only[Ap]
 refine Eq.trans (show _=(Jn (N9 (M+8) (c::q)) fun r40=>some r40.2)from rfl) ?_;rw[hd];rfl
def Afy (M:Nat) (l:List PsT) (m:List (KyT×Int)) (t:Int) (c:UInt8) (q:Bs):Kz (M+8) (l,m) (t,[],c::q,[],[]) =
 chk ((!(decide (t<(0:Int))))||(!(!(decide (t<(0:Int)))))) (chk ((!(decide (t<(0:Int))))||(!(!(decide (t<(0:Int)))))) (chk (bif decide (t<(0:Int))then true else !(decide (t<(0:Int)))) (chk (bif decide (t<(0:Int))then true else true)
 (bif (bif decide (t<(0:Int))then true else decide (t>(254033452799:Int)))then(some (12,(l,m)))
 else(Jn (NQ (M+8) (t,[],c::q,[],[])) fun r47 =>
  bif (r47 != (0:Int))then(some (r47,(l,m)))
  else(bif (NZ Tq7 ((([]:Bs),c::q,([]:Bs),([]:Bs)):KyT) m).isSome then(some (10,(l,m)))
  else(bif decide ((l.length:Int)>=(1024:Int))then(some (2,(l,m)))
  else(chk (decide ((l.length+1)*73<=140737488355328))
   (some (0,(l++[(t,[],c::q,[],[])],P5 Tq7 ((([]:Bs),c::q,([]:Bs),([]:Bs)):KyT) (l.length:Int) m))))))))))):=by kernel_rfl
def AgX {M:Nat} {l:List PsT} {m:List (KyT×Int)} {t:Int} {c:UInt8} {q:Bs} {r:Mc} (h0:0<=t) (h1:t<=254033452799) (hd:N9 (M+8) (c::q)=some (r,0)) (hm:(NZ Tq7 ((([]:Bs),c::q,([]:Bs),([]:Bs)):KyT) m).isSome=false) (hl:l.length<1024) :
 Kz (M+8) (l,m) (t,[],c::q,[],[])=some (0,(l++[(t,[],c::q,[],[])],P5 Tq7 ((([]:Bs),c::q,([]:Bs),([]:Bs)):KyT) (l.length:Int) m)):=by
 rw[Afy,E5 (show ¬ t<0 by omega),E5 (show ¬ t>254033452799 by omega)];refine(Nu _ (by rfl)).trans ?_;refine(Nu _ (by rfl)).trans ?_;refine(Nu _ (by rfl)).trans ?_;refine(Nu _ (by rfl)).trans ?_;refine(Xd (by rfl)).trans ?_;refine(N7 (AfS hd) _).trans ?_;refine(Xd (by rfl)).trans ?_;refine(Xd hm).trans ?_;refine(Xd (E5 (show ¬(l.length:Int)>=1024 by omega))).trans ?_;exact Nu _ (DX (show(l.length+1)*73<=140737488355328 by omega))
structure Rep (ps:List PsT) (m:List (KyT×Int)) (L:List (Int×Nat)):Prop where
 items:ps=L.map fun p=>psN p.1 p.2
 keys: ∀ e∈m,∃ p∈L,e.1=kyN p.2
 num: ∀ p∈L,Num p.2
def Afg {m:List (KyT×Int)} {k:KyT} (h: ∀ e∈m,Ty.same Tq7 k e.1=false):(NZ Tq7 k m).isSome=false:=by
 induction m with
 | nil=>rfl
 | cons e m ih =>show(bif Ty.same Tq7 k e.1 then some e.2 else NZ Tq7 k m).isSome=false;rw[h e Dp,cond_false];exact ih fun e he=>h e (Dq _ he)
def Afi {m:List (KyT×Int)} {k:KyT} {v:Int}: ∀ e:KyT×Int,e∈(show List (KyT×Int)from P5 Tq7 k v m)->e.1=k\/ ∃ f∈m,e.1=f.1:=by
 induction m with
 | nil =>intro e he;have he:=(Ej (α :=KyT×Int) (a:=e) (b:=(k,v))).1 he;exact .inl (by rw[he])
 | cons a m ih =>
  intro e he;have he:e∈(bif Ty.same Tq7 k a.1 then(a.1,v)::m else a::P5 Tq7 k v m):=he;cases hs:Ty.same Tq7 k a.1 with
  | true =>
   rw[hs,cond_true]at he;rcases Dx.1 he with rfl | he
   .exact .inr ⟨a,Dp,rfl⟩
   .exact .inr ⟨e,Dq _ he,rfl⟩
  | false =>
   rw[hs,cond_false]at he;rcases Dx.1 he with rfl | he
   .exact .inr ⟨e,Dp,rfl⟩
   .rcases ih e he with h | ⟨f,hf,h⟩
    .exact .inl h
    .exact .inr ⟨f,Dq _ hf,h⟩
def Agq {ps:List PsT} {m:List (KyT×Int)} {L:List (Int×Nat)} (h:Rep ps m L) {t:Int} {i:Nat} (hi:Num i) (h0:0<=t) (h1:t<=254033452799) (hn: ∀ p∈L,p.2≠i) (hl:L.length<1024) :
 ∃ m',Kz N0 (ps,m) (t,[],sN i,[],[])=some (0,(ps++[psN t i],m'))/\Rep (ps++[psN t i]) m' (L++[(t,i)]):=by
 obtain⟨r,hd,_⟩:=hi.dec;have hm:(NZ Tq7 (kyN i) m).isSome=false:=Afg fun e he=>by obtain⟨p,hp,hk⟩:=h.keys e he;rw[hk,AgT,beq_eq_false_iff_ne];exact fun e=>hn p hp (AhG (h.num p hp) hi e.symm)
 refine⟨P5 Tq7 (kyN i) (ps.length:Int) m,?_,?_,?_,?_⟩
 .have hne:=hi.ne;unfold kyN at hm ⊢;unfold psN;cases hs:sN i with
  | nil=>rw[hs]at hne;cases hne
  | cons c q =>rw[hs]at hm hd;rw[AhS]at hd ⊢;exact AgX h0 h1 hd hm (by rw[h.items];simpa using hl)
 .rw[h.items,Fq];rfl
 .intro e he;rcases Afi e he with hk | ⟨f,hf,hk⟩
  .exact⟨(t,i),by simp,hk⟩
  .obtain⟨p,hp,hk'⟩:=h.keys f hf;exact⟨p,Dz _ hp,hk.trans hk'⟩
 .intro p hp;rcases DJ.1 hp with hp | hp
  .exact h.num p hp
  .rw[Ej]at hp;rw[hp];exact hi
def AgY:Rep [] [] []:=⟨rfl,fun e h=>(by cases h),fun p h=>(by cases h)⟩
def orN (b:Bool):(b|| !b)=true:=by cases b<;>rfl
def Ahr (b:Bool):(bif b then b else true)=true:=by cases b<;>rfl
def AgC (b:Bool):(bif b then true else true)=true:=by cases b<;>rfl
def getD_at {α :Type} {l:List α} {i:Nat} (d: α) (h:i<l.length):l.getD i d=l[i]:=by simp [Di,h]
def take_at {α :Type} {l:List α} {i:Nat} (d: α) (h:i<l.length):l.take i++[l.getD i d]=l.take (i+1):=by rw[getD_at d h];simp
def Aer {i:Nat} (h:i<1000000:=by omega):i64.wrap ((i:Int)+1)=((i+1:Nat):Int):=by rw[w64];omega
def dPs:PsT:=(0,([]:Bs),([]:Bs),([]:Bs),([]:Bs))
def AbG (M:Nat) (ps:List PsT) (m:List (KyT×Int)) (T:Int):KR (M+1) (ps,m) (T,[]) =
 (Jy (X:=Int×List Yq1×(List (Yq0×Int))×Int×List Int×(List (Int×Bool))×List Yq1) (Y:=(List Yq1×(List (Yq0×Int))×List Yq1)) (U7 fun t29c l101c m102c b33536_0c b33536_1c m36096c l1008192c k3 x4 =>
 bif decide (t29c<(ps.length:Int))then(chk (decide ((0:Int)<=t29c)) <|
 chk (decide (t29c<(l101c.length:Int))) <|
 chk (decide (t29c.toNat<l101c.length)) <|
 let x35:Int:=(l101c.getD t29c.toNat (0,([]:Bs),([]:Bs),([]:Bs),([]:Bs))).1
 chk (((decide (x35<=b33536_0c))||(!(decide (x35<=b33536_0c))))) <|
 chk (((decide (x35<=b33536_0c))||(!(decide (x35<=b33536_0c))))) <|
 chk (((decide (x35<=b33536_0c))||(!(decide (x35<=b33536_0c))))) <|
 chk (bif decide (x35<=b33536_0c)then decide (x35<=b33536_0c)else true) <|
 chk (bif decide (x35<=b33536_0c)then true else true) <|
 let x44:Bool:=bif decide (x35<=b33536_0c)then !((NZ (.int .i64 .nil) t29c m36096c).getD false)else false
 bif x44 then(chk (decide ((l1008192c.length+1)*73<=140737488355328)) <|
 let y45056:List Yq1:=l1008192c++([(l101c.getD t29c.toNat (0,([]:Bs),([]:Bs),([]:Bs),([]:Bs)))]:List Yq1)
 k3 (i64.wrap (t29c+(1:Int)),l101c,m102c,b33536_0c,b33536_1c,m36096c,y45056))
 else(k3 (i64.wrap (t29c+(1:Int)),l101c,m102c,b33536_0c,b33536_1c,m36096c,l1008192c)))
 else(x4 (l101c,m102c,l1008192c)))
 (M+1) (0,ps,m,T,([]:List Int),([]:List (Int×Bool)),([]:List Yq1)) (U3 fun l101d m102d l1012288d =>
 some (l1012288d,(l101d,m102d)))):=by kernel_rfl
def Aeq {M:Nat} {ps:List PsT} {m:List (KyT×Int)} {T:Int} (hM:2000<M) (hl:ps.length<=1024) (hT: ∀ p∈ps,p.1<=T):KR (M+1) (ps,m) (T,[])=some (ps,(ps,m)):=by
 rw[AbG];refine lD (X:=Int×List Yq1×(List (Yq0×Int))×Int×List Int×(List (Int×Bool))×List Yq1) (fun x=> ∃ i:Nat,i<=ps.length/\x=((i:Int),ps,m,T,([]:List Int),([]:List (Int×Bool)),ps.take i)) (fun x=>ps.length - x.1.toNat) (fun _=>some (ps,(ps,m))) ?_ (M+1) _ ⟨0,Ff _,rfl⟩ (by show ps.length - 0<M+1;omega);rintro _ ⟨i,hi,rfl⟩ k hk;by_cases h:i<ps.length
 .have hx:decide ((ps.getD i dPs).1<=T)=true:=DX (by rw[getD_at dPs h];exact hT _ (EF h));refine(Aai (DX (show(i:Int)<(ps.length:Int) by omega))).trans ?_;refine(Nu _ (DX (show(0:Int)<=(i:Int) by omega))).trans ?_;refine(Nu _ (DX (show(i:Int)<(ps.length:Int) by omega))).trans ?_;refine(Nu _ (DX (show i<ps.length from h))).trans ?_;refine(Nu _ (orN _)).trans ?_;refine(Nu _ (orN _)).trans ?_;refine(Nu _ (orN _)).trans ?_;refine(Nu _ (Ahr _)).trans ?_;refine(Nu _ (AgC _)).trans ?_;refine(Aai (show(bif decide ((ps.getD i dPs).1<=T)then _ else false)=true by rw[hx];rfl)).trans ?_;refine(Nu _ (DX (show((ps.take i).length+1)*73<=140737488355328 by rw[EG];omega))).trans ?_;show k (i64.wrap ((i:Int)+1),ps,m,T,([]:List Int),([]:List (Int×Bool)),ps.take i++[ps.getD i dPs])=_;rw[Aer,take_at dPs h];exact hk _ ⟨i+1,h,rfl⟩ (by show ps.length - (i+1)<ps.length - i;omega)
 .have he:i=ps.length:=by omega
  subst he;refine(Xd (E5 (show ¬(ps.length:Int)<(ps.length:Int) by omega))).trans ?_;show some (ps.take ps.length,(ps,m))=_;rw[FH]
def AeB {α :Type} (l:List α) (a:Nat):JB l a l.length=l.drop a:=by unfold JB;rw[FH]
def AcP {N:Nat} {l:List Bs} (hl:l.length<=2000):KF N l=some (l.drop (l.length - 64)):=by
 have h64:i64.wrap ((l.length:Int) - 64)=(l.length:Int) - 64:=w64
 have hx:(bif decide ((0:Int)<i64.wrap ((l.length:Int) - (64:Int)))then i64.wrap ((l.length:Int) - (64:Int))else(0:Int))=((l.length - 64:Nat):Int):=by
  rw[h64];by_cases h:64<l.length
  .rw[DX,cond_true];omega
  .rw[E5 (by omega),cond_false];omega
 unfold KF;try simp -zeta only[Ap]
 rw[hx];refine(Nu _ (DX)).trans ?_;refine(Nu _ (DX)).trans ?_;show Jn (Ny N (JB l (l.length - 64) l.length)) _=_;rw[AeB];refine(N7 (a:=l.drop (l.length - 64)) ?_ _).trans rfl;exact Nu _ (DX (by rw[ER];omega))
def AhH {M:Nat} {ps:List PsT} {m:List (KyT×Int)} {L:List (Int×Nat)} (h:Rep ps m L) {T:Int} (hM:2000<M) (hl:ps.length<=1024) (hT: ∀ p∈ps,p.1<=T) :
 Lm (M+1) (ps,m) (T,[])=some ((([]:List Bs),(L.map fun p=>sN p.2).drop (L.length - 64),([]:List (Bs×Bs))),(ps,m)):=by
 have hL:ps.length=L.length:=by rw[h.items,D5]
 unfold Lm;try simp -zeta only[Ap]
 rw[Aeq hM hl hT,XB]
 refine lD (X:=Int×List Yq1×(List (Yq0×Int))×List Bs×List Bs×List (Bs×Bs)) (fun x=> ∃ i:Nat,i<=ps.length/\x=((i:Int),ps,m,([]:List Bs),(L.map fun p=>sN p.2).take i,([]:List (Bs×Bs)))) (fun x=>ps.length - x.1.toNat)
  (fun _=>some ((([]:List Bs),(L.map fun p=>sN p.2).drop (L.length - 64),([]:List (Bs×Bs))),(ps,m))) ?_ (M+1) _ ⟨0,Ff _,rfl⟩ (by show ps.length - 0<M+1;omega)
 rintro _ ⟨i,hi,rfl⟩ k hk;by_cases hlt:i<ps.length
 .have hi':i<L.length:=by omega
  have he:ps.getD i dPs=psN L[i].1 L[i].2:=by
   rw[getD_at dPs hlt];have:ps[i]=(L.map fun p=>psN p.1 p.2)[i]'(by rw[D5];exact hi'):=by congr 1;exact h.items
   rw[this,ES]
  have hne:(sN L[i].2==([]:Bs))=false:=by
   have:=(h.num _ (EF hi')).ne;cases hs:sN L[i].2 with
   | nil=>rw[hs]at this;cases this
   | cons _ _=>rfl
  refine(Aai (DX (show(i:Int)<(ps.length:Int) by omega))).trans ?_;refine(Nu _ (DX (show(0:Int)<=(i:Int) by omega))).trans ?_;refine(Nu _ (DX (show(i:Int)<(ps.length:Int) by omega))).trans ?_;refine(Xd (show(!((ps.getD i dPs).2.1==([]:Bs)))=false by rw[he];rfl)).trans ?_;refine(Aai (show(!((ps.getD i dPs).2.2.1==([]:Bs)))=true by rw[he];show(!(sN L[i].2==([]:Bs)))=true;rw[hne];rfl)).trans ?_;refine(Nu _ (DX (show(((L.map fun p=>sN p.2).take i).length+1)*17<=140737488355328 by rw[EG,D5];omega))).trans ?_;show k (i64.wrap ((i:Int)+1),ps,m,([]:List Bs),(L.map fun p=>sN p.2).take i++[(ps.getD i dPs).2.2.1],([]:List (Bs×Bs)))=_;have e2:(L.map fun p=>sN p.2).take i++[(ps.getD i dPs).2.2.1]=(L.map fun p=>sN p.2).take (i+1):=by rw[he];show _++[sN L[i].2]=_;rw[<- take_at (l:=L.map fun p=>sN p.2) ([]:Bs) (by rw[D5];exact hi'),getD_at _ (by rw[D5];exact hi'),ES]
  rw[Aer,e2];exact hk _ ⟨i+1,hlt,rfl⟩ (by show ps.length - (i+1)<ps.length - i;omega)
 .have he:i=ps.length:=by omega
  subst he;refine(Xd (E5 (show ¬(ps.length:Int)<(ps.length:Int) by omega))).trans ?_;show(Jn (KF (M+1) ([]:List Bs)) fun r48=>Jn (KF (M+1) ((L.map fun p=>sN p.2).take ps.length)) fun r51=>Jn (NS (M+1) ([]:List (Bs×Bs))) fun r54=>some ((r48,r51,r54),(ps,m)))=_;refine(N7 (a:=([]:List Bs)) (AcP (l:=[]) (Ff _)) _).trans ?_;have ht:(L.map fun p=>sN p.2).take ps.length=L.map fun p=>sN p.2:=by rw[hL,<- D5 (f:=fun p:Int×Nat=>sN p.2),FH]
  refine(N7 (a:=(L.map fun p=>sN p.2).drop (L.length - 64)) ?_ _).trans ?_
  .show KF (M+1) ((L.map fun p=>sN p.2).take ps.length)=_;rw[ht,AcP (by rw[D5];omega),D5]
  .rfl
end Go.Proofs.YtpaimpmokhihmaaGreatDoor.Pl
namespace Go.Proofs.YtpaimpmokhihmaaGreatDoor.Vm
open IntKind (i64 u8 u32 u64)
def getD_lt {α :Type} (l:List α) (i:Nat) (d: α) (h:i<l.length):l.getD i d=l[i]:=by rw[Di,D7 h];rfl
open Go
def getD_at {α :Type} {l:List α} {i:Nat} (d: α) (h:i<l.length):l.getD i d=l[i]:=getD_lt l i d h
section
variable {X Y E ρ :Type} {B:X->(X->Option ρ)->(Y->Option ρ)->Option ρ} {kx:Y->Option ρ}
end
section
variable {X Y E A ρ :Type} {B:X->(X->Option ρ)->(Y->Option ρ)->Option ρ} {kx:Y->Option ρ}
end
end Go.Proofs.YtpaimpmokhihmaaGreatDoor.Vm
namespace Go.Proofs.YtpaimpmokhihmaaGreatDoor.Pl
open IntKind (i64 u8 u32 u64)
open Go Vm
def Ends {α :Type} (Q: α ->Prop) (o:Option α):Prop:= ∃ v,o=some v/\Q v
def nZ (L:List Int) (d:List Int×Int):Prop:= ∃ k:Nat,d=(L,(k:Int))/\k<=L.length
def Afj (N:Nat) {L:List Int} (hL:L.length<=9223372036854775807) {d:List Int×Int} (hd:nZ L d) (n:Nat) (hn:0<n) (hn':n<2147483648) :
 Ends (fun r=>0<=r.1/\r.1<(n:Int)/\nZ L r.2) (NG N d (n:Int)):=by
 obtain⟨k,rfl,hk⟩:=hd;unfold NG;try simp -zeta only[Ap]
 try dsimp only
 by_cases h:k<L.length
 .rw[Aey,Du,w64 (x:=(k:Int)+1),w64 (x:=(k:Int)+1 - 1),Ae3,AiD,Ae3,AiD];generalize L.getD _ _=x;have hne:((n:Int) != 0)=true:=by simp;omega
  rw[hne,AgE,AgE];have h1:=Gp x (show(0:Int)<(n:Int) by omega);have h2: -(n:Int)<x.tmod (n:Int):=Int.lt_tmod_of_pos x (by omega);rw[w64 (x:=x.tmod (n:Int)+(n:Int))];have h3:0<=(x.tmod (n:Int)+(n:Int)).tmod (n:Int):=Int.tmod_nonneg _ (by omega);have h4:=Gp (x.tmod (n:Int)+(n:Int)) (show(0:Int)<(n:Int) by omega);refine⟨_,rfl,h3,h4,k+1,by rw[show((k+1:Nat):Int)=(k:Int)+1 by omega],h⟩
 .rw[Aey,AiD];exact⟨_,rfl,Int.le_refl _,by show(0:Int)<n;omega,k,rfl,hk⟩
section
variable (N:Nat) (hN:1048578<N) {L:List Int} (hL:L.length<=9223372036854775807)
include hL
theorem nx {d:List Int×Int} (hd:nZ L d) (n:Int) (h0:0<n) (h1:n<2147483648):Ends (fun r=>0<=r.1/\r.1<n/\nZ L r.2) (NG N d n):=by
 have:=Afj N hL hd n.toNat (by omega) (by omega)
 rw[show((n.toNat:Nat):Int)=n by omega]at this;exact this
end
def AcK:Px N0=some true:=by kernel_rfl
def LL (k:Nat):List (Int×Nat):=(List.range k).map fun i=>(((i+1:Nat):Int),i+1)
def mF (k:Nat):(LL k).length=k:=by simp [LL]
def Aij (k:Nat):LL (k+1)=LL k++[(((k+1:Nat):Int),k+1)]:=by unfold LL;rw[List.range_succ,Fq];rfl
def Aes {k:Nat} {p:Int×Nat} (h:p∈LL k):p.1=((p.2:Nat):Int)/\1<=p.2/\p.2<=k:=by obtain⟨i,hi,rfl⟩:=D8.1 h;have:=EX.1 hi;exact⟨rfl,by omega,by omega⟩
def Af4 (p0 p1:Int):LY N0 p0 p1=some true:=by
 obtain⟨⟨r,d⟩,hv,hr0,hr1,_⟩:=nx N0 (L:=[p0]) (by simp) (d:=([p0],0)) ⟨0,rfl,by simp⟩ 4 (by decide) (by decide);obtain⟨j,rfl⟩: ∃ j:Nat,r=(j:Int):=⟨r.toNat,by omega⟩
 have hr1:(j:Int)<4:=hr1;obtain⟨⟨q,d2⟩,hq,hq0,hq1,_⟩:=nx N0 (L:=[p1]) (by simp) (d:=([p1],0)) ⟨0,rfl,by simp⟩ 64 (by decide) (by decide);obtain⟨u,rfl⟩: ∃ u:Nat,q=(u:Int):=⟨q.toNat,by omega⟩
 have hq1:(u:Int)<64:=hq1;unfold LY;try simp -zeta only[Ap]
 rw[show YJ N0 ([p0]:List Int)=some ([p0],0)from rfl,XB,hv,XB,show Qc N0=some ([],[])from rfl,XB];have hw:i64.wrap ((64:Int)+((j:Int),d).1)=((64+j:Nat):Int):=by rw[w64 (by show -9223372036854775808<=(64:Int)+j;omega) (by show(64:Int)+j<=_;omega)];show(64:Int)+j=_;omega
 rw[hw];refine lD (X:=Int×(List (Yq0×Int))×List Yq1) (fun x=> ∃(k:Nat) (m:List (KyT×Int)) (ps:List PsT),k<=64+j/\x=(((k+1:Nat):Int),m,ps)/\Rep ps m (LL k)) (fun x=>100 - x.1.toNat) (fun _=>some true) ?_ N0 _ ⟨0,[],[],Ff _,rfl,AgY⟩ (by rw[AfC];show 100 - 1<2097151+1;omega);rintro _ ⟨k,m,ps,hk,rfl,hR⟩ K hK;by_cases h:k<64+j
 .have hN:=Afm (i:=k+1);obtain⟨m',hP,hR'⟩:=Agq hR hN (t:=((k+1:Nat):Int)) (by omega) (by omega) (fun p hp=>by have:=(Aes hp).2.2;omega) (by rw[mF];omega);rw[<- Aij]at hR';refine(Aai (DX (show((k+1:Nat):Int)<=((64+j:Nat):Int) by omega))).trans ?_;refine(N7 hN.made _).trans ?_;refine(N7 hP _).trans ?_;refine(Xd (by rfl)).trans ?_;show K (i64.wrap (((k+1:Nat):Int)+1),m',ps++[psN ((k+1:Nat):Int) (k+1)])=_;rw[Aer];exact hK _ ⟨k+1,m',_,h,rfl,hR'⟩ (by show 100 - (k+1+1)<100 - (k+1);omega)
 .obtain rfl:k=64+j:=by omega
  refine(Xd (E5 (show ¬((64+j+1:Nat):Int)<=((64+j:Nat):Int) by omega))).trans ?_;have hps:ps.length=64+j:=by rw[hR.items,D5,mF]
  have hS:=AhH hR (T:=((64+j:Nat):Int)) (M:=2097151) (by omega) (by omega) (fun p hp=>by rw[hR.items]at hp;obtain⟨e,he,rfl⟩:=D8.1 hp;have:=Aes he;show e.1<=_;omega);rw[<- AfC,mF]at hS;dsimp only[U2];refine(N7 hS _).trans ?_;have hl:(((LL (64+j)).map fun p=>sN p.2).drop (64+j - 64)).length=64:=by rw[ER,D5,mF];omega
  refine(Xd (show((((((LL (64+j)).map fun p=>sN p.2).drop (64+j - 64)).length:Nat):Int) != 64)=false by rw[hl];rfl)).trans ?_;refine(XB (([p1]:List Int),(0:Int)) _).trans ?_;refine(N7 hq _).trans ?_;refine(Nu _ (DX (show(0:Int)<=(u:Int) by omega))).trans ?_;refine(Nu _ (DX (show(u:Int)<((((LL (64+j)).map fun p=>sN p.2).drop (64+j - 64)).length:Int) by rw[hl];exact hq1))).trans ?_;have hN:=Afm (i:=j+1+u);have hx:i64.wrap (i64.wrap (i64.wrap (((64+j:Nat):Int) - 64)+1)+(u:Int))=((j+1+u:Nat):Int):=by rw[w64 (x:=((64+j:Nat):Int) - 64),w64 (x:=((64+j:Nat):Int) - 64+1),w64];omega
  refine(N7 (a:=sN (j+1+u)) (by show JU N0 (i64.wrap (i64.wrap (i64.wrap (((64+j:Nat):Int) - 64)+1)+(u:Int)))=_;rw[hx];exact hN.made) _).trans ?_;have hg:((((LL (64+j)).map fun p=>sN p.2).drop (64+j - 64)).getD u ([]:Bs))=sN (j+1+u):=by rw[getD_at _ (by rw[hl];omega),List.getElem_drop,ES];unfold LL;rw[ES,List.getElem_range];congr 1;show 64+j - 64+u+1=_;omega
  have hb:(((((LL (64+j)).map fun p=>sN p.2).drop (64+j - 64)).getD u ([]:Bs))==sN (j+1+u))=true:=by rw[hg];exact beq_self_eq_true _
  refine(Nu _ (show((Px N0).isSome||_)=true by rw[AcK];rfl)).trans ?_;refine(Nu _ (Ahr _)).trans ?_;refine(Nu _ (AgC _)).trans ?_;show some (bif ((((LL (64+j)).map fun p=>sN p.2).drop (64+j - 64)).getD u ([]:Bs))==sN (j+1+u)then(Px N0).getD default else false)=some true;rw[hb,AcK];rfl
def Ag0 (p0 p1:Int):LY 2097152 p0 p1=some true:=by have h:=Af4 p0 p1;rw[AfC]at h;exact h
end Go.Proofs.YtpaimpmokhihmaaGreatDoor.Pl
namespace Go.Proofs.YtpaimpmokhihmaaGreatDoor.Vm
open Go.ChangeShapes Go.WideShapes
def nobody:Own:=fun _ _=>none
def Ago:A->Prop
 | .int k n=>k.min<=n/\n<=k.max
 | .str s=>s.length<=9223372036854775807
 | _=>True
def okN:Nat->A->Prop
 | 0,_=>False
 | n+1,.sl l=>l.xs.length<=9223372036854775807/\ ∀ c∈l.es,∀ a∈c,okN n a
 | _+1,a=>Ago a
structure Opened (n:Nat) (w:World) (ks:List CK) (cs:List Value) (aa:List A):Prop where
 lc:cs.length=ks.length
 la:aa.length=ks.length
 rel: ∀ j,j<ks.length->Jt nobody w (cs.getD j undef) (aa.getD j .undef)
 made:((tyl ks).mk aa).1=true
 ok: ∀ a∈aa,okN n a
def Ah6: ∀(n:Nat) (a:A),okN n a->okN (n+1) a:=by
 intro n
 induction n with
 | zero=>intro a h;exact h.elim
 | succ n ih =>intro a h;cases a<;>first | exact h | exact⟨h.1,fun c hc z hz=>ih z (h.2 c hc z hz)⟩
def Opened.up {n:Nat} {w:World} {ks:List CK} {cs:List Value} {aa:List A} (h:Opened n w ks cs aa):Opened (n+1) w ks cs aa:=⟨h.lc,h.la,h.rel,h.made,fun a ha=>Ah6 n a (h.ok a ha)⟩
def Afh: ∀(a:List CK) {b:List CK} {x y:List A},((tyl a).mk x).1=true->((tyl b).mk y).1=true->((tyl (a++b)).mk (x++y)).1=true:=by
 intro a
 induction a with
 | nil =>
  intro b x y hx hy;cases x with
  | nil=>exact hy
  | cons _ _=>cases hx
 | cons k a ih =>
  intro b x y hx hy;cases k with
  | bool =>
   cases x with
   | nil=>cases hx
   | cons c x=>cases c<;>first | exact ih (x:=x) hx hy | cases hx
  | int k =>
   cases x with
   | nil=>cases hx
   | cons c x =>
    cases c<;>first
     | (simp only[tyl,Ty.mk,Dn]at hx
        simp only[List.cons_append,tyl,Ty.mk,Dn];exact⟨hx.1,ih hx.2 hy⟩)
     | cases hx
  | str =>
   cases x with
   | nil=>cases hx
   | cons c x=>cases c<;>first | exact ih (x:=x) hx hy | cases hx
  | sl e t =>
   cases x with
   | nil=>cases hx
   | cons c x =>
    cases c with
    | sl l =>
     simp only[tyl,Ty.mk]at hx;simp only[List.cons_append,tyl,Ty.mk];cases hc:l.cast t with
     | none=>rw[hc]at hx;cases hx
     | some xs=>rw[hc]at hx;exact ih (x:=x) hx hy
    | _=>cases hx
  | sln e t =>
   cases x with
   | nil=>cases hx
   | cons c x =>
    cases c with
    | sl l =>
     simp only[tyl,Ty.mk]at hx;simp only[List.cons_append,tyl,Ty.mk];cases hc:l.cast t with
     | none=>rw[hc]at hx;cases hx
     | some xs=>rw[hc]at hx;exact ih (x:=x) hx hy
    | _=>cases hx
  | ptr =>
   cases x with
   | nil=>cases hx
   | cons c x=>cases c<;>first | exact ih (x:=x) hx hy | cases hx
  | fn =>
   cases x with
   | nil=>cases hx
   | cons c x=>cases c<;>first | exact ih (x:=x) hx hy | cases hx
  | mp kt vt =>
   cases x with
   | nil=>cases hx
   | cons c x =>
    cases c with
    | ump l =>
     simp only[tyl,Ty.mk]at hx;simp only[List.cons_append,tyl,Ty.mk];cases hc:l.cast kt vt with
     | none=>rw[hc]at hx;cases hx
     | some xs=>rw[hc]at hx;exact ih (x:=x) hx hy
    | _=>cases hx
  | bx t =>
   cases x with
   | nil=>cases hx
   | cons c x =>
    cases c with
    | sl l =>
     simp only[tyl,Ty.mk]at hx;simp only[List.cons_append,tyl,Ty.mk];cases hc:l.cast t with
     | none=>rw[hc]at hx;cases hx
     | some xs=>rw[hc]at hx;exact ih (x:=x) hx hy
    | _=>cases hx
  | oth =>
   cases x with
   | nil=>cases hx
   | cons c x=>cases c<;>first | exact ih (x:=x) hx hy | cases hx
theorem Opened.nil {n:Nat} {w:World}:Opened n w [] [] []:=⟨rfl,rfl,fun j hj=>absurd hj (FM j),rfl,fun a ha=>(by cases ha)⟩
def Opened.append {n:Nat} {w:World} {a b:List CK} {x y:List Value} {p q:List A} (h1:Opened n w a x p) (h2:Opened n w b y q):Opened n w (a++b) (x++y) (p++q):=by
 refine⟨by simp [h1.lc,h2.lc],by simp [h1.la,h2.la],fun j hj=> ?_,Afh a h1.made h2.made,fun z hz=> ?_⟩
 .rw[Ef]at hj;by_cases h:j<a.length
  .have:=h1.rel j h;rw[Di,DU (by rw[h1.lc];exact h),<- Di,Di (l:=p++q),DU (by rw[h1.la];exact h),<- Di];exact this
  .have:=h2.rel (j - a.length) (by omega);rw[Di,Ea (by rw[h1.lc];omega),<- Di,Di (l:=p++q),Ea (by rw[h1.la];omega),<- Di,h1.lc,h1.la];exact this
 .rcases DJ.1 hz with hz | hz
  .exact h1.ok z hz
  .exact h2.ok z hz
def Opened.one {n:Nat} {w:World} {k:CK} {v:Value} {a:A} (hr:Jt nobody w v a) (hm:((tyl [k]).mk [a]).1=true) (ho:okN n a):Opened n w [k] [v] [a] :=
 ⟨rfl,rfl,fun j hj=>by
   have:j=0:=by simp at hj;omega
   subst this;exact hr,hm,fun z hz=>by rw[Ej.1 hz];exact ho⟩
def Tm (P:Program) (n t:Nat):Nat:=match Md P n t with | some cs=>cs.length | none=>0
def qA (P:Program) (n:Nat):List Field->Nat->Bool
 | [],_=>true
 | f::r,o=>Nat.beq f.offset o&&Nat.beq (P.cellsOf f.type) (Tm P n f.type)&&qA P n r (o+Tm P n f.type)
def XY (P:Program):Nat->Nat->Bool
 | 0,_=>false
 | n+1,t=>match P.underlying t with
  | some .bool=>true
  | some (.int _)=>true
  | some .string=>true
  | some (.slice e)=>XY P n e&&Nat.beq (P.cellsOf e) (Tm P n e)&&Nat.blt 0 (Tm P n e)&&(match Md P n e with | some cs=>cs.all CK.plain | none=>false)
  | some (.struct fs)=>Nat.beq (P.cellsOf t) (Tm P (n+1) t)&&qA P n fs.toList 0&&fs.toList.all (fun f=>XY P n f.type)
  | _=>false
section
variable {H:Type} {enc:TypeId×Value->H} {P:Program} {w:World} {base:Nat} {spare:Nat->Bool} {held:Bool}
theorem aO {a:Addr} {n:Nat} {cs:List Value} (h:w.cells? base a n=some cs):cs.length=n/\ ∀ j,j<n->w.cell? (a.add j)=some (cs.getD j undef):=by
 unfold World.cells? at h;split at h
 .have key: ∀(l:List Nat) (cs:List Value),l.mapM (fun i=>w.cell? (a.add i))=some cs->cs.length=l.length/\ ∀ j (hj:j<l.length),w.cell? (a.add l[j])=some (cs.getD j undef):=by
   intro l
   induction l with
   | nil=>grind
   | cons i l ih =>
    intro cs h;rw[FO]at h;cases h1:w.cell? (a.add i)with
    | none=>rw[h1]at h;cases h
    | some v =>
     rw[h1]at h;cases h2:l.mapM (fun i=>w.cell? (a.add i))with
     | none=>rw[h2]at h;cases h
     | some r =>
      rw[h2]at h;injection h with h;subst h;obtain⟨k1,k2⟩:=ih r h2;refine⟨by simp [k1],fun j hj=> ?_⟩;cases j with
      | zero=>exact h1
      | succ j=>grind
  all_goals grind
 .cases h
theorem Ag3 {l:List Value} {o a b:Nat}:(l.drop o).take (a+b)=(l.drop o).take a++(l.drop (o+a)).take b:=by rw[List.take_add,EW]
theorem Zi (e:Nat) (t:Ty) (xs:List t.Val):((tyl [.sl e t]).mk [.sl ⟨t,xs⟩]).1=true:=by simp only[tyl,Ty.mk];rw[Sl.TE];rfl
theorem AcH (hspare: ∀ b,spare b=true): ∀(n:Nat) (t:TypeId) (ks:List CK) (fuel:Nat) (cs:List Value) (x:DataW H×List MemPlace),Md P n t=some ks->XY P n t=true->DataW.trod enc P w base spare held fuel t cs=some x ->
 ∃ aa,Opened n w ks cs aa:=by
 intro n
 induction n with
 | zero=>intro t ks fuel cs x h;cases h
 | succ n ih =>
  intro t ks fuel cs x hck hok h;unfold Md at hck;unfold XY at hok;cases hu:P.underlying t with
  | none=>rw[hu]at hck;cases hck
  | some d =>
   rw[hu]at hck hok;cases d with
   | bool =>injection hck with hck;subst hck;obtain⟨b,rfl,_⟩:=DataW.trod_bool hu h;exact⟨[.bool b],Opened.one (.bool b) rfl trivial⟩
   | int k =>
    injection hck with hck;subst hck;obtain⟨v,rfl,_,hw⟩:=DataW.trod_int hu h;have hk:Ago (.int k v):=by unfold Lit.wf at hw;rw[Dn,Ee,Ee]at hw;exact hw
    exact⟨[.int k v],Opened.one (.int k v) (by cases k<;>rfl) hk⟩
   | string =>
    injection hck with hck;subst hck;obtain⟨v,rfl,_,hw⟩:=DataW.trod_string hu h
    have hk:Ago (.str v.data.toList):=by
     show v.data.toList.length<=_;have e:v.data.toList.length=v.size:=by rw[Array.length_toList];rfl
     have:maxLen=9223372036854775807:=rfl;omega
    exact⟨[.str v.data.toList],Opened.one (.str v) rfl hk⟩
   | slice e =>
    dsimp only at hck hok;simp only[Dn]at hok;obtain⟨⟨⟨hoe,hce⟩,hc0⟩,hpl⟩:=hok;cases hke:Md P n e with
    | none=>rw[hke]at hpl;cases hpl
    | some ke =>
     rw[hke]at hck hpl;dsimp only at hck hpl;rw[hpl]at hck;injection hck with hck;subst hck;have hlen:P.cellsOf e=ke.length:=by have:=Dk hce;unfold Tm at this;rw[hke]at this;exact this
     rcases DataW.trod_slice hu h with ⟨rfl,_⟩ | ⟨a,len,cap,elems,rest,m,_,rfl,_,hb,hl,hm,hel,hels,hsp,_⟩
     .exact⟨[.sl ⟨tyl ke,[]⟩],Opened.one (.nil _) (Zi _ _ _) ⟨Ff _,fun c hc=>(by cases hc)⟩⟩
     .by_cases hcap:cap=0
      .have hlen0:len=0:=by omega
       subst hcap;subst hlen0;exact⟨[.sl ⟨tyl ke,[]⟩],Opened.one (.sl0 a _) (Zi _ _ _) ⟨Ff _,fun c hc=>(by cases hc)⟩⟩
      have hk0:0<P.cellsOf e:=by have h2:=Dk hce;rw[h2];simpa using hc0
      have hread: ∃ u,w.cell? a=some u:=by
       by_cases h0:0<len
       .have he:=hels 0 h0;rw[D7 (by omega:0<elems.length),Fa]at he;obtain⟨q,hq,_⟩:=he;obtain⟨_,k2⟩:=aO hq;have:=k2 0 hk0;rw[FC]at this;exact⟨_,this⟩
       .have hz:len=0:=by omega
        obtain⟨hr1,hr2⟩:=hsp (hspare _);have he:=hr2 0 (by omega);rw[D7 (by omega:0<rest.length),Fa]at he;obtain⟨q,hq,_⟩:=he;obtain⟨_,k2⟩:=aO hq;have:=k2 0 hk0;rw[hz,FC]at this;exact⟨_,this⟩
      have hspot:a.spot=none:=by
       obtain⟨u,hu⟩:=hread;unfold World.cell? at hu;split at hu
       .cases hs:a.spot with
        | none=>rfl
        | some z=>rw[hs]at hu;cases hu
       .cases hu
      have ha:a=at' a.block a.off:=by obtain⟨b,o,sp⟩:=a;dsimp only at hspot;rw[hspot]
      have each: ∀ i,∃(q:List Value) (aa:List A),i<len->(∀ j,j<ke.length->w.cell? (at' a.block (a.off+(i*ke.length+j)))=some (q.getD j undef))/\Opened n w ke q aa:=by
       intro i;by_cases hi:i<len
       .have he:=hels i hi;have hei:elems[i]? =some (elems[i]'(by omega)):=D7 (by omega);rw[hei,Fa]at he;obtain⟨q,hq,hq2⟩:=he;obtain⟨k1,k2⟩:=aO hq;rw[hlen]at k1 k2;obtain⟨aa,h1⟩:=ih e ke m q _ hke hoe hq2;refine⟨q,aa,fun _=>⟨fun j hj=> ?_,h1⟩⟩;have:=k2 j hj;rw[ha,Og,Og]at this;rw[<- this];congr 2;omega
       .exact⟨[],[],fun h=>absurd h hi⟩
      obtain⟨q,hq⟩:=EZ each;obtain⟨aa,haa⟩:=EZ hq;let l:Sl:=⟨tyl ke,(List.range len).map fun i=>((tyl ke).mk (aa i)).2⟩
      have hes:l.es=(List.range len).map aa:=by show((List.range len).map fun i=>((tyl ke).mk (aa i)).2).map (tyl ke).cells=_;rw[EP];refine Es fun i hi=> ?_;exact Ty.OX _ _ (haa i (EX.1 hi)).2.made
      have hesl:l.es.length=len:=by rw[hes,D5,Gu]
      have hsz:l.sz=ke.length:=Qe ke;have hget: ∀ i,i<len->l.es.getD i []=aa i:=fun i hi=>by rw[hes,Di,DV,FY hi];rfl
      have hrel:Jt nobody w (.slice (some a) len cap) (.sl l):=by
       rw[ha,<- hesl];refine Jt.sl (fun i j=>(q i).getD j undef) (by rw[hesl];exact hl) (fun i j hi hj=> ?_) (fun i j hi hj=> ?_)
       .rw[hsz]at hj ⊢;exact⟨rfl,(haa i (by rw[<- hesl];exact hi)).1 j hj⟩
       .rw[hsz]at hj;have hi':i<len:=by rw[<- hesl];exact hi
        rw[hget i hi'];exact(haa i hi').2.rel j hj
      refine⟨[.sl l],Opened.one hrel (Zi _ _ _) ⟨?_,fun c hc z hz=> ?_⟩⟩
      .show((List.range len).map _).length<=_;rw[D5,Gu];have:maxLen=9223372036854775807:=rfl;omega
      .rw[hes]at hc;obtain⟨i,hi,rfl⟩:=D8.1 hc;exact(haa i (EX.1 hi)).2.ok z hz
   | struct fs =>
    dsimp only at hck hok;simp only[Dn]at hok;obtain⟨⟨hcl,hoff⟩,hall⟩:=hok;obtain⟨xs,m,_,_,hl,hxl,hxs⟩:=DataW.trod_struct hu h
    have fields: ∀(l:List Field) (o:Nat) (ks:List CK),l.foldr (fun f acc=>match Md P n f.type,acc with | some a,some b=>some (a++b) | _,_=>none) (some [])=some ks->qA P n l o=true->(∀ f∈l,XY P n f.type=true) ->
     (∀ f∈l,∃ y,DataW.trod enc P w base spare held m f.type ((cs.drop f.offset).take (P.cellsOf f.type))=some y)-> ∃ aa,Opened n w ks ((cs.drop o).take ks.length) aa:=by
     intro l
     induction l with
     | nil =>intro o ks hk _ _ _;injection hk with hk;subst hk;exact⟨[],Opened.nil⟩
     | cons f r ihr =>
      intro o ks hk ho hf hy;rw[List.foldr_cons]at hk;cases ha:Md P n f.type with
      | none=>rw[ha]at hk;cases hk
      | some a =>
       rw[ha]at hk;cases hb:r.foldr (fun f acc=>match Md P n f.type,acc with | some a,some b=>some (a++b) | _,_=>none) (some [])with
       | none=>rw[hb]at hk;cases hk
       | some b =>
        rw[hb]at hk;injection hk with hk;subst hk;have hal:Tm P n f.type=a.length:=by unfold Tm;rw[ha]
        unfold qA at ho;simp only[Dn]at ho;obtain⟨⟨h1,h2⟩,h3⟩:=ho;have h1:=Dk h1;have h2:=Dk h2;rw[hal]at h2 h3;obtain⟨y,hy1⟩:=hy f Dp;rw[h1,h2]at hy1;obtain⟨pa,p1⟩:=ih f.type a m _ y ha (hf f Dp) hy1;obtain⟨pb,q1⟩:=ihr (o+a.length) b hb h3 (fun g hg=>hf g (Dq _ hg)) (fun g hg=>hy g (Dq _ hg));refine⟨pa++pb,?_⟩;rw[Ef,Ag3];exact p1.append q1
    obtain⟨aa,h1⟩:=fields fs.toList 0 ks hck hoff (fun f hf=>DI.1 hall f hf) (fun f hf=>by
     obtain⟨i,hi⟩:=List.getElem?_of_mem hf;have hi':fs[i]? =some f:=by rw[<- DF];exact hi
     have:=hxs i f hi';have hlt:i<xs.length:=by rw[hxl];exact(DK.1 hi').1
     rw[D7 hlt]at this;exact⟨_,this⟩)
    have hcs:(cs.drop 0).take ks.length=cs:=by
     rw[List.drop_zero];refine List.take_of_length_le ?_;have h3:=Dk hcl;have h4:Tm P (n+1) t=ks.length:=by unfold Tm Md;rw[hu];dsimp only;rw[hck]
     omega
    rw[hcs]at h1;exact⟨aa,h1.up⟩
   | _=>cases hok
theorem Adf {r:Reach} {b0:Nat} {u:TypeId} {cs:Array Value} (h:Cell.okWide P w r b0 u (.agg cs)):False:=by
 have h':Cell.ok P w r b0 u (.agg cs):=by unfold Cell.okWide at h;all_goals grind
 unfold Cell.ok at h';all_goals grind
def Ahq (P:Program) (t:TypeId):Bool:=match P.underlying t with
 | some (.struct _)=>true
 | some (.array _ _)=>true
 | _=>false
theorem open_cell {r:Reach} {b0 n:Nat} {t:TypeId} {v:Value} {d:DataW H} {ps:List MemPlace} {k:CK} (hck:Md P n t=some [k]) (hspare: ∀ b,spare b=true) (hok:XY P n t=true) (ha:Ahq P t=false) (hval:Value.okWide P w r b0 t v) (hd:DataW.Trod enc P w base spare held t v d ps) :
 ∃ a,Jt nobody w v a/\((tyl [k]).mk [a]).1=true/\okN n a:=by
 have hc:Cell.okWide P w r b0 t v:=by unfold Value.okWide at hval;all_goals grind[Ahq]
 have hcells:v.cells.toList=[v]:=by
  cases v with
  | agg cs=>exact(Adf hc).elim
  | _=>rfl
 obtain⟨fuel,h⟩:=hd;rw[hcells]at h;obtain⟨aa,h1⟩:=AcH hspare n t [k] fuel [v] _ hck hok h;obtain⟨a,rfl⟩: ∃ a,aa=[a]:=Ey.1 h1.la;exact⟨a,h1.rel 0 (by show 0<1;omega),h1.made,h1.ok a Dp⟩
theorem Opened.ir {n:Nat} {ks:List CK} {cs:Array Value} {aa:List A} (h:Opened n w ks cs.toList aa) (id:Nat):IR nobody w id (.agg cs) (.agg aa):=by
 refine⟨cs,rfl,?_,fun j hj=>Jt.ic ?_⟩
 .rw[<- Array.length_toList,h.lc,h.la]
 .have:=h.rel j (by rw[<- h.la];exact hj);all_goals simp_all[CK,IR,nobody]
theorem Jt.ir {id:Nat} {v:Value} {a:A} (h:Jt nobody w v a):IR nobody w id v a:=by have:=h.ic (id:=id);cases h<;>exact this
end
open Go Go.Lib
abbrev tabs:List (String×DataW Unit):=[("math/bits.deBruijn32tab",Rows.laid_math_bits_deBruijn32tab),("math/bits.deBruijn64tab",Rows.laid_math_bits_deBruijn64tab),("internal/strconv.uint64pow10",Rows.laid_internal_strconv_uint64pow10),("unicode/utf8.acceptRanges",Rows.laid_unicode_utf8_acceptRanges),("certpath/date.lengths",Rows.laid_certpath_date_lengths),("unicode/utf8.first",Rows.laid_unicode_utf8_first)]
def Aio:DataW Unit->Value
 | .lit (.int k n)=>.int k n
 | _=>undef
def vS:DataW Unit->List Value
 | .agg l=>l.map Aio
 | _=>[]
def Aip:DataW Unit->List Value
 | .agg l=>l.flatMap vS
 | _=>[]
noncomputable def laidWorld (os:Os):World :=
 let w0:=World.holding Tryz.prog os ⟨#[],#[],[]⟩
 {w0 with heap:=(((((w0.heap.modify 2 fun
  | .cells _ t frozen=>.cells (vS Rows.laid_internal_strconv_uint64pow10).toArray t frozen
  | o=>o).modify 3 fun
  | .cells _ t frozen=>.cells (vS Rows.laid_unicode_utf8_first).toArray t frozen
  | o=>o).modify 4 fun
  | .cells _ t frozen=>.cells (Aip Rows.laid_unicode_utf8_acceptRanges).toArray t frozen
  | o=>o).modify 5 fun
  | .cells _ t frozen=>.cells (vS Rows.laid_math_bits_deBruijn32tab).toArray t frozen
  | o=>o).modify 0 fun
  | .cells _ t frozen=>.cells (vS Rows.laid_certpath_date_lengths).toArray t frozen
  | o=>o).modify 6 fun
  | .cells _ t frozen=>.cells (vS Rows.laid_math_bits_deBruijn64tab).toArray t frozen
  | o=>o}
def laid_met (os:Os) (args:Array Value):laidMet Tryz.prog tabs ((laidWorld os).forCall (fun _ _=>0) ⟨#[],args,[]⟩).memory :=
 laidMet_of_run' 8 (by kernel_rfl) (by kernel_rfl)
set_option maxRecDepth 1000000 in
def Aaf {W:World} (h:laidMet Tryz.prog tabs W) {nm:String} {D:DataW Unit} (hm:(nm,D)∈tabs) {g tA tE n:Nat} {k:IntKind} {f:Nat->Int} (hg0:Tryz.prog.globalNamed nm=some g) (ht0:(Tryz.prog.globals[g]?).map (·.type)=some tA) (hu:Tryz.prog.underlying tA=some (.array n tE)) (hu2:Tryz.prog.underlying tE=some (.int k)) (hc:Tryz.prog.cellsOf tE=1)
 (hds:D= .agg ((List.range n).map fun j=>.lit (.int k (f j)))) (j:Nat) (hj:j<n):W.cell? ⟨g,j,none⟩=some (.int k (f j)):=by
 obtain⟨g',t,cs,fuel,p,hg,ht,hvar,hd⟩:=laidMet.reads h (n:=nm) (d:=D) hm;obtain rfl:=EM (hg0.symm.trans hg);obtain rfl:=EM (ht0.symm.trans ht);rw[hds]at hd;obtain⟨fuel',d,q,h1,h2⟩:=array_elem hu hd j hj;rw[DV,FY hj]at h1;have h1:=EM h1;subst h1;rw[hc,Eo]at h2;obtain⟨m,h3,h4,_⟩:=DataW.trod_int hu2 h2;have hn:f j=m:=by have:=congrArg Prod.fst h4;injection this with this;injection this with _ this
 rw[World.var?_cell hg hvar j]
 have h5:(cs.toList.drop j)[0]? =some (.int k m):=by
  have:((cs.toList.drop j).take 1)[0]? =some (.int k m):=by rw[h3];rfl
  rwa [EU (by omega)]at this
 rw[EJ,Nat.add_zero,DF]at h5;rw[h5,hn]
set_option maxRecDepth 1000000 in
def Ags {W:World} (h:laidMet Tryz.prog tabs W) (j:Nat) (hj:j<20):W.cell? ⟨2,j,none⟩=some (.int .u64 ((10 ^ j:Nat):Int)):=by
 have hds:(Rows.laid_internal_strconv_uint64pow10:DataW Unit)= .agg ((List.range 20).map fun j=>.lit (.int .u64 ((10 ^ j:Nat):Int))):=by kernel_rfl
 have hm:(("internal/strconv.uint64pow10",Rows.laid_internal_strconv_uint64pow10):String×DataW Unit)∈tabs:=Dq _ (Dq _ Dp);generalize (Rows.laid_internal_strconv_uint64pow10:DataW Unit)=D at hds hm;exact Aaf h (nm:= "internal/strconv.uint64pow10") (D:=D) hm (g:=2) (tA:=351) (tE:=237) (n:=20) (k:=.u64) (f:=fun j=>((10 ^ j:Nat):Int)) (by kernel_rfl) (by kernel_rfl) (by kernel_rfl) (by kernel_rfl) (by kernel_rfl) hds j hj
set_option maxRecDepth 1000000 in
def Agh {W:World} (h:laidMet Tryz.prog tabs W) (j:Nat) (hj:j<12):W.cell? ⟨0,j,none⟩=some (.int .i64 (([31,28,31,30,31,30,31,31,30,31,30,31]:List Int).getD j 0)) :=
 Aaf h (nm:= "certpath/date.lengths") (D:=Rows.laid_certpath_date_lengths) (Dq _ (Dq _ (Dq _ (Dq _ Dp)))) (g:=0) (tA:=296) (tE:=3) (n:=12) (k:=.i64) (f:=fun j=>([31,28,31,30,31,30,31,31,30,31,30,31]:List Int).getD j 0) (by kernel_rfl) (by kernel_rfl) (by kernel_rfl) (by kernel_rfl) (by kernel_rfl) (by kernel_rfl) j hj
def inv_of {W:World} (hs:W.ShapedOpen Tryz.prog) (hl:laidMet Tryz.prog tabs W):Inv nobody W:=by
 refine⟨fun g j p h=> ?_,fun g n h=> ?_⟩
 .unfold Aej at h;split at h
  .injection h with h;subst h;obtain⟨m,hm⟩:=cell_of_shapedOpen_int (P:=Tryz.prog) (g:=1) (t:=3) (zero:= #[.int .i64 0]) (k:=.i64) hs (DZ (by kernel_rfl)) (by kernel_rfl) rfl (by kernel_rfl) (by kernel_rfl) (by kernel_rfl);exact⟨rfl,_,hm,m,rfl⟩
  .split at h
   .rename_i hj;injection h with h;subst h;exact⟨rfl,_,Ags hl _ hj,rfl⟩
   .cases h
  .unfold gK at h;split at h
   .have h:(if j<12 then some (fun v=>v=Value.int .i64 (([31,28,31,30,31,30,31,31,30,31,30,31]:List Int).getD j 0))else none)=some p:=h;split at h
    .rename_i hj;injection h with h;subst h;exact⟨rfl,_,Agh hl _ hj,rfl⟩
    .cases h
   .cases h
 .unfold AhL at h;split at h
  .injection h with h;subst h;obtain⟨cs,h1,h2,_⟩:=hs.1 2 (Array.replicate 20 (.int .u64 0)) 351 (DZ (by kernel_rfl)) (by kernel_rfl);exact⟨cs,_,_,h1,h2⟩
  .cases h
section
variable {H:Type} {enc:TypeId×Value->H}
theorem Ab4 {a:Assume} {C:Checked} {os:Os} {f:FuncId} {fn:Func} {s:ChangeSpec} {conds:List PathCond} {apart fresh handsOn again:Bool} {X:World->Array Value->Prop}
 (hX: ∀(w w':World) (args:Array Value),w.heap=w'.heap->X w args->X w' args)
 (own:ownKnob C.prog.godebug=none) (started:os.Started) (noInit:C.prog.inits.idxOf? f=none) (hfn:C.prog.funcs[f]? =some fn)
 (witness: ∃(w:World) (tape:Tape) (i:Input),w.os=os/\(w.forCall tape i).Shaped C.prog/\i.vars=[]/\Input.okWide C.prog (w.forCall tape i) .any w.heap.size f i /\
   ((s.pre enc C.prog fn conds apart (w.forCall tape i).memory i.args/\X (w.forCall tape i).memory i.args)/\sizedMet enc C.prog fn (OpenSpec.ofChange s) apart (w.forCall tape i).memory i.args)/\a.holds C.prog (lone (Frame.enter C.prog f i.args .normal) [] (w.forCall tape i)))
 (contract: ∀(W:World) (base:Nat) (args:Array Value) (ds gs:List (DataW H)) (before:List MemPlace),
   (∀(j:Nat) t v,fn.params[j]? =some t->args[j]? =some v->Value.okWide C.prog W .any base t v) ->
   DataW.Whole enc C.prog fn.params.toList s.vars apart W args.toList ds gs before->W.ShapedOpen C.prog->X W args ->
   Calls C.prog f args W fun e W'=> ∃ v,e= .returned v/\s.post enc C.prog fn apart fresh handsOn again W args v W') :
 ReturnsInHanded a C os f .any (fun w args=>(s.pre enc C.prog fn conds apart w args/\X w args)/\sizedMet enc C.prog fn (OpenSpec.ofChange s) apart w args) (s.post enc C.prog fn apart fresh handsOn again):=by
 refine returnsInHanded_of_calls own started noInit witness ?_;intro w tape i _ hsh _ hok hpre _;obtain⟨_,_,_,fn',hfn',_,_,_,_,hval⟩:=hok;obtain rfl:=EM (hfn'.symm.trans hfn);obtain⟨⟨⟨ds,gs,before,hw,_⟩,hx⟩,_⟩:=hpre;refine(contract (w.forCall tape i) w.heap.size i.args ds gs before hval (DataW.Whole.of_heap (w':=w.forCall tape i) (by rfl) hw) hsh (hX _ _ _ (by rfl) hx)).mono fun e W' ⟨v,he,hp⟩=> ?_;subst he;exact ChangeSpec.post_blind hp
end
end Go.Proofs.YtpaimpmokhihmaaGreatDoor.Vm
