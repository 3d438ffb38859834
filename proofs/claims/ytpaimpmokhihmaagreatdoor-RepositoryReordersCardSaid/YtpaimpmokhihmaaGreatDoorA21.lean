import Derived.Test.YtpaimpmokhihmaaGreatDoorA17
set_option linter.all false
namespace Go.Proofs.YtpaimpmokhihmaaGreatDoor.Vm
open IntKind (i64 u8 u32 u64)
open Go
def w64 {x:Int} (h1: -9223372036854775808<=x:=by omega) (h2:x<=9223372036854775807:=by omega):i64.wrap x=x:=by
 have e:i64.wrap x=if 9223372036854775808<=x % 18446744073709551616 then x % 18446744073709551616 - 18446744073709551616 else x % 18446744073709551616:=by show(if(true&&decide (x % 18446744073709551616>=9223372036854775808))=true then _ else _)=_;simp only[Bool.true_and,Eh,ge_iff_le];rfl
 rw[e];split<;>omega
def AeF {ρ :Type} (p:Prop) [Decidable p] (k:Option ρ):chk (decide p) k=if p then k else none:=by by_cases h:p<;>simp [chk,h]
def AgW {ρ :Type} (k:Option ρ):chk true k=k:=rfl
def AeA {α :Type} (p:Prop) [Decidable p] (a b: α):(bif decide p then a else b)=if p then a else b:=by by_cases h:p<;>simp [h]
def XI {α ρ :Type} [Inhabited α] (a: α) (k: α ->Option ρ):Jn (some a) k=k a:=rfl
def Ahl {X Y ρ :Type} (B:X->(X->Option ρ)->(Y->Option ρ)->Option ρ) (n:Nat) (x:X) (kx:Y->Option ρ):Jw B (n+1) x kx=B x (fun x'=>Jw B n x' kx) kx:=rfl
def QG {X Y ρ :Type} {B:X->(X->Option ρ)->(Y->Option ρ)->Option ρ} {kx:Y->Option ρ} (I:X->Prop) (μ :X->Nat) (F:X->Option ρ)
 (h: ∀ x,I x-> ∀ k:X->Option ρ,(∀ x',I x'-> μ x'< μ x->k x'=F x')->B x k kx=F x): ∀(N:Nat) (x:X),I x-> μ x<N->Jw B N x kx=F x:=by
 intro N
 induction N with
 | zero=>intro x _ h;omega
 | succ N ih=>intro x hI hm;exact h x hI _ (fun x' hI' hm'=>ih x' hI' (by omega))
def Aa_r {ρ:Type} (b:Bool) (k:Option ρ):Aa b k=chk (b||!b) k:=rfl
def Aa_e {ρ:Type} (b:Bool) (k:Option ρ):Aa b k=k:=by cases b<;>rfl
def Ac_r {ρ:Type} (b:Bool) (k:Option ρ):Ac b k=chk (b||!b) (chk (b||!b) k):=rfl
def Ac_e {ρ:Type} (b:Bool) (k:Option ρ):Ac b k=k:=by cases b<;>rfl
def Ad_r {ρ:Type} (b:Bool) (k:Option ρ):Ad b k=chk (b||!b) (chk (b||!b) (chk (b||!b) k)):=rfl
def Ad_e {ρ:Type} (b:Bool) (k:Option ρ):Ad b k=k:=by cases b<;>rfl
def Ae_r {ρ:Type} (b:Bool) (k:Option ρ):Ae b k=chk (b||!b) (chk (b||!b) (chk (b||!b) (chk (b||!b) k))):=rfl
def Ae_e {ρ:Type} (b:Bool) (k:Option ρ):Ae b k=k:=by cases b<;>rfl
def Af_r {ρ:Type} (b:Bool) (k:Option ρ):Af b k=chk (b||!b) (chk (b||!b) (chk (b||!b) (chk (b||!b) (chk (b||!b) k)))):=rfl
def Af_e {ρ:Type} (b:Bool) (k:Option ρ):Af b k=k:=by cases b<;>rfl
def Ag_r {ρ:Type} (b:Bool) (k:Option ρ):Ag b k=chk (b||!b) (chk (b||!b) (chk (b||!b) (chk (b||!b) (chk (b||!b) (chk (b||!b) k))))):=rfl
def Ag_e {ρ:Type} (b:Bool) (k:Option ρ):Ag b k=k:=by cases b<;>rfl
def Ah_r {ρ:Type} (b:Bool) (k:Option ρ):Ah b k=chk (bif b then b else true) (chk (bif b then true else true) k):=rfl
def Ah_e {ρ:Type} (b:Bool) (k:Option ρ):Ah b k=k:=by cases b<;>rfl
def Ai_r {ρ:Type} (b:Bool) (k:Option ρ):Ai b k=chk (bif b then true else !b) (chk (bif b then true else true) k):=rfl
def Ai_e {ρ:Type} (b:Bool) (k:Option ρ):Ai b k=k:=by cases b<;>rfl
def Aj_r {ρ:Type} (i:Int) (n:Nat) (k:Option ρ):Aj i n k=chk (decide (0<=i)) (chk (decide (i<(n:Int))) k):=rfl
def Aj_e {ρ:Type} (i:Int) (n:Nat) (k:Option ρ):Aj i n k=chk (decide (0<=i)) (chk (decide (i<(n:Int))) k):=rfl
def Ak_r {ρ:Type} (p:Prop) [Decidable p] (k:Option ρ):Ak p k=chk (decide p) k:=rfl
def Ak_e {ρ:Type} (p:Prop) [Decidable p] (k:Option ρ):Ak p k=chk (decide p) k:=rfl
def Am_r {ρ:Type} (n:Nat) (k:Option ρ):Am n k=chk (decide (n<=140737488355328)) k:=rfl
def Am_e {ρ:Type} (n:Nat) (k:Option ρ):Am n k=chk (decide (n<=140737488355328)) k:=rfl
def CW_e {a b c d e:Type} (x:a×b×c×d×e):CW x=x.2.2.2.2:=rfl
def CX_e {a b c d e f g h i:Type} (x:a×b×c×d×e×f×g×h×i):CX x=x.2.2.2.2.2.2.2.2:=rfl
def CY_e {a b c d e f g h i j k l m:Type} (x:a×b×c×d×e×f×g×h×i×j×k×l×m):CY x=x.2.2.2.2.2.2.2.2.2.2.2.2:=rfl
def CZ_e {a b c d e f g h i j k l m n o p q:Type} (x:a×b×c×d×e×f×g×h×i×j×k×l×m×n×o×p×q):CZ x=x.2.2.2.2.2.2.2.2.2.2.2.2.2.2.2.2:=rfl
def Dc_e {a b c d e f g h i j k l m n o p q r s t u:Type} (x:a×b×c×d×e×f×g×h×i×j×k×l×m×n×o×p×q×r×s×t×u):Dc x=x.2.2.2.2.2.2.2.2.2.2.2.2.2.2.2.2.2.2.2.2:=rfl
def Df_e {a b c d e f g h i j k l m n o p q r s t u v w x y:Type} (x:a×b×c×d×e×f×g×h×i×j×k×l×m×n×o×p×q×r×s×t×u×v×w×x×y):Df x=x.2.2.2.2.2.2.2.2.2.2.2.2.2.2.2.2.2.2.2.2.2.2.2.2:=rfl
def Dh_e {a b c d e f g h i j k l m n o p q r s t u v w x y z A B C:Type} (x:a×b×c×d×e×f×g×h×i×j×k×l×m×n×o×p×q×r×s×t×u×v×w×x×y×z×A×B×C):Dh x=x.2.2.2.2.2.2.2.2.2.2.2.2.2.2.2.2.2.2.2.2.2.2.2.2.2.2.2.2:=rfl
def Ap:=And.intro @Dh_e (And.intro @Df_e (And.intro @Dc_e (And.intro @CZ_e (And.intro @CY_e (And.intro @CX_e (And.intro @CW_e (And.intro @Am_r (And.intro @Ak_r (And.intro @Aj_r (And.intro @Ai_r (And.intro @Ah_r (And.intro @Ag_r (And.intro @Af_r (And.intro @Ae_r (And.intro @Ad_r (And.intro @Ac_r (@Aa_r)))))))))))))))))
end Go.Proofs.YtpaimpmokhihmaaGreatDoor.Vm
namespace Go.Proofs.YtpaimpmokhihmaaGreatDoor.Pl
open IntKind (i64 u8 u32 u64)
open Go Vm
def N0:Nat:=2097152
abbrev PsT:=Int×Bs×Bs×Bs×Bs
abbrev KyT:=Bs×Bs×Bs×Bs
def sN (i:Nat):Bs:=(JG N0 (i:Int)).getD []
def okN (i:Nat):Bool:=(JG N0 (i:Int)).isSome&& !(sN i).isEmpty&&(match KA N0 (sN i)with | some r=>r.2==0&&r.1.2.2.2.2.2.1==(i:Int) | none=>false)
set_option maxRecDepth 100000
def Ai0:(List.range 8).all (fun i=>okN (i+1))=true:=by kernel_rfl
def Ai1:(List.range 8).all (fun i=>okN (i+9))=true:=by kernel_rfl
def Ai2:(List.range 8).all (fun i=>okN (i+17))=true:=by kernel_rfl
def Ai3:(List.range 8).all (fun i=>okN (i+25))=true:=by kernel_rfl
def Ai4:(List.range 8).all (fun i=>okN (i+33))=true:=by kernel_rfl
def Ai5:(List.range 8).all (fun i=>okN (i+41))=true:=by kernel_rfl
def Ai6:(List.range 8).all (fun i=>okN (i+49))=true:=by kernel_rfl
def Ai7:(List.range 8).all (fun i=>okN (i+57))=true:=by kernel_rfl
def Ai8:(List.range 3).all (fun i=>okN (i+65))=true:=by kernel_rfl
def AhT {i:Nat} (h1:1<=i) (h2:i<=67):okN i=true:=by
 have go: ∀ a n,a<=i->i<a+n->(List.range n).all (fun i=>okN (i+a))=true->okN i=true:=fun a n g1 g2 g3=>by have:=DK.1 g3 (i - a) (EK.2 (by omega));rwa [show i - a+a=i by omega]at this
 by_cases g0:i<9
 .exact go 1 8 (by omega) (by omega) Ai0
 by_cases g1:i<17
 .exact go 9 8 (by omega) (by omega) Ai1
 by_cases g2:i<25
 .exact go 17 8 (by omega) (by omega) Ai2
 by_cases g3:i<33
 .exact go 25 8 (by omega) (by omega) Ai3
 by_cases g4:i<41
 .exact go 33 8 (by omega) (by omega) Ai4
 by_cases g5:i<49
 .exact go 41 8 (by omega) (by omega) Ai5
 by_cases g6:i<57
 .exact go 49 8 (by omega) (by omega) Ai6
 by_cases g7:i<65
 .exact go 57 8 (by omega) (by omega) Ai7
 by_cases g8:i<68
 .exact go 65 3 (by omega) (by omega) Ai8
 omega
structure Num (i:Nat):Prop where
 made:JG N0 (i:Int)=some (sN i)
 ne:(sN i).isEmpty=false
 dec: ∃ r,KA N0 (sN i)=some (r,0)/\r.2.2.2.2.2.1=(i:Int)
def Abj {i:Nat} (h1:1<=i) (h2:i<=67):Num i:=by
 have h:=AhT h1 h2;unfold okN at h;rw[Dn,Dn]at h;obtain⟨⟨a,b⟩,c⟩:=h;refine⟨?_,by simpa using b,?_⟩
 .unfold sN;cases hq:JG N0 (i:Int)with
  | none=>rw[hq]at a;cases a
  | some x=>rfl
 .cases hd:KA N0 (sN i)with
  | none=>rw[hd]at c;cases c
  | some r =>rw[hd]at c;have c:(r.2==0&&r.1.2.2.2.2.2.1==(i:Int))=true:=c;rw[Dn,FD,FD]at c;exact⟨r.1,by rw[<- c.1],c.2⟩
def AgS:N0=2097144+8:=rfl
def AfQ:N0=2097151+1:=rfl
attribute [irreducible] N0 sN
def Aie {i j:Nat} (hi:Num i) (hj:Num j) (h:sN i=sN j):i=j:=by obtain⟨r,h1,h2⟩:=hi.dec;obtain⟨q,h3,h4⟩:=hj.dec;rw[h,h3]at h1;injection h1 with h1;injection h1 with h1 _;subst h1;rw[h2]at h4;exact Int.ofNat.inj h4
def kyN (i:Nat):KyT:=([],sN i,[],[])
def psN (t:Int) (i:Nat):PsT:=(t,[],sN i,[],[])
def JZ {ρ :Type} {c:Bool} (k:Option ρ) (h:c=true):chk c k=k:=by rw[h];rfl
def Un {α :Type} {b:Bool} {x y: α} (h:b=true):(bif b then x else y)=x:=by rw[h];rfl
def P5 {α :Type} {b:Bool} {x y: α} (h:b=false):(bif b then x else y)=y:=by rw[h];rfl
def Ahn {i j:Nat}:Ty.same Tq7 (kyN i) (kyN j)=(sN i==sN j):=by show(([]==([]:Bs):Bool)&&((sN i==sN j)&&(([]==([]:Bs):Bool)&&(([]==([]:Bs):Bool)&&true))))=_;cases sN i==sN j<;>rfl
def Agh {M:Nat} {t:Int} {c:UInt8} {q:Bs} {r:Lj} (hd:KA (M+8) (c::q)=some (r,0)):NQ (M+8) (t,[],c::q,[],[])=some 0:=by
 unfold NQ;try simp -zeta only[Ap]
 refine Eq.trans (show _=(Jn (KA (M+8) (c::q)) fun r40=>some r40.2)from rfl) ?_;rw[hd];rfl
def AfA (M:Nat) (l:List PsT) (m:List (KyT×Int)) (t:Int) (c:UInt8) (q:Bs):JX (M+8) (l,m) (t,[],c::q,[],[]) =
 chk ((!(decide (t<(0:Int))))||(!(!(decide (t<(0:Int)))))) (chk ((!(decide (t<(0:Int))))||(!(!(decide (t<(0:Int)))))) (chk (bif decide (t<(0:Int))then true else !(decide (t<(0:Int)))) (chk (bif decide (t<(0:Int))then true else true)
 (bif (bif decide (t<(0:Int))then true else decide (t>(254033452799:Int)))then(some (12,(l,m)))
 else(Jn (NQ (M+8) (t,[],c::q,[],[])) fun r47 =>
  bif (r47 != (0:Int))then(some (r47,(l,m)))
  else(bif (NY Tq7 ((([]:Bs),c::q,([]:Bs),([]:Bs)):KyT) m).isSome then(some (10,(l,m)))
  else(bif decide ((l.length:Int)>=(1024:Int))then(some (2,(l,m)))
  else(chk (decide ((l.length+1)*73<=140737488355328))
   (some (0,(l++[(t,[],c::q,[],[])],P7 Tq7 ((([]:Bs),c::q,([]:Bs),([]:Bs)):KyT) (l.length:Int) m))))))))))):=by kernel_rfl
def Ahr {M:Nat} {l:List PsT} {m:List (KyT×Int)} {t:Int} {c:UInt8} {q:Bs} {r:Lj} (h0:0<=t) (h1:t<=254033452799) (hd:KA (M+8) (c::q)=some (r,0)) (hm:(NY Tq7 ((([]:Bs),c::q,([]:Bs),([]:Bs)):KyT) m).isSome=false) (hl:l.length<1024) :
 JX (M+8) (l,m) (t,[],c::q,[],[])=some (0,(l++[(t,[],c::q,[],[])],P7 Tq7 ((([]:Bs),c::q,([]:Bs),([]:Bs)):KyT) (l.length:Int) m)):=by
 rw[AfA,Ef (show ¬ t<0 by omega),Ef (show ¬ t>254033452799 by omega)];refine(JZ _ (by rfl)).trans ?_;refine(JZ _ (by rfl)).trans ?_;refine(JZ _ (by rfl)).trans ?_;refine(JZ _ (by rfl)).trans ?_;refine(P5 (by rfl)).trans ?_;refine(LQ (Agh hd) _).trans ?_;refine(P5 (by rfl)).trans ?_;refine(P5 hm).trans ?_;refine(P5 (Ef (show ¬(l.length:Int)>=1024 by omega))).trans ?_;exact JZ _ (D8 (show(l.length+1)*73<=140737488355328 by omega))
structure Rep (ps:List PsT) (m:List (KyT×Int)) (L:List (Int×Nat)):Prop where
 items:ps=L.map fun p=>psN p.1 p.2
 keys: ∀ e∈m,∃ p∈L,e.1=kyN p.2
 num: ∀ p∈L,Num p.2
def Aft {m:List (KyT×Int)} {k:KyT} (h: ∀ e∈m,Ty.same Tq7 k e.1=false):(NY Tq7 k m).isSome=false:=by
 induction m with
 | nil=>rfl
 | cons e m ih =>show(bif Ty.same Tq7 k e.1 then some e.2 else NY Tq7 k m).isSome=false;rw[h e Dp,cond_false];exact ih fun e he=>h e (Dq _ he)
def Afv {m:List (KyT×Int)} {k:KyT} {v:Int}: ∀ e:KyT×Int,e∈(show List (KyT×Int)from P7 Tq7 k v m)->e.1=k\/ ∃ f∈m,e.1=f.1:=by
 induction m with
 | nil =>intro e he;have he:=(Ee (α :=KyT×Int) (a:=e) (b:=(k,v))).1 he;exact .inl (by rw[he])
 | cons a m ih =>
  intro e he;have he:e∈(bif Ty.same Tq7 k a.1 then(a.1,v)::m else a::P7 Tq7 k v m):=he;cases hs:Ty.same Tq7 k a.1 with
  | true =>
   rw[hs,cond_true]at he;rcases Dz.1 he with rfl | he
   .exact .inr ⟨a,Dp,rfl⟩
   .exact .inr ⟨e,Dq _ he,rfl⟩
  | false =>
   rw[hs,cond_false]at he;rcases Dz.1 he with rfl | he
   .exact .inr ⟨e,Dp,rfl⟩
   .rcases ih e he with h | ⟨f,hf,h⟩
    .exact .inl h
    .exact .inr ⟨f,Dq _ hf,h⟩
def Ag7 {ps:List PsT} {m:List (KyT×Int)} {L:List (Int×Nat)} (h:Rep ps m L) {t:Int} {i:Nat} (hi:Num i) (h0:0<=t) (h1:t<=254033452799) (hn: ∀ p∈L,p.2≠i) (hl:L.length<1024) :
 ∃ m',JX N0 (ps,m) (t,[],sN i,[],[])=some (0,(ps++[psN t i],m'))/\Rep (ps++[psN t i]) m' (L++[(t,i)]):=by
 obtain⟨r,hd,_⟩:=hi.dec;have hm:(NY Tq7 (kyN i) m).isSome=false:=Aft fun e he=>by obtain⟨p,hp,hk⟩:=h.keys e he;rw[hk,Ahn,Gl];exact fun e=>hn p hp (Aie (h.num p hp) hi e.symm)
 refine⟨P7 Tq7 (kyN i) (ps.length:Int) m,?_,?_,?_,?_⟩
 .have hne:=hi.ne;unfold kyN at hm ⊢;unfold psN;cases hs:sN i with
  | nil=>rw[hs]at hne;cases hne
  | cons c q =>rw[hs]at hm hd;rw[AgS]at hd ⊢;exact Ahr h0 h1 hd hm (by rw[h.items];simpa using hl)
 .rw[h.items,Et];rfl
 .intro e he;rcases Afv e he with hk | ⟨f,hf,hk⟩
  .exact⟨(t,i),by simp,hk⟩
  .obtain⟨p,hp,hk'⟩:=h.keys f hf;exact⟨p,Dx _ hp,hk.trans hk'⟩
 .intro p hp;rcases DI.1 hp with hp | hp
  .exact h.num p hp
  .rw[Ee]at hp;rw[hp];exact hi
def Ade:Rep [] [] []:=⟨rfl,fun e h=>(by cases h),fun p h=>(by cases h)⟩
def orN (b:Bool):(b|| !b)=true:=by cases b<;>rfl
def AiH (b:Bool):(bif b then b else true)=true:=by cases b<;>rfl
def Aiq (b:Bool):(bif b then true else true)=true:=by cases b<;>rfl
def getD_at {α :Type} {l:List α} {i:Nat} (d: α) (h:i<l.length):l.getD i d=l[i]:=by simp [Di,h]
def take_at {α :Type} {l:List α} {i:Nat} (d: α) (h:i<l.length):l.take i++[l.getD i d]=l.take (i+1):=by rw[getD_at d h];simp
def Vq {i:Nat} (h:i<1000000:=by omega):i64.wrap ((i:Int)+1)=((i+1:Nat):Int):=by rw[w64];omega
def dPs:PsT:=(0,([]:Bs),([]:Bs),([]:Bs),([]:Bs))
def AbR (M:Nat) (ps:List PsT) (m:List (KyT×Int)) (T:Int):KU (M+1) (ps,m) (T,[]) =
 (Jw (X:=Int×List Yq1×(List (Yq0×Int))×Int×List Int×(List (Int×Bool))×List Yq1) (Y:=(List Yq1×(List (Yq0×Int))×List Yq1)) (U7 fun t29c l101c m102c b33536_0c b33536_1c m36096c l1008192c k3 x4 =>
 bif decide (t29c<(ps.length:Int))then(chk (decide ((0:Int)<=t29c)) <|
 chk (decide (t29c<(l101c.length:Int))) <|
 chk (decide (t29c.toNat<l101c.length)) <|
 let x35:Int:=(l101c.getD t29c.toNat (0,([]:Bs),([]:Bs),([]:Bs),([]:Bs))).1
 chk (((decide (x35<=b33536_0c))||(!(decide (x35<=b33536_0c))))) <|
 chk (((decide (x35<=b33536_0c))||(!(decide (x35<=b33536_0c))))) <|
 chk (((decide (x35<=b33536_0c))||(!(decide (x35<=b33536_0c))))) <|
 chk (bif decide (x35<=b33536_0c)then decide (x35<=b33536_0c)else true) <|
 chk (bif decide (x35<=b33536_0c)then true else true) <|
 let x44:Bool:=bif decide (x35<=b33536_0c)then !((NY (.int .i64 .nil) t29c m36096c).getD false)else false
 bif x44 then(chk (decide ((l1008192c.length+1)*73<=140737488355328)) <|
 let y45056:List Yq1:=l1008192c++([(l101c.getD t29c.toNat (0,([]:Bs),([]:Bs),([]:Bs),([]:Bs)))]:List Yq1)
 k3 (i64.wrap (t29c+(1:Int)),l101c,m102c,b33536_0c,b33536_1c,m36096c,y45056))
 else(k3 (i64.wrap (t29c+(1:Int)),l101c,m102c,b33536_0c,b33536_1c,m36096c,l1008192c)))
 else(x4 (l101c,m102c,l1008192c)))
 (M+1) (0,ps,m,T,([]:List Int),([]:List (Int×Bool)),([]:List Yq1)) (U3 fun l101d m102d l1012288d =>
 some (l1012288d,(l101d,m102d)))):=by kernel_rfl
def Ae3 {M:Nat} {ps:List PsT} {m:List (KyT×Int)} {T:Int} (hM:2000<M) (hl:ps.length<=1024) (hT: ∀ p∈ps,p.1<=T):KU (M+1) (ps,m) (T,[])=some (ps,(ps,m)):=by
 rw[AbR];refine QG (X:=Int×List Yq1×(List (Yq0×Int))×Int×List Int×(List (Int×Bool))×List Yq1) (fun x=> ∃ i:Nat,i<=ps.length/\x=((i:Int),ps,m,T,([]:List Int),([]:List (Int×Bool)),ps.take i)) (fun x=>ps.length - x.1.toNat) (fun _=>some (ps,(ps,m))) ?_ (M+1) _ ⟨0,EJ _,rfl⟩ (by show ps.length - 0<M+1;omega);rintro _ ⟨i,hi,rfl⟩ k hk;by_cases h:i<ps.length
 .have hx:decide ((ps.getD i dPs).1<=T)=true:=D8 (by rw[getD_at dPs h];exact hT _ (EE h));refine(Un (D8 (show(i:Int)<(ps.length:Int) by omega))).trans ?_;refine(JZ _ (D8 (show(0:Int)<=(i:Int) by omega))).trans ?_;refine(JZ _ (D8 (show(i:Int)<(ps.length:Int) by omega))).trans ?_;refine(JZ _ (D8 (show i<ps.length from h))).trans ?_;refine(JZ _ (orN _)).trans ?_;refine(JZ _ (orN _)).trans ?_;refine(JZ _ (orN _)).trans ?_;refine(JZ _ (AiH _)).trans ?_;refine(JZ _ (Aiq _)).trans ?_;refine(Un (show(bif decide ((ps.getD i dPs).1<=T)then _ else false)=true by rw[hx];rfl)).trans ?_;refine(JZ _ (D8 (show((ps.take i).length+1)*73<=140737488355328 by rw[En];omega))).trans ?_;show k (i64.wrap ((i:Int)+1),ps,m,T,([]:List Int),([]:List (Int×Bool)),ps.take i++[ps.getD i dPs])=_;rw[Vq,take_at dPs h];exact hk _ ⟨i+1,h,rfl⟩ (by show ps.length - (i+1)<ps.length - i;omega)
 .have he:i=ps.length:=by omega
  subst he;refine(P5 (Ef (show ¬(ps.length:Int)<(ps.length:Int) by omega))).trans ?_;show some (ps.take ps.length,(ps,m))=_;rw[EZ]
def AeN {α :Type} (l:List α) (a:Nat):J7 l a l.length=l.drop a:=by unfold J7;rw[EZ]
def nmA:List Yq4:=(SX 2097152 0).getD []
def tN (i:Nat):Bs:=((KA N0 (sN i)).getD default).1.2.1
def dNn (r t:Bs) (i:Int):Lj:=(r,t,nmA,1,9,i,-1,([]:Bs),false,([]:List Yq8),false,false,0,false,([]:List JL),([]:List Yq9),([110,111,32,115,105,103,110,97,116,117,114,101]:Bs))
def dN (i:Nat):Lj:=dNn (sN i) (tN i) (i:Int)
set_option maxRecDepth 100000
def Ait:KA N0 (sN 1)=some (dN 1,0):=by kernel_rfl
def Aiu:KA N0 (sN 2)=some (dN 2,0):=by kernel_rfl
def Aiv:KA N0 (sN 3)=some (dN 3,0):=by kernel_rfl
def Aiw:KA N0 (sN 4)=some (dN 4,0):=by kernel_rfl
def Aix:KA N0 (sN 5)=some (dN 5,0):=by kernel_rfl
def Aiy:KA N0 (sN 6)=some (dN 6,0):=by kernel_rfl
def AhD {i:Nat} (h1:1<=i) (h2:i<=6):KA N0 (sN i)=some (dN i,0):=by
 have:i=1\/i=2\/i=3\/i=4\/i=5\/i=6:=by omega
 rcases this with rfl | rfl | rfl | rfl | rfl | rfl
 .exact Ait
 .exact Aiu
 .exact Aiv
 .exact Aiw
 .exact Aix
 .exact Aiy
def Aep (r t r' t':Bs) (i i':Int):MP N0 (dNn r t i) (dNn r' t' i')=some true:=by kernel_rfl
def AfG (i j:Nat):MP N0 (dN i) (dN j)=some true:=Aep _ _ _ _ _ _
attribute [irreducible] tN nmA
def c1 (b8 b9:Bool):((bif b9 then((true&&(!b8))&&b9)else true)||(!(true&&(!b8))))=true:=by cases b8<;>cases b9<;>rfl
def c2 (b8 b9:Bool):((bif b9 then true else true)||(!(true&&(!b8))))=true:=by cases b8<;>cases b9<;>rfl
def c3 (b8:Bool):((bif b8 then true else(true&&(!b8)))||(!true))=true:=by cases b8<;>rfl
def c4 (b8:Bool):((bif b8 then true else true)||(!true))=true:=by cases b8<;>rfl
def d11:Lj:=(([]:Bs),([]:Bs),([]:List Yq4),0,0,0,0,([]:Bs),false,([]:List Yq8),false,false,0,false,([]:List JL),([]:List Yq9),([]:Bs))
def big (L:List (Int×Nat)) (a:Nat):Bool:=L.any fun q=>decide ((q.2:Int)>(a:Int))
def left (L:List (Int×Nat)) (i:Nat):List Bs:=((L.take i).filter fun p=> !(big L p.2)).map fun p=>sN p.2
def Ag4 {L:List (Int×Nat)} (h:(L.map (·.2)).Nodup) {i k:Nat} (hi:i<L.length) (hk:k<L.length) (he:L[k].2=L[i].2):k=i:=by
 have hp:=List.pairwise_iff_getElem.1 h;rcases G5 k i with hlt | heq | hgt
 .exact absurd (show(L.map (·.2))[k]'(by simpa using hk)=(L.map (·.2))[i]'(by simpa using hi) by rw[EF,EF];exact he) (hp k i (by simpa using hk) (by simpa using hi) hlt)
 .exact heq
 .exact absurd (show(L.map (·.2))[i]'(by simpa using hi)=(L.map (·.2))[k]'(by simpa using hk) by rw[EF,EF];exact he.symm) (hp i k (by simpa using hi) (by simpa using hk) hgt)
def Agz {L:List (Int×Nat)} {n:Nat} (hn:(L.map (·.2)).Nodup) (h1: ∃ p∈L,p.2=n) (h2: ∀ p∈L,p.2<=n):left L L.length=[sN n]:=by
 have hb: ∀ p∈L,(!(big L p.2))=(p.2==n):=fun p hp=>by
  obtain⟨q,hq,hqn⟩:=h1;by_cases hpn:p.2=n
  .have:big L p.2=false:=by
    unfold big;rw[Fh];intro x hx;have:=h2 x hx;simp;omega
   rw[this,hpn];simp
  .have:big L p.2=true:=by
    unfold big;rw[EX];exact⟨q,hq,D8 (by have:=h2 p hp;omega)⟩
   rw[this];simp [hpn]
 unfold left;rw[EZ,List.filter_congr hb]
 have key: ∀ L:List (Int×Nat),(L.map (·.2)).Nodup->(∃ p∈L,p.2=n)->(L.filter fun p=>p.2==n).map (fun p=>sN p.2)=[sN n]:=by
  intro L
  induction L with
  | nil=>intro _ ⟨p,hp,_⟩;cases hp
  | cons x L ih =>
   intro hn ⟨p,hp,hpn⟩;rw[DY,GV]at hn;by_cases hx:x.2=n
   .have hno:L.filter (fun p=>p.2==n)=[]:=by
     rw[List.filter_eq_nil_iff];intro y hy hyn;have hyn:y.2=n:=by simpa using hyn
     exact hn.1 (D6.2 ⟨y,hy,by rw[hyn,hx]⟩)
    rw[GH,Dw (by simp [hx]),hno];simp [hx]
   .rw[GH,Du (by simp [hx])];refine ih hn.2 ⟨p,?_,hpn⟩;rcases Dz.1 hp with rfl | hp
    .exact absurd hpn hx
    .exact hp
 exact key L hn h1
def Air {L:List (Int×Nat)} {a j:Nat} (h:j<L.length):big (L.take (j+1)) a=(big (L.take j) a||decide ((L[j].2:Int)>(a:Int))):=by unfold big;rw[Fq h,List.any_append,List.any_cons,List.any_nil,Gg]
def AhO {L:List (Int×Nat)} {i:Nat} (h:i<L.length):left L (i+1)=bif big L L[i].2 then left L i else left L i++[sN L[i].2]:=by
 unfold left;rw[Fq h,List.filter_append,Et];cases hb:big L L[i].2 with
 | true=>simp [hb]
 | false=>simp [hb]
def lQ {L:List (Int×Nat)} {k:Nat} (h:k<L.length):(L.map fun p=>dN p.2).getD k d11=dN L[k].2:=by rw[getD_at _ (by rw[D5];exact h),EF]
def AhH (v:Lj) (a:Nat) (hv:v=dN a) (ps:List PsT) (m:List (KyT×Int)) (ds:List Lj) (out:List Bs) :
 ((false,(0:Int),ps,m,v.1,v.2.1,v.2.2.1,v.2.2.2.1,v.2.2.2.2.1,v.2.2.2.2.2.1,v.2.2.2.2.2.2.1,v.2.2.2.2.2.2.2.1,v.2.2.2.2.2.2.2.2.1,v.2.2.2.2.2.2.2.2.2.1,v.2.2.2.2.2.2.2.2.2.2.1,v.2.2.2.2.2.2.2.2.2.2.2.1,v.2.2.2.2.2.2.2.2.2.2.2.2.1,v.2.2.2.2.2.2.2.2.2.2.2.2.2.1,v.2.2.2.2.2.2.2.2.2.2.2.2.2.2.1,v.2.2.2.2.2.2.2.2.2.2.2.2.2.2.2.1,v.2.2.2.2.2.2.2.2.2.2.2.2.2.2.2.2,ds,out):Bool×Int×List Yq1×(List (Yq0×Int))×Bs×Bs×List Yq4×Int×Int×Int×Int×Bs×Bool×List Yq8×Bool×Bool×Int×Bool×List JL×List Yq9×Bs×List Lj×List Bs)=(false,0,ps,m,sN a,tN a,nmA,1,9,(a:Int),-1,([]:Bs),false,([]:List Yq8),false,false,0,false,([]:List JL),([]:List Yq9),([110,111,32,115,105,103,110,97,116,117,114,101]:Bs),ds,out):=by rw[hv];rfl
def AdP {M:Nat} (hM:3000<M) {ps:List PsT} {m:List (KyT×Int)} {L:List (Int×Nat)} (h:Rep ps m L) (hl:L.length<=1000) (hd: ∀ p∈L,KA (M+1) (sN p.2)=some (dN p.2,0)) (hser: ∀ i j,MP (M+1) (dN i) (dN j)=some true) (hT: ∀ p∈L,p.1<=100) (hn:(L.map (·.2)).Nodup) :
 JS (M+1) (ps,m) (100,[])=some (left L L.length,(ps,m)):=by
 have hL:ps.length=L.length:=by rw[h.items,D5]
 have hV:=Ae3 (M:=M) (ps:=ps) (m:=m) (T:=100) (by omega) (by omega) (fun p hp=>by rw[h.items]at hp;obtain⟨e,he,rfl⟩:=D6.1 hp;exact hT e he);unfold JS;try simp -zeta only[Ap]
 refine(LQ hV _).trans ?_
 refine QG (X:=Int×List Yq1×(List (Yq0×Int))×List Lj) (fun x=> ∃ i:Nat,i<=L.length/\x=((i:Int),ps,m,(L.map fun p=>dN p.2).take i)) (fun x=>2000 - x.1.toNat)
  (fun _=>some (left L L.length,(ps,m))) ?_ (M+1) _ ⟨0,EJ _,rfl⟩ (by show 2000 - 0<M+1;omega)
 rintro _ ⟨i,hi,rfl⟩ k hk;by_cases hlt:i<L.length
 .have he:ps.getD i dPs=psN L[i].1 L[i].2:=by
   have hlt':i<ps.length:=by omega
   rw[getD_at dPs hlt'];have:ps[i]=(L.map fun p=>psN p.1 p.2)[i]'(by rw[D5];exact hlt):=by congr 1;exact h.items
   rw[this,EF]
  have hne:(sN L[i].2==([]:Bs))=false:=by
   have:=(h.num _ (EE hlt)).ne;cases hs:sN L[i].2 with
   | nil=>rw[hs]at this;cases this
   | cons _ _=>rfl
  refine(Un (D8 (show(i:Int)<(ps.length:Int) by omega))).trans ?_;refine(JZ _ (D8 (show(0:Int)<=(i:Int) by omega))).trans ?_;refine(JZ _ (D8 (show(i:Int)<(ps.length:Int) by omega))).trans ?_;refine(P5 (show((ps.getD i dPs).2.2.1==([]:Bs))=false by rw[he];exact hne)).trans ?_;refine(LQ (a:=(dN L[i].2,(0:Int))) (by show KA (M+1) (ps.getD i dPs).2.2.1=_;rw[he];exact hd _ (EE hlt)) _).trans ?_;refine(Un (by rfl)).trans ?_;refine(JZ _ (D8 (show(((L.map fun p=>dN p.2).take i).length+1)*225<=140737488355328 by rw[En,D5];omega))).trans ?_;show k (i64.wrap ((i:Int)+1),ps,m,(L.map fun p=>dN p.2).take i++[dN L[i].2])=_;rw[Vq,<- lQ hlt,take_at _ (by rw[D5];exact hlt)];exact hk _ ⟨i+1,hlt,rfl⟩ (by show 2000 - (i+1)<2000 - i;omega)
 obtain rfl:i=L.length:=by omega
 refine(P5 (Ef (show ¬(L.length:Int)<(ps.length:Int) by omega))).trans ?_;clear hk k hi hlt;have htk:(L.map fun p=>dN p.2).take L.length=L.map fun p=>dN p.2:=by rw[<- D5 (f:=fun p:Int×Nat=>dN p.2),EZ]
 dsimp only[U3];rw[htk];have hdl:(L.map fun p=>dN p.2).length=L.length:=D5 _
 refine QG (X:=Int×List Yq1×(List (Yq0×Int))×List Lj×List Bs) (fun x=> ∃ i:Nat,i<=L.length/\x=((i:Int),ps,m,(L.map fun p=>dN p.2),left L i)) (fun x=>2000 - x.1.toNat)
  (fun _=>some (left L L.length,(ps,m))) ?_ (M+1) _ ⟨0,EJ _,rfl⟩ (by show 2000 - 0<M+1;omega)
 rintro _ ⟨i,hi,rfl⟩ k hk;by_cases hlt:i<L.length
 .refine(Un (D8 (show(i:Int)<((L.map fun p=>dN p.2).length:Int) by omega))).trans ?_;refine(JZ _ (D8 (show(0:Int)<=(i:Int) by omega))).trans ?_;refine(JZ _ (D8 (show(i:Int)<((L.map fun p=>dN p.2).length:Int) by omega))).trans ?_;refine(JZ _ (D8 (show i<(L.map fun p=>dN p.2).length by omega))).trans ?_;have hgi:=lQ hlt
  refine QG (X:=Bool×Int×List Yq1×(List (Yq0×Int))×Bs×Bs×List Yq4×Int×Int×Int×Int×Bs×Bool×List Yq8×Bool×Bool×Int×Bool×List JL×List Yq9×Bs×List Lj×List Bs) (fun x=> ∃ j:Nat,j<=L.length/\x=(big (L.take j) L[i].2,(j:Int),ps,m,sN L[i].2,tN L[i].2,nmA,1,9,(L[i].2:Int),-1,([]:Bs),false,([]:List Yq8),false,false,0,false,([]:List JL),([]:List Yq9),([110,111,32,115,105,103,110,97,116,117,114,101]:Bs),(L.map fun p=>dN p.2),left L i)) (fun x=>2000 - x.2.1.toNat)
   (fun _=>some (left L L.length,(ps,m))) ?_ (M+1) _ ⟨0,EJ _,AhH _ _ hgi ps m _ _⟩ (by show 2000 - 0<M+1;omega)
  rintro _ ⟨j,hj,rfl⟩ K hK;by_cases hjl:j<L.length
  .have hgj:=lQ hjl;refine(Un (D8 (show(j:Int)<((L.map fun p=>dN p.2).length:Int) by omega))).trans ?_;refine(JZ _ (D8 (show(0:Int)<=(j:Int) by omega))).trans ?_;refine(JZ _ (D8 (show(j:Int)<((L.map fun p=>dN p.2).length:Int) by omega))).trans ?_;refine(JZ _ (D8 (show j<(L.map fun p=>dN p.2).length by omega))).trans ?_;refine(LQ (a:=true) (by show MP (M+1) (dN L[i].2) ((L.map fun p=>dN p.2).getD j d11)=some true;rw[hgj];exact hser _ _) _).trans ?_;refine(SV _ _).trans ?_;refine(JZ _ (by rfl)).trans ?_;refine(JZ _ (by rfl)).trans ?_;refine(JZ _ (by rfl)).trans ?_;refine(JZ _ (by rfl)).trans ?_;refine(JZ _ (by rfl)).trans ?_;refine(SV _ _).trans ?_;refine(JZ _ (orN _)).trans ?_;refine(JZ _ (orN _)).trans ?_;refine(JZ _ (orN _)).trans ?_;refine(JZ _ (orN _)).trans ?_;refine(JZ _ (orN _)).trans ?_;refine(SV _ _).trans ?_;refine(JZ _ (orN _)).trans ?_;refine(JZ _ (orN _)).trans ?_;refine(JZ _ (orN _)).trans ?_;refine(JZ _ (c1 _ _)).trans ?_;refine(JZ _ (c2 _ _)).trans ?_;refine(SV _ _).trans ?_;refine(JZ _ (by rfl)).trans ?_;refine(JZ _ (c3 _)).trans ?_;refine(JZ _ (c4 _)).trans ?_;refine(SV _ _).trans ?_;refine(JZ _ (by rfl)).trans ?_;refine(JZ _ (by rfl)).trans ?_;refine(SV _ _).trans ?_;have hb:=Air (a:=L[i].2) hjl;have hx:((L.map fun p=>dN p.2).getD j d11).2.2.2.2.2.1=(L[j].2:Int):=by rw[hgj];rfl
   by_cases hgt:(L[j].2:Int)>(L[i].2:Int)
   .refine(Un (show(bif true then(bif decide (((L.map fun p=>dN p.2).getD j d11).2.2.2.2.2.1>(L[i].2:Int))then true else _)else false)=true by rw[hx,D8 hgt];rfl)).trans ?_;rw[D8 hgt,FN]at hb;show K (true,i64.wrap ((j:Int)+1),ps,m,sN L[i].2,tN L[i].2,nmA,1,9,(L[i].2:Int),-1,([]:Bs),false,([]:List Yq8),false,false,0,false,([]:List JL),([]:List Yq9),([110,111,32,115,105,103,110,97,116,117,114,101]:Bs),(L.map fun p=>dN p.2),left L i)=_;rw[Vq];exact hK _ ⟨j+1,hjl,by rw[hb]⟩ (by show 2000 - (j+1)<2000 - j;omega)
   .refine(P5 (show(bif true then(bif decide (((L.map fun p=>dN p.2).getD j d11).2.2.2.2.2.1>(L[i].2:Int))then true else(bif (((L.map fun p=>dN p.2).getD j d11).2.2.2.2.2.1==(L[i].2:Int))then decide ((j:Int)<(i:Int))else false))else false)=false by
     rw[hx,Ef hgt];by_cases he:(L[j].2:Int)=(L[i].2:Int)
     .have:=Ag4 hn hlt hjl (by omega);subst this;rw[Ef (Int.lt_irrefl _)];cases ((L[j].2:Int)==(L[j].2:Int))<;>rfl
     .rw[Gl.2 he];rfl)).trans ?_
    rw[Ef hgt,Gg]at hb;show K (big (L.take j) L[i].2,i64.wrap ((j:Int)+1),ps,m,sN L[i].2,tN L[i].2,nmA,1,9,(L[i].2:Int),-1,([]:Bs),false,([]:List Yq8),false,false,0,false,([]:List JL),([]:List Yq9),([110,111,32,115,105,103,110,97,116,117,114,101]:Bs),(L.map fun p=>dN p.2),left L i)=_;rw[Vq];exact hK _ ⟨j+1,hjl,by rw[hb]⟩ (by show 2000 - (j+1)<2000 - j;omega)
  .obtain rfl:j=L.length:=by omega
   refine(P5 (Ef (show ¬(L.length:Int)<((L.map fun p=>dN p.2).length:Int) by omega))).trans ?_;have hs:=AhO hlt;have hll:(left L i).length<=1000:=by unfold left;rw[D5];exact FK (List.length_filter_le _ _) (by rw[En];omega)
   dsimp only[U22];rw[EZ];cases hbb:big L L[i].2 with
   | true =>rw[hbb,cond_true]at hs;refine(P5 (by rfl)).trans ?_;show k (i64.wrap ((i:Int)+1),ps,m,(L.map fun p=>dN p.2),left L i)=_;rw[Vq,<- hs];exact hk _ ⟨i+1,hlt,rfl⟩ (by show 2000 - (i+1)<2000 - i;omega)
   | false =>rw[hbb,cond_false]at hs;refine(Un (by rfl)).trans ?_;refine(JZ _ (D8 (show((left L i).length+1)*17<=140737488355328 by omega))).trans ?_;show k (i64.wrap ((i:Int)+1),ps,m,(L.map fun p=>dN p.2),left L i++[sN L[i].2])=_;rw[Vq,<- hs];exact hk _ ⟨i+1,hlt,rfl⟩ (by show 2000 - (i+1)<2000 - i;omega)
 .obtain rfl:i=L.length:=by omega
  refine(P5 (Ef (show ¬(L.length:Int)<((L.map fun p=>dN p.2).length:Int) by omega))).trans ?_;rfl
end Go.Proofs.YtpaimpmokhihmaaGreatDoor.Pl
namespace Go.Proofs.YtpaimpmokhihmaaGreatDoor.Vm
open IntKind (i64 u8 u32 u64)
def getD_lt {α :Type} (l:List α) (i:Nat) (d: α) (h:i<l.length):l.getD i d=l[i]:=by rw[Di,D9 h];rfl
open Go
def getD_at {α :Type} {l:List α} {i:Nat} (d: α) (h:i<l.length):l.getD i d=l[i]:=getD_lt l i d h
section
variable {X Y E ρ :Type} {B:X->(X->Option ρ)->(Y->Option ρ)->Option ρ} {kx:Y->Option ρ}
end
section
variable {X Y E A ρ :Type} {B:X->(X->Option ρ)->(Y->Option ρ)->Option ρ} {kx:Y->Option ρ}
end
end Go.Proofs.YtpaimpmokhihmaaGreatDoor.Vm
namespace Go.Proofs.YtpaimpmokhihmaaGreatDoor.Pl
open IntKind (i64 u8 u32 u64)
open Go Vm
def Ends {α :Type} (Q: α ->Prop) (o:Option α):Prop:= ∃ v,o=some v/\Q v
def bU (L:List Int) (d:List Int×Int):Prop:= ∃ k:Nat,d=(L,(k:Int))/\k<=L.length
def Afw (N:Nat) {L:List Int} (hL:L.length<=9223372036854775807) {d:List Int×Int} (hd:bU L d) (n:Nat) (hn:0<n) (hn':n<2147483648) :
 Ends (fun r=>0<=r.1/\r.1<(n:Int)/\bU L r.2) (Mc N d (n:Int)):=by
 obtain⟨k,rfl,hk⟩:=hd;unfold Mc;try simp -zeta only[Ap]
 try dsimp only
 by_cases h:k<L.length
 .rw[AeA,Du,w64 (x:=(k:Int)+1),w64 (x:=(k:Int)+1 - 1),AeF,Ajk,AeF,Ajk];generalize L.getD _ _=x;have hne:((n:Int) != 0)=true:=by simp;omega
  rw[hne,AgW,AgW];have h1:=Gw x (show(0:Int)<(n:Int) by omega);have h2: -(n:Int)<x.tmod (n:Int):=Int.lt_tmod_of_pos x (by omega);rw[w64 (x:=x.tmod (n:Int)+(n:Int))];have h3:0<=(x.tmod (n:Int)+(n:Int)).tmod (n:Int):=Int.tmod_nonneg _ (by omega);have h4:=Gw (x.tmod (n:Int)+(n:Int)) (show(0:Int)<(n:Int) by omega);refine⟨_,rfl,h3,h4,k+1,by rw[show((k+1:Nat):Int)=(k:Int)+1 by omega],h⟩
 .rw[AeA,Ajk];exact⟨_,rfl,Int.le_refl _,by show(0:Int)<n;omega,k,rfl,hk⟩
section
variable (N:Nat) (hN:1048578<N) {L:List Int} (hL:L.length<=9223372036854775807)
include hL
theorem nx {d:List Int×Int} (hd:bU L d) (n:Int) (h0:0<n) (h1:n<2147483648):Ends (fun r=>0<=r.1/\r.1<n/\bU L r.2) (Mc N d n):=by
 have:=Afw N hL hd n.toNat (by omega) (by omega)
 rw[show((n.toNat:Nat):Int)=n by omega]at this;exact this
end
def Ahf:ND N0=some true:=by kernel_rfl
def LL (k:Nat):List (Int×Nat):=(List.range k).map fun i=>(((i+1:Nat):Int),i+1)
def Ae4 (k:Nat):(LL k).length=k:=by simp [LL]
def Ah3 (k:Nat):LL (k+1)=LL k++[(((k+1:Nat):Int),k+1)]:=by unfold LL;rw[GX,Et];rfl
def Aai {k:Nat} {p:Int×Nat} (h:p∈LL k):p.1=((p.2:Nat):Int)/\1<=p.2/\p.2<=k:=by obtain⟨i,hi,rfl⟩:=D6.1 h;have:=EK.1 hi;exact⟨rfl,by omega,by omega⟩
def Afp {ps:List PsT} {m:List (KyT×Int)} {L:List (Int×Nat)} {n:Nat} (h:Rep ps m L) (hl:L.length<=1000) (h6: ∀ p∈L,1<=p.2/\p.2<=n) (hn6:n<=6) (hT: ∀ p∈L,p.1<=100) (hn:(L.map (·.2)).Nodup) (hx: ∃ p∈L,p.2=n) :
 JS N0 (ps,m) (100,[])=some ([sN n],(ps,m)):=by
 have hs:=AfG;have hd: ∀ p∈L,KA N0 (sN p.2)=some (dN p.2,0):=fun p hp=>AhD (h6 p hp).1 (by have:=(h6 p hp).2;omega);rw[<- Agz hn hx (fun p hp=>(h6 p hp).2)];rw[AfQ]at hs hd ⊢;exact AdP (M:=2097151) (by omega) h hl hd hs hT hn
def AgE (M:Nat) (s:Bs):Nh (M+8) [s] [s]=some true:=by
 unfold Nh;try simp -zeta only[Ap]
 refine(P5 (by rfl)).trans ?_;refine(Ahl _ _ _ _).trans ?_;refine(Un (by rfl)).trans ?_;refine(JZ _ (by rfl)).trans ?_;refine(JZ _ (by rfl)).trans ?_;refine(JZ _ (by rfl)).trans ?_;refine(JZ _ (by rfl)).trans ?_;refine(P5 (show(!(s==s))=false by rw[GI];rfl)).trans ?_;rfl
def Ahu (s:Bs):Nh N0 [s] [s]=some true:=by rw[AgS];exact AgE _ _
def ints (A:List Nat):List Int:=A.map fun(i:Nat)=>(i:Int)
def AhE {N n:Nat} (h:JG N (n:Int)=some (sN n)) (hsame: ∀ s,Nh N [s] [s]=some true) (haw:ND N=some true) (r77 r80:List Bs×List PsT×List (KyT×Int)) (h1:r77.1=[sN n]) (h2:r80.1=[sN n]) (w:Int) (hw:w=(n:Int)) :
 (Jo (((r77.1.length:Int)==(1:Int))) fun b7 =>
  chk ((b7||(!b7))) <|
  chk (((decide ((0:Int)<(r77.1.length:Int)))||(!b7))) <|
  chk ((b7||(!b7))) <|
  chk ((b7||(!b7))) <|
  chk ((((JG N w).isSome)||(!b7))) <|
  let r89:=(JG N w).getD default
  chk ((b7||(!b7))) <|
  chk ((b7||(!b7))) <|
  chk (bif b7 then b7 else true) <|
  chk (bif b7 then true else true) <|
  Jo (bif b7 then((r77.1.getD 0 ([]:Bs))==r89)else false) fun b8 =>
  Jo (b8) fun b9 =>
  chk ((b9||(!b9))) <|
  chk ((b9||(!b9))) <|
  chk ((((Nh N r77.1 r80.1).isSome)||(!b9))) <|
  let r95:=(Nh N r77.1 r80.1).getD default
  chk (bif b9 then b9 else true) <|
  chk (bif b9 then true else true) <|
  Jo (bif b9 then r95 else false) fun b10 =>
  Jo (b10) fun b11 =>
  chk ((((ND N).isSome)||(!b11))) <|
  let r98:=(ND N).getD default
  chk (bif b11 then b11 else true) <|
  chk (bif b11 then true else true) <|
  Jo (bif b11 then r98 else false) fun b12 =>
  some b12)=some true:=by
 rw[h1,h2,hw,h,hsame,haw];have hb:(sN n==sN n)=true:=GI _;simp only[SV,List.length_cons,List.length_nil,Option.isSome_some,Option.getD_some,Gh,hb];rfl
structure AfO (n:Nat) (A:List Nat) (ps:List PsT) (m:List (KyT×Int)) (L:List (Int×Nat)):Prop where
 nd:A.Nodup
 ra: ∀ a∈A,1<=a/\a<=n
 rep:Rep ps m L
 rl: ∀ p∈L,p.1<=100/\1<=p.2/\p.2<=n
 nl:(L.map (·.2)).Nodup
 dis: ∀ a∈A,∀ p∈L,p.2≠a
 all: ∀ a,1<=a->a<=n->a∈A\/ ∃ p∈L,p.2=a
 len:L.length+A.length<=10
def AgJ {α :Type} {l:List α} {q:Nat} (h:q<l.length): ∃ B c C,l=B++c::C/\B.length=q:=⟨l.take q,l[q],l.drop (q+1),by rw[List.getElem_cons_drop,List.take_append_drop],by rw[En];omega⟩
def Agt {n:Nat} {B C:List Nat} {c:Nat} {ps ps':List PsT} {m m':List (KyT×Int)} {L:List (Int×Nat)} {t:Int} (h:AfO n (B++c::C) ps m L) (ht:t<=100) (hr:Rep ps' m' (L++[(t,c)])):AfO n (B++C) ps' m' (L++[(t,c)]):=by
 have hnd:=h.nd;rw[FB]at hnd;obtain⟨n1,n2,n3⟩:=hnd;rw[GV]at n2;have hc:=h.ra c (by simp);refine⟨?_,fun a ha=>h.ra a ?_,hr,?_,?_,?_,?_,?_⟩
 .rw[FB];exact⟨n1,n2.2,fun a ha b hb=>n3 a ha b (Dq _ hb)⟩
 .rcases DI.1 ha with ha | ha
  .exact Dx _ ha
  .exact Dy _ (Dq _ ha)
 .intro p hp;rcases DI.1 hp with hp | hp
  .exact h.rl p hp
  .rw[Ee]at hp;rw[hp];exact⟨ht,hc⟩
 .rw[Et,FB];refine⟨h.nl,by simp,fun a ha b hb=> ?_⟩;obtain⟨p,hp,rfl⟩:=D6.1 ha;have hb:b=c:=by simpa using hb
  rw[hb];exact h.dis c (by simp) p hp
 .intro a ha p hp;rcases DI.1 hp with hp | hp
  .refine h.dis a ?_ p hp;rcases DI.1 ha with ha | ha
   .exact Dx _ ha
   .exact Dy _ (Dq _ ha)
  .rw[Ee]at hp;rw[hp];rintro rfl;rcases DI.1 ha with ha | ha
   .exact n3 _ ha _ Dp rfl
   .exact n2.1 ha
 .intro a h1 h2;rcases h.all a h1 h2 with ha | ⟨p,hp,hpa⟩
  .rcases DI.1 ha with ha | ha
   .exact .inl (Dx _ ha)
   .rcases Dz.1 ha with rfl | ha
    .exact .inr ⟨(t,a),by simp,rfl⟩
    .exact .inl (Dy _ ha)
  .exact .inr ⟨p,Dx _ hp,hpa⟩
 .have:=h.len;simp only[Ed,List.length_cons,List.length_nil]at this ⊢;omega
def AfP (k:Nat):((LL k).map (·.2)).Nodup:=by
 have:(LL k).map (·.2)=(List.range k).map (· +1):=by unfold LL;rw[EN];rfl
 rw[this];have hr:(List.range k).Nodup:=GK;exact F9.2 (hr.imp fun h e=>h (by omega))
def AbE {N:Nat} (hN:4000<N) (hnum: ∀ i:Nat,1<=i->i<=67->JG N (i:Int)=some (sN i))
 (hpost: ∀ {ps:List PsT} {m:List (KyT×Int)} {L:List (Int×Nat)},Rep ps m L-> ∀ {t:Int} {i:Nat},Num i->0<=t->t<=254033452799->(∀ p∈L,p.2≠i)->L.length<1024 ->
   ∃ m',JX N (ps,m) (t,[],sN i,[],[])=some (0,(ps++[psN t i],m'))/\Rep (ps++[psN t i]) m' (L++[(t,i)]))
 (hlat: ∀ {ps:List PsT} {m:List (KyT×Int)} {L:List (Int×Nat)} {n:Nat},Rep ps m L->L.length<=1000->(∀ p∈L,1<=p.2/\p.2<=n)->n<=6->(∀ p∈L,p.1<=100)->(L.map (·.2)).Nodup->(∃ p∈L,p.2=n)->JS N (ps,m) (100,[])=some ([sN n],(ps,m)))
 (hsame: ∀ s,Nh N [s] [s]=some true) (haw:ND N=some true) (p0:List Int) (p1:Int) (hL:p0.length<=9223372036854775807):MJ N p0 p1=some true:=by
 obtain⟨⟨r,d⟩,hv,hr0,hr1,_⟩:=nx N (L:=[p1]) (by simp) (d:=([p1],0)) ⟨0,rfl,by simp⟩ 6 (by decide) (by decide);obtain⟨j,rfl⟩: ∃ j:Nat,r=(j:Int):=⟨r.toNat,by omega⟩
 have hr1:(j:Int)<6:=hr1;unfold MJ;try simp -zeta only[Ap]
 rw[show VP N ([p1]:List Int)=some ([p1],0)from rfl,XI,hv,XI,show VP N p0=some (p0,0)from rfl,XI,show OL N=some ([],[])from rfl,XI,XI];have hw:i64.wrap ((1:Int)+((j:Int),d).1)=((j+1:Nat):Int):=by rw[w64 (by show -9223372036854775808<=(1:Int)+j;omega) (by show(1:Int)+j<=_;omega)];show(1:Int)+j=_;omega
 rw[hw];refine QG (X:=Int×List Int×Int×List Yq1×(List (Yq0×Int))×(List (Yq0×Int))×List Yq1) (fun x=> ∃(k:Nat) (m:List (KyT×Int)) (ps:List PsT),k<=j+1/\x=(((k+1:Nat):Int),p0,0,([]:List PsT),([]:List (KyT×Int)),m,ps)/\Rep ps m (LL k)) (fun x=>100 - x.1.toNat) (fun _=>some true) ?_ N _ ⟨0,[],[],EJ _,rfl,Ade⟩ (by show 100 - 1<N;omega);rintro _ ⟨k,m,ps,hk,rfl,hR⟩ K hK;by_cases h:k<j+1
 .have hI:=Abj (i:=k+1) (by omega) (by omega);obtain⟨m',hP,hR'⟩:=hpost hR hI (t:=((k+1:Nat):Int)) (by omega) (by omega) (fun p hp=>by have:=(Aai hp).2.2;omega) (by rw[Ae4];omega);rw[<- Ah3]at hR';refine(Un (D8 (show((k+1:Nat):Int)<=((j+1:Nat):Int) by omega))).trans ?_;refine(LQ (hnum _ (by omega) (by omega)) _).trans ?_;refine(LQ hP _).trans ?_;refine(P5 (by rfl)).trans ?_;show K (i64.wrap (((k+1:Nat):Int)+1),p0,0,([]:List PsT),([]:List (KyT×Int)),m',ps++[psN ((k+1:Nat):Int) (k+1)])=_;rw[Vq];exact hK _ ⟨k+1,m',_,h,rfl,hR'⟩ (by show 100 - (k+1+1)<100 - (k+1);omega)
 obtain rfl:k=j+1:=by omega
 refine(P5 (Ef (show ¬((j+1+1:Nat):Int)<=((j+1:Nat):Int) by omega))).trans ?_;clear hK K h hk;dsimp only[U6];refine QG (X:=Int×List Int×Int×List Yq1×(List (Yq0×Int))×(List (Yq0×Int))×List Yq1×List Int) (fun x=> ∃ k:Nat,k<=j+1/\x=(((k+1:Nat):Int),p0,0,([]:List PsT),([]:List (KyT×Int)),m,ps,ints ((List.range k).map (· +1)))) (fun x=>100 - x.1.toNat) (fun _=>some true) ?_ N _ ⟨0,EJ _,rfl⟩ (by show 100 - 1<N;omega);rintro _ ⟨k,hk,rfl⟩ K hK;by_cases h:k<j+1
 .refine(Un (D8 (show((k+1:Nat):Int)<=((j+1:Nat):Int) by omega))).trans ?_;refine(JZ _ (D8 (show((ints ((List.range k).map (· +1))).length+1)*9<=140737488355328 by simp [ints];omega))).trans ?_;show K (i64.wrap (((k+1:Nat):Int)+1),p0,0,([]:List PsT),([]:List (KyT×Int)),m,ps,ints ((List.range k).map (· +1))++[((k+1:Nat):Int)])=_;have e:ints ((List.range k).map (· +1))++[((k+1:Nat):Int)]=ints ((List.range (k+1)).map (· +1)):=by unfold ints;rw[GX,Et,Et];rfl
  rw[Vq,e];exact hK _ ⟨k+1,h,rfl⟩ (by show 100 - (k+1+1)<100 - (k+1);omega)
 obtain rfl:k=j+1:=by omega
 refine(P5 (Ef (show ¬((j+1+1:Nat):Int)<=((j+1:Nat):Int) by omega))).trans ?_;clear hK K h hk;dsimp only[U7]
 refine QG (X:=List Int×Int×(List (Yq0×Int))×List Yq1×List Int×(List (Yq0×Int))×List Yq1)
  (fun x=> ∃(d0:List Int) (d1:Int) (A:List Nat) (ps':List PsT) (m':List (KyT×Int)) (L:List (Int×Nat)),bU p0 (d0,d1)/\AfO (j+1) A ps' m' L/\x=(d0,d1,m,ps,ints A,m',ps')) (fun x=>x.2.2.2.2.1.length) (fun _=>some true) ?_ N _
  ⟨p0,0,(List.range (j+1)).map (· +1),[],[],[],⟨0,rfl,EJ _⟩,⟨F9.2 ((GK (n:=j+1)).imp fun h e=>h (by omega)),fun a ha=>by obtain⟨i,hi,rfl⟩:=D6.1 ha;have:=EK.1 hi;omega,Ade,fun p hp=>(by cases hp),List.nodup_nil,fun a _ p hp=>(by cases hp),fun a h1 h2=>.inl (D6.2 ⟨a - 1,EK.2 (by omega),by omega⟩),by simp;omega⟩,rfl⟩ (by show(ints ((List.range (j+1)).map (· +1))).length<N;simp [ints];omega)
 rintro _ ⟨d0,d1,A,ps',m',L,hD,hI,rfl⟩ K hK;have hlA:(ints A).length=A.length:=D5 _;cases hA:A with
 | cons a0 A0 =>
  rw[<- hA];have hpos:0<A.length:=by rw[hA];simp
  have h10:=hI.len;refine(Un (D8 (show((ints A).length:Int)>0 by omega))).trans ?_;obtain⟨⟨q,e⟩,hq,q0,q1,hE⟩:=nx N hL hD (A.length:Int) (by omega) (by omega);obtain⟨u,rfl⟩: ∃ u:Nat,q=(u:Int):=⟨q.toNat,by omega⟩
  have q1:(u:Int)<(A.length:Int):=q1;obtain⟨⟨t,f⟩,ht,t0,t1,hF⟩:=nx N hL hE 9 (by decide) (by decide);have t0:0<=t:=t0;have t1:t<9:=t1;refine(LQ (a:=((u:Int),e)) (by show Mc N (d0,d1) ((ints A).length:Int)=_;rw[hlA];exact hq) _).trans ?_;refine(LQ ht _).trans ?_;refine(JZ _ (D8 (show(0:Int)<=(u:Int) by omega))).trans ?_;refine(JZ _ (D8 (show(u:Int)<((ints A).length:Int) by omega))).trans ?_;refine(JZ _ (D8 (show u<(ints A).length by omega))).trans ?_;obtain⟨B,c,C,hBC,hBl⟩:=AgJ (l:=A) (q:=u) (by omega);have hg:(ints A).getD u 0=(c:Int):=by rw[hBC];unfold ints;rw[Et,DY,<- hBl];simp [Di]
  have hc:c∈A:=by rw[hBC];simp
  have hcn:=hI.ra c hc;have hNu:=Abj (i:=c) hcn.1 (by omega);refine(LQ (a:=sN c) (by show JG N ((ints A).getD u 0)=_;rw[hg];exact hnum _ hcn.1 (by omega)) _).trans ?_;obtain⟨m2,hP,hR2⟩:=hpost hI.rep hNu (t:=t) t0 (by omega) (fun p hp=>hI.dis c hc p hp) (by omega);refine(LQ hP _).trans ?_;refine(P5 (by rfl)).trans ?_;have hw2:i64.wrap ((u:Int)+1)=((u+1:Nat):Int):=Vq;refine(JZ _ (D8 (show(0:Int)<=(u:Int) by omega))).trans ?_;refine(JZ _ (D8 (show(u:Int)<=((ints A).length:Int) by omega))).trans ?_;refine(JZ _ (D8 (show(0+(J7 (ints A) 0 u).length)*9<=140737488355328 by unfold J7;rw[EL,En];omega))).trans ?_;refine(JZ _ (D8 (show(0:Int)<=i64.wrap ((u:Int)+1) by rw[hw2];omega))).trans ?_;refine(JZ _ (D8 (show i64.wrap ((u:Int)+1)<=((ints A).length:Int) by rw[hw2];omega))).trans ?_;refine(JZ _ (D8 (show((J7 (ints A) 0 u).length+(J7 (ints A) (i64.wrap ((u:Int)+1)).toNat (ints A).length).length)*9<=140737488355328 by unfold J7;rw[EL,En,EL,En];omega))).trans ?_;have hcut:J7 (ints A) 0 u++J7 (ints A) (i64.wrap ((u:Int)+1)).toNat (ints A).length=ints (B++C):=by rw[hw2,show(((u+1:Nat):Int)).toNat=u+1 from rfl,AeN];unfold J7 ints;rw[hBC,List.drop_zero,Et,DY,Et,<- hBl];have hm:B.length=(B.map fun(i:Nat)=>(i:Int)).length:=(D5 _).symm;rw[hm,List.take_left,List.drop_append,List.drop_of_length_le (by omega)];simp
  show K (f.1,f.2,m,ps,J7 (ints A) 0 u++J7 (ints A) (i64.wrap ((u:Int)+1)).toNat (ints A).length,m2,ps'++[psN t c])=_;rw[hcut];rw[hBC]at hI;refine hK _ ⟨f.1,f.2,B++C,_,_,_,hF,Agt hI (by omega) hR2,rfl⟩ ?_;show(ints (B++C)).length<(ints A).length;rw[hlA,hBC];simp [ints]
 | nil =>
  rw[<- hA];have h0:A.length=0:=by rw[hA];rfl
  refine(P5 (Ef (show ¬((ints A).length:Int)>0 by omega))).trans ?_;dsimp only[U4];subst hA
  have hX: ∃ p∈L,p.2=j+1:=by
   rcases hI.all (j+1) (by omega) (DR _)with h | h
   .cases h
   .exact h
  have hl:=hI.len;have l1:=hlat (n:=j+1) hR (by rw[Ae4];omega) (fun p hp=>(Aai hp).2) (by omega) (fun p hp=>by have:=Aai hp;omega) (AfP _) ⟨(((j+1:Nat):Int),j+1),by rw[Ah3];simp,rfl⟩;have l2:=hlat (n:=j+1) hI.rep (by omega) (fun p hp=>(hI.rl p hp).2) (by omega) (fun p hp=>(hI.rl p hp).1) hI.nl hX;refine(LQ l1 _).trans ?_;refine(LQ l2 _).trans ?_;exact AhE (hnum _ (by omega) (by omega)) hsame haw _ _ rfl rfl _ rfl
def AcF (p0:List Int) (p1:Int) (hL:p0.length<=9223372036854775807):MJ 2097152 p0 p1=some true:=by have h:=AbE (N:=N0) (by rw[AfQ];omega) (fun i h1 h2=>(Abj h1 h2).made) Ag7 Afp Ahu Ahf p0 p1 hL;rw[AfQ]at h;exact h
end Go.Proofs.YtpaimpmokhihmaaGreatDoor.Pl
