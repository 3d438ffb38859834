import Derived.Test.YtacidcemomccpaaGreatDoorA17
import Derived.Sort.Walk0
import Derived.Lib.TrimUEq
set_option linter.all false
namespace Go.Proofs.YtacidcemomccpaaGreatDoor.Pl
open IntKind (i64 u8 u32 u64)
open Go Vm
def hiD (m:Nat):List Nat:=if m=0 then []else hiD (m / 128)++[m % 128]
termination_by m
decreasing_by omega
def Aqu:hiD 0=[]:=by rw[hiD];rfl
def Awh {m:Nat} (h:m≠0):hiD m=hiD (m / 128)++[m % 128]:=by rw[hiD,Dt h]
def AoR: ∀(k m:Nat),m<128 ^ k->(hiD m).map (· +128)=hi m/\(hiD m).length<=k/\ ∀ x∈hiD m,x<128:=by
 intro k
 induction k with
 | zero =>intro m h;rw[Nat.pow_zero]at h;rw[show m=0 by omega,AdQ,Aqu];exact⟨rfl,DD _,λx h=>by cases h⟩
 | succ k ih =>
  intro m h;by_cases h0:m=0
  .rw[h0,AdQ,Aqu];exact⟨rfl,Eb _,λx h=>by cases h⟩
  .obtain⟨h1,h2,h3⟩:=ih (m / 128) (by rw[Nat.pow_succ]at h;omega);rw[Aqv h0,Awh h0,Fb,h1,Dp];refine⟨rfl,by simp only[List.length_singleton];omega,λx hx=> ?_⟩;rw[DN,Ec]at hx;rcases hx with hx | rfl
   .exact h3 x hx
   .omega
def X5 (n:Nat):List Nat:=hiD (n / 128)++[n % 128]
def bump:List Int->List Int
 | []=>[]
 | [x]=>[x]
 | x::y::r=>u8.wrap (x+128)::bump (y::r)
def Asg (z:Int): ∀ a:List Int,bump (a++[z])=a.map (λx=>u8.wrap (x+128))++[z]:=by
 intro a
 induction a with
 | nil=>rfl
 | cons x r ih =>
  cases r with
  | nil=>rfl
  | cons y r =>show u8.wrap (x+128)::bump ((y::r)++[z])=_;rw[ih];rfl
def Ase (n:Nat) (h:n<34359738368):bump (ints (X5 n))=ints (XD n):=by obtain⟨h1,h2,h3⟩:=AoR 4 (n / 128) (by omega);unfold X5 XD;rw[jR,jR,<- h1];show bump (ints (hiD (n / 128))++[((n % 128:Nat):Int)])=_;rw[Asg];congr 1;unfold ints;rw[ES,ES];refine Eu λx hx=> ?_;have:=h3 x hx;show u8.wrap ((x:Int)+128)=((x+128:Nat):Int);rw[w8];omega
def AuC (n:Nat) (h:n<34359738368):(X5 n).length<=5:=by obtain⟨h1,h2,h3⟩:=AoR 4 (n / 128) (by omega);unfold X5;rw[Dp];simp only[List.length_singleton];omega
def AuB {ρ :Type} (N n:Nat) (L acc:List Int) (hn:n<34359738368) (hN:16<N) (fin:List Int×List Int×List Int->Option ρ) :
 Jy (X:=Int×List Int×List Int×List Int) (Y:=List Int×List Int×List Int) (U4 λt8b l40192b l1004096b l1004112b k3 x4 =>
         Vm.chk (decide ((1+l1004096b.length)*2<=140737488355328))
          (bif i64.wrap (t8b.tdiv 128)==0 then
            x4 (l40192b,[u8.wrap (t8b.tmod 128)]++l1004096b,l1004112b)
          else
           k3
            (i64.wrap (t8b.tdiv 128),l40192b,
              [u8.wrap (t8b.tmod 128)]++l1004096b,l1004112b))) N ((n:Int),L,[],acc) fin=fin (L,ints (X5 n),acc):=by
 refine Ey (Nc (I:=λx:Int×List Int×List Int×List Int=> ∃(n:Nat) (c:List Int),x=((n:Int),L,c,acc)/\n<34359738368/\c.length+cnt n<=10) (μ :=λx=>cnt x.1.toNat) (F:=λx=>fin (L,ints (X5 x.1.toNat)++x.2.2.1,acc)) ?_ N ((n:Int),L,[],acc) ⟨n,[],rfl,hn,by have:=cnt_le 5 n (by omega);simp only[List.length_nil];omega⟩ (by show cnt ((n:Int)).toNat<N;rw[show((n:Int)).toNat=n by omega];have:=cnt_le 5 n (by omega);omega)) ?_
 .rintro x ⟨n,c,rfl,h1,h2⟩ k hk;dsimp only[U4];have ht:((n:Int)).toNat=n:=by omega
  rw[Dk,Ju,show((n:Int)).tdiv 128=((n / 128:Nat):Int)from rfl,show((n:Int)).tmod 128=((n % 128:Nat):Int)from rfl,w64,w8,show((n % 128:Nat):Int) % 256=((n % 128:Nat):Int) by omega,ht];by_cases h0:n / 128=0
  .rw[show(((n / 128:Nat):Int)==0)=true by rw[h0];rfl,cond_true];unfold X5;rw[h0,Aqu];rfl
  .have hb:(((n / 128:Nat):Int)==0)=false:=by
    apply Gl.2;intro h;have:=Gu h;omega
   have hn0:n≠0:=λe=>h0 (by rw[e]);have e1:(((n / 128:Nat)):Int).toNat=n / 128:=by omega
   have hc:=Akw hn0;rw[hb,cond_false,hk _ ⟨n / 128,_,rfl,by omega,by rw[Dp,List.length_singleton];omega⟩ (by show cnt (((n / 128:Nat)):Int).toNat<cnt ((n:Int)).toNat;rw[e1,ht];omega)];show fin (L,ints (X5 (((n / 128:Nat)):Int).toNat)++([((n % 128:Nat):Int)]++c),acc)=_;rw[e1,<- Ea];have:ints (X5 (n / 128))++[((n % 128:Nat):Int)]=ints (X5 n):=by rw[show X5 n=X5 (n / 128)++[n % 128] by unfold X5;rw[Awh h0],jR];rfl
   rw[this]
 .show fin (L,ints (X5 ((n:Int)).toNat)++[],acc)=_;rw[DT,show((n:Int)).toNat=n by omega]
def Asf {ρ :Type} (N:Nat) (L A acc:List Int) (hA:A.length<=10) (hN:16<N) (fin:List Int×List Int×List Int->Option ρ) :
 Jy (X:=Int×List Int×List Int×List Int) (Y:=List Int×List Int×List Int) (U4 λt10d l40192d l43264d l1012288d k5 x6 =>
         bif decide (i64.wrap (t10d+1)< ↑l43264d.length)then
          Vm.chk (decide (0<=t10d))
           (Vm.chk (decide (t10d< ↑l43264d.length))
             (Vm.chk (decide (t10d.toNat<l43264d.length))
               (Vm.chk (decide (0<=t10d))
                 (Vm.chk (decide (t10d< ↑l43264d.length))
                   (Vm.chk (decide (t10d.toNat<l43264d.length))
                     (k5
                       (i64.wrap (t10d+1),l40192d,
                         l43264d.set t10d.toNat
                          (u8.wrap (l43264d.getD t10d.toNat 0+128)),
                         l1012288d)))))))
         else x6 (l40192d,l43264d,l1012288d)) N (0,L,A,acc) fin=fin (L,bump A,acc):=by
 refine Ey (Nc (I:=λx:Int×List Int×List Int×List Int=> ∃ p s:List Int,x=((p.length:Int),L,p++s,acc)/\p.length+s.length<=10) (μ :=λx=>x.2.2.1.length - x.1.toNat) (F:=λx=>fin (L,x.2.2.1.take x.1.toNat++bump (x.2.2.1.drop x.1.toNat),acc)) ?_ N (0,L,A,acc) ⟨[],A,rfl,by simpa using hA⟩ (by show A.length - 0<N;omega)) ?_
 .rintro x ⟨p,s,rfl,h1⟩ k hk;dsimp only[U4];have ht:((p.length:Int)).toNat=p.length:=by omega
  rw[w64,ht,Dp,Ia,G7]
  match s with
  | [] =>rw[Dq (by simp only[List.length_nil];omega),cond_false];rfl
  | [x] =>rw[Dq (by simp only[List.length_singleton];omega),cond_false];rfl
  | x::y::r =>
   simp only[List.length_cons]at h1;have hg:(p++x::y::r).getD p.length 0=x:=by rw[Dn,EI (DD _),Ip];rfl
   have hset:(p++x::y::r).set p.length (u8.wrap (x+128))=(p++[u8.wrap (x+128)])++(y::r):=by rw[IL _ _ (DD _),Ip,Ea];rfl
   simp only[List.length_cons];rw[Dk,cond_true,Dk,Ju,Dk,Ju,Dk];simp only[Ju];rw[hg,hset];have e1:((p.length:Int)+1)=(((p++[u8.wrap (x+128)]).length:Nat):Int):=by rw[Dp,List.length_singleton];omega
   rw[e1,hk _ ⟨p++[u8.wrap (x+128)],y::r,rfl,by rw[Dp];simp only[List.length_cons,List.length_nil];omega⟩ (by
    show((p++[u8.wrap (x+128)])++(y::r)).length - (((p++[u8.wrap (x+128)]).length:Nat):Int).toNat<(p++x::y::r).length - ((p.length:Nat):Int).toNat
    simp only[Dp,List.length_cons,List.length_nil];omega)]
   have e2:(((p++[u8.wrap (x+128)]).length:Nat):Int).toNat=(p++[u8.wrap (x+128)]).length:=by omega
   show fin (L,((p++[u8.wrap (x+128)])++(y::r)).take (((p++[u8.wrap (x+128)]).length:Nat):Int).toNat++bump (((p++[u8.wrap (x+128)])++(y::r)).drop (((p++[u8.wrap (x+128)]).length:Nat):Int).toNat),acc)=_;rw[e2,Ia,G7,Ea];rfl
 .rfl
def Abc (N:Nat) (s:Bs) (hN:16<N) (hs:s.length<=1048576) (hl:s.length+1<N):V4 N s=some (encR (Nv s)):=by
 unfold V4;try simp -zeta only[Ap]
 rw[rO N s hN hs hl,Js];cases ha:Nv s with
 | none=>rfl
 | some l =>
  obtain⟨h1,h2,h3,h4⟩:=fE ha;have hf:=uO h1 h3 h4;rw[show Ae1 (some l)=(ints l,true)from rfl];dsimp only;rw[MV,ED,cond_false,Dk,Ju,Dk,Ju,XN,XN];rw[w64 (x:=40*((l.getD 0 0:Nat):Int)),w64,show(40:Int)*((l.getD 0 0:Nat):Int)+((l.getD 1 0:Nat):Int)=((40*l.getD 0 0+l.getD 1 0:Nat):Int) by omega];try dsimp only
  rw[<- MV l,AlO,MV];generalize hd:l.drop 2=d;have hdl:d.length<=10:=by rw[<- hd,DU];omega
  have hdm: ∀ x∈d,x<=2147483647:=λx hx=>h3 x (FT (hd▸hx));have he: [((40*l.getD 0 0+l.getD 1 0:Nat):Int)]++ints d=ints ((40*l.getD 0 0+l.getD 1 0)::d):=rfl;rw[he];have hout:jK l=((40*l.getD 0 0+l.getD 1 0)::d).flatMap XD:=by unfold jK;rw[hd];rfl
  have hb:=Ai5 (AoN h1 h3 h4);rw[hout]at hb;show _=some ((jK l).map UInt8.ofNat,0);rw[hout];generalize hee:(40*l.getD 0 0+l.getD 1 0)::d=e at hb ⊢;have hel:e.length<=11:=by rw[<- hee,List.length_cons];omega
  have hem: ∀ x∈e,x<34359738368:=by
   intro x hx;rw[<- hee]at hx;rcases D7.1 hx with rfl | hx
   .exact hf.1
   .have:=hdm x hx;omega
  rw[Dk,Ju,Dk (by rw[MV];omega),Ju];refine Ey (OI (S:=List Int) (mk:=λi a=>(i,ints e,a)) (out:=λa=>a) e 0 (λi a=>a.length<=5*i) (gW some (λa n=>a++ints (XD n)) none) ?_ ?_ N [] (DD _)) ?_
  .intro i a hi ha;rw[getD_lt e i 0 hi];have hn:=hem e[i] (Ej hi);have hdl:=AuC e[i] hn;have hsl:=kL e[i] hn;refine Anb ⟨λk=> ?_,?_⟩
   .show(bif decide ((i:Int)<((ints e).length:Int))then _ else _)=_;rw[MV,Dk,cond_true,Dk,Ju,Ju,show((i:Int)).toNat=i by omega,Dk,Ju,XN,getD_lt e i 0 hi,AuB N e[i] (ints e) a hn hN];dsimp only[U3];rw[Asf N (ints e) (ints (X5 e[i])) a (by rw[MV];omega) hN];dsimp only[U3];rw[Ase _ hn,MV,Dk,Ju,w64]
   .rw[Dp,MV];omega
  .intro a k ha;show(bif decide ((e.length:Int)<((ints e).length:Int))then _ else _)=_;rw[MV,A0f,cond_false]
  .rw[AmV,AiB];dsimp only[Option.elim];rw[Ai0,List.nil_append];rw[hb.1,hb.2,Ju]
def gX (N:Nat) (s:Bs) (hN:16<N) (hs:s.length<=1048576) (hl:s.length+1<N):Pj N s=some (Nv s).isSome/\LM N s=some (Nv s).isSome:=by
 unfold Pj LM;rw[Adj N s hN hs,rO N s hN hs hl,Js,Js];cases ha:Nv s with
 | none=>exact⟨rfl,rfl⟩
 | some l =>obtain⟨h1,h2,h3,h4⟩:=fE ha;refine⟨?_,rfl⟩;show some (!(ints l).isEmpty)=_;rw[show(ints l).isEmpty=false by rw[GR];exact⟨_,DK.2 ⟨l.getD 0 0,by rw[getD_lt l 0 0];exact Ej _,rfl⟩⟩];rfl
abbrev dd (n:Nat):Bs:=Lib.decDigits n
def leB (a b:Bs):Bool:=Vm.bytesLess a b||a==b
def AsV (a b:Bs):leB a b=decide (a<=b):=by
 unfold leB Vm.bytesLess;rw[bytesLess_eq];by_cases h:a=b
 .subst h;rw[Es,EP];exact(Dk (List.le_refl a)).symm
 .rw[Ei h,EO];by_cases h2:a<b
  .rw[Dk h2,Dk (List.le_of_lt h2)]
  .rw[Dq h2,Dq];intro h3;exact h (List.le_antisymm h3 (by simpa using h2))
def WR (x:Bs):List Bs->List Bs
 | []=>[x]
 | y::r=>bif leB y x then y::WR x r else x::y::r
def uX (x:Bs): ∀ s:List Bs,(WR x s).Perm (x::s):=by
 intro s
 induction s with
 | nil=>exact IM _
 | cons y r ih =>
  show(bif leB y x then y::WR x r else x::y::r).Perm _;cases leB y x with
  | true=>exact(List.Perm.cons y ih).trans (List.Perm.swap x y r)
  | false=>exact IM _
def AuR (x:Bs): ∀ s:List Bs,s.Pairwise (λa b=>a<=b)->(WR x s).Pairwise (λa b=>a<=b):=by
 intro s
 induction s with
 | nil=>intro _;exact GX _ _
 | cons y r ih =>
  intro h;rw[EK]at h;show(bif leB y x then y::WR x r else x::y::r).Pairwise _;cases hl:leB y x with
  | true =>
   rw[AsV,D6]at hl;rw[cond_true,EK];refine⟨λz hz=> ?_,ih h.2⟩;rcases D7.1 ((uX x r).mem_iff.1 hz)with rfl | hz
   .exact hl
   .exact h.1 z hz
  | false =>
   rw[AsV,Eo]at hl
   have hxy:x<=y:=by
    rcases List.le_total x y with h | h
    .exact h
    .exact absurd h hl
   rw[cond_false,EK,EK];refine⟨λz hz=> ?_,h⟩;rcases D7.1 hz with rfl | hz
   .exact hxy
   .exact List.le_trans hxy (h.1 z hz)
def Al6: ∀(l s:List Bs),s.Pairwise (λa b=>a<=b)->(l.foldl (λs x=>WR x s) s).Pairwise (λa b=>a<=b)/\(l.foldl (λs x=>WR x s) s).Perm (l++s):=by
 intro l
 induction l with
 | nil=>intro s h;exact⟨h,IM _⟩
 | cons x r ih =>intro s h;obtain⟨h1,h2⟩:=ih (WR x s) (AuR x s h);refine⟨h1,h2.trans ?_⟩;exact((uX x s).append_left r).trans List.perm_middle
def Avm (l:List Bs):(l.foldl (λs x=>WR x s) []).flatten=Rn l:=by
 unfold Rn;congr 1;obtain⟨h1,h2⟩:=Al6 l [] List.Pairwise.nil;rw[DT]at h2;refine List.Perm.eq_of_pairwise (le:=λa b=>a<=b) (λa b _ _ h3 h4=>List.le_antisymm h3 h4) h1 ?_ (h2.trans (H9 l _).symm)
 have:=List.pairwise_mergeSort (le:=λx y:Bs=>decide (x<=y)) (λa b c h3 h4=>by
  rw[D6]at *
  exact List.le_trans h3 h4) (λa b=>by
  rw[Ef,D6,D6];exact List.le_total a b) l
 exact this.imp (λh=>by simpa using h)
def AwS (x:Bs): ∀ s:List Bs,s.take (s.findIdx λy=> !leB y x)++x::s.drop (s.findIdx λy=> !leB y x)=WR x s:=by
 intro s
 induction s with
 | nil=>rfl
 | cons y r ih =>
  rw[Gx];show _=bif leB y x then y::WR x r else x::y::r;cases leB y x with
  | true=>rw[ED,cond_false,cond_true,List.take_succ_cons,Jd,List.cons_append,ih]
  | false=>rfl
def AhF (N:Nat) (l:List Bs) (hN:1048578<N) (hl:l.length<=1048576) (hf:l.flatten.length<=1099511627776):ZZ N l=some (Rn l):=by
 unfold ZZ;try simp only[clR]
 refine(Uj (S:=List Bs) (R:=Unit) (mk:=λi s=>((i:Int),s)) l [] (λi s=>s.length=i/\s=(l.take i).foldl (λs x=>WR x s) []) (λx s=>.inr (WR x s)) (λ_=>none) (λs=>some s.flatten) ?_ ?_ ?_ N [] ⟨rfl,rfl⟩ (by omega)).trans ?_
 .intro i s hi hI k;obtain⟨hs,_⟩:=hI;have hp:(WR (l.getD i []) s).length=i+1:=by rw[(uX _ s).length_eq,List.length_cons,hs]
  simp (disch:=omega) only[JD];refine(AmX (mk:=λj=>((j:Int),s)) (out:=λj=>((j:Int),s)) s [] (λy=> !leB y (l.getD i [])) ?_ ?_ N (by omega)).trans ?_
  .intro j k hj;simp (disch:=omega) only[JD,JW];unfold leB;cases (Vm.bytesLess (s.getD j []) (l.getD i [])||s.getD j []==l.getD i [])<;>rfl
  .intro k;simp (disch:=omega) only[JD]
  .have hc:=AwS (l.getD i []) s;have hle:(s.findIdx λy=> !leB y (l.getD i []))<=s.length:=List.findIdx_le_length;generalize (s.findIdx λy=> !leB y (l.getD i []))=m at hc hle;have hc1:J4 s 0 m=s.take m:=rfl;have hc2:J4 s m s.length=s.drop m:=by unfold J4;rw[E5]
   have hl1:(s.take m).length=m:=by rw[D9];omega
   have hl2:(s.drop m).length=s.length - m:=DU ..;have hl3:(s.take m++[l.getD i []]).length=m+1:=by rw[Dp,hl1];rfl
   simp (disch:=omega) only[JD,hc1,hc2,hl1,hl2,hl3,JW];rw[Ea,List.singleton_append,hc]
 .intro i s s' hi hI he;injection he with he;subst he;refine⟨by rw[(uX _ s).length_eq,List.length_cons,hI.1],?_⟩;rw[hI.2,EY,D8 hi,Ig,getD_lt l i _ hi];rfl
 .intro s k hI
  have hp:s.flatten.length<=1099511627776:=by
   have:=(Al6 l [] List.Pairwise.nil).2;rw[DT]at this;have h2:=hI.2;rw[E5]at h2;rw[<- h2]at this;have h3:=(this.map List.length).sum_nat
   rw[Gs]at hf ⊢;omega
  have hsl:=hI.1;simp (disch:=omega) only[JD];refine(Zf (mk:=λi t=>(t,(i:Int),s)) s [] id some ?_ ?_ N).trans ?_
  .intro i t hi ht k;rw[Gf]at ht;have ht:t.length+(s.getD i []).length<=s.flatten.length:=ht;simp (disch:=omega) only[JD,JW];rfl
  .intro t k;simp (disch:=omega) only[JD]
  .rw[Gf]
 .have: ∀(l s:List Bs),Pn (R:=Unit) (λx (s:List Bs)=>.inr (WR x s)) l s= .inr (l.foldl (λs x=>WR x s) s):=by
   intro l
   induction l with
   | nil=>intro s;rfl
   | cons x r ih=>intro s;rw[NG];exact ih _
  rw[this,AgO,Avm]
def AsT {X Y ρ :Type} {B:X->(X->Option ρ)->(Y->Option ρ)->Option ρ} {kx:Y->Option ρ} (P:X->Option ρ ->Prop) (μ :X->Nat)
 (h: ∀ x v,P x v-> ∀ k:X->Option ρ,(∀ x' v',P x' v'-> μ x'< μ x->k x'=v')->B x k kx=v): ∀(N:Nat) (x:X) (v:Option ρ),P x v-> μ x<N->Jy B N x kx=v:=by
 intro N
 induction N with
 | zero=>intro x v _ h;omega
 | succ N ih=>intro x v hI hm;exact h x v hI _ (λx' v' hI' hm'=>ih x' v' hI' (by omega))
def cc (acc:List Nat):Nat:=if acc=[]then 0 else acc.length+1
def XY {E ρ :Type} (p:E->Bool) (bad:Option ρ) (fin:Unit->Option ρ): ∀ l:List E,Ub (λe (_:Unit)=>if p e=true then .inr ()else .inl bad) fin l ()=if l.all p=true then fin ()else bad:=by
 intro l
 induction l with
 | nil=>rfl
 | cons e r ih =>
  rw[List.all_cons];unfold Ub;by_cases h:p e=true
  .rw[Du h,h,ER];exact ih
  .rw[Dt h,Dt (by simp [h])]
def SI {X E ρ :Type} {p:E->Bool} {bad:Option ρ} {e:E} {b:(X->Option ρ)->Option ρ} {nx:Unit->X} {I:Unit->Prop} (h0:p e=false-> ∀ k,b k=bad) (h1:p e=true->(∀ k,b k=k (nx ()))/\I ()):AbB b nx I (if p e=true then .inr ()else .inl bad):=by
 cases h:p e with
 | true=>rw[Du rfl];exact h1 h
 | false=>rw[Dt (by decide)];exact h0 h
def Acl:Bs:=[32,39,40,41,43,44,45,46,47,58,61,63]
def UL (c:UInt8):Bool:=(decide (97<=c.toNat)&&decide (c.toNat<=122))||(decide (65<=c.toNat)&&decide (c.toNat<=90))||(decide (48<=c.toNat)&&decide (c.toNat<=57))
def prC (c:UInt8):Bool:=UL c||Acl.any (· ==c)
def iaC (c:UInt8):Bool:=decide (32<=c.toNat)&&decide (c.toNat<=126)
def sK {P:UInt8->Prop} (h: ∀ n:Fin 256,P (UInt8.ofNat n.val)) (c:UInt8):P c:=by have:=h ⟨c.toNat,Gz c⟩;rwa [Ih]at this
def sN (N:Nat) (c:UInt8):QN N (c.toNat:Int)=some (UL c):=by refine sK (P:=λc=>QN N (c.toNat:Int)=some (UL c)) ?_ c;show ∀ n:Fin 256,QN 0 ((UInt8.ofNat n.val).toNat:Int)=some (UL (UInt8.ofNat n.val));decide +kernel
def Apx (N:Nat) (c:UInt8):Ud N (c.toNat:Int)=some (prC c):=by refine sK (P:=λc=>Ud N (c.toNat:Int)=some (prC c)) ?_ c;show ∀ n:Fin 256,Ud 0 ((UInt8.ofNat n.val).toNat:Int)=some (prC (UInt8.ofNat n.val));decide +kernel
def Apy (N:Nat) (c:UInt8):Ue N (c.toNat:Int)=some (iaC c):=by refine sK (P:=λc=>Ue N (c.toNat:Int)=some (iaC c)) ?_ c;show ∀ n:Fin 256,Ue 0 ((UInt8.ofNat n.val).toNat:Int)=some (iaC (UInt8.ofNat n.val));decide +kernel
def AkE (N:Nat) (l:Bs) (c:UInt8) (hl:l.length<N) (hs:l.length<=1048576):Tm N (c.toNat:Int) l=some (l.any (· ==c)):=by
 unfold Tm;try simp -zeta only[Ap]
 refine Ey (OI (S:=Unit) (mk:=λi _=>i) (out:=λa=>a) l 0 (λ_ _=>True) (λe (_:Unit)=>if(!(e==c))=true then .inr ()else .inl (some true)) ?_ ?_ N () trivial hl) ?_
 .intro i a hi _;refine SI (p:=λe=> !(e==c)) (λh k=> ?_) (λh=>⟨λk=> ?_,trivial⟩)
  .have hb:((((l.getD i 0).toNat:Nat):Int)==((c.toNat:Nat):Int))=true:=by
    have:l.getD i 0=c:=by simpa using h
    rw[this];simp
   rw[show((i:Int)).toNat=i by omega,Dk,cond_true,Dk,Ju,Ju,hb,cond_true]
  .have hb:((((l.getD i 0).toNat:Nat):Int)==((c.toNat:Nat):Int))=false:=by
    apply Gl.2;intro h2;have h3:=Gu h2;have h4:l.getD i 0=c:=H6.1 (by omega);rw[h4]at h;simp at h
   rw[show((i:Int)).toNat=i by omega,Dk,cond_true,Dk,Ju,Ju,hb,cond_false,w64]
 .intro a k _;rw[A0f,cond_false]
 .rw[XY (p:=λe=> !(e==c))];rw[show l.any (· ==c)= !(l.all λe=> !(e==c)) by rw[GY];simp];cases l.all λe=> !(e==c)<;>rfl
def all_eq (N f:Nat) (s:Bs) (p:UInt8->Bool) (hf: ∀ c:UInt8,AbS N f (c.toNat:Int)=some (p c)) (hl:s.length<N) (hs:s.length<=1048576):XE N s f=some (s.all p):=by
 unfold XE;try simp -zeta only[Ap]
 refine Ey (OI (S:=Unit) (mk:=λi _=>i) (out:=λa=>a) s 0 (λ_ _=>True) (λe (_:Unit)=>if p e=true then .inr ()else .inl (some false)) ?_ ?_ N () trivial hl) ?_
 .intro i a hi _;have key: ∀(A:Option Bool) (K:Bool->Option Bool),(bif decide ((i:Int)<(s.length:Int))then Vm.chk (decide (0<=(i:Int))) (Vm.chk (decide ((i:Int)<(s.length:Int))) (Jq (AbS N f ((s.getD (i:Int).toNat 0).toNat:Int)) K))else A)=K (p (s.getD i 0)):=by intro A K;rw[show((i:Int)).toNat=i by omega,Dk,cond_true,Dk,Ju,Ju,hf,Js]
  refine SI (p:=p) (λh k=> ?_) (λh=>⟨λk=> ?_,trivial⟩)
  .rw[key,h];rfl
  .rw[key,h,w64];rfl
 .intro a k _;rw[A0f,cond_false]
 .rw[XY];cases s.all p<;>rfl
def Auf (N:Nat) (s:Bs) (hl:s.length<N) (hs:s.length<=1048576):UJ N 19 s=some (s.all prC):=by show Jq (XE N s 266) (λr=>some r)=_;rw[all_eq N 266 s prC (λc=>Apx N c) hl hs];rfl
def Aug (N:Nat) (s:Bs) (hl:s.length<N) (hs:s.length<=1048576):UJ N 22 s=some (s.all iaC):=by show Jq (XE N s 269) (λr=>some r)=_;rw[all_eq N 269 s iaC (λc=>Apy N c) hl hs];rfl
def AkO (N:Nat) (s:Bs) (hl:s.length<N) (hs:s.length<=1048576) (hN:16<N):Nq N 19 s=some (s.all prC):=by
 unfold Nq;try simp only[clR]
 simp only[show((19:Int)==12)=false from rfl,show((19:Int)==19)=true from rfl,show((19:Int)==22)=false from rfl,cond_false,cond_true,OW,EW,EC,ED,ER,EP,DZ,EL,EO,Ju];refine Ey (OI (S:=Unit) (mk:=λi _=>i) (out:=λa=>a) s 0 (λ_ _=>True) (λe (_:Unit)=>if prC e=true then .inr ()else .inl (some false)) ?_ ?_ N () trivial hl) ?_
 .intro i a hi _;have ha:=AkE N Acl (s.getD i 0) (by show 12<N;omega) (by decide);refine SI (p:=prC) (λh k=> ?_) (λh=>⟨λk=> ?_,trivial⟩)
  .unfold prC at h;rw[show((i:Int)).toNat=i by omega,Dk (show(i:Int)<(s.length:Int) by omega),cond_true,Dk (show(0:Int)<=(i:Int) by omega),sN,show([32,39,40,41,43,44,45,46,47,58,61,63]:Bs)=Acl from rfl,ha];generalize UL (s.getD i 0)=q at h ⊢;generalize Acl.any (λx=>x==s.getD i 0)=r at h ⊢;cases q<;>cases r<;>first | rfl | exact absurd h (by decide)
  .unfold prC at h;rw[show((i:Int)).toNat=i by omega,Dk (show(i:Int)<(s.length:Int) by omega),cond_true,Dk (show(0:Int)<=(i:Int) by omega),sN,show([32,39,40,41,43,44,45,46,47,58,61,63]:Bs)=Acl from rfl,ha,w64];generalize UL (s.getD i 0)=q at h ⊢;generalize Acl.any (λx=>x==s.getD i 0)=r at h ⊢;cases q<;>cases r<;>first | rfl | exact absurd h (by decide)
 .intro a k _;rw[A0f,cond_false]
 .rw[XY];cases s.all prC<;>rfl
def AkP (N:Nat) (s:Bs) (hl:s.length<N) (hs:s.length<=1048576):Nq N 22 s=some (s.all iaC):=by
 unfold Nq;try simp only[clR]
 simp only[show((22:Int)==12)=false from rfl,show((22:Int)==19)=false from rfl,show((22:Int)==22)=true from rfl,cond_false,cond_true,OW,EW,IK,EC,ED,ER,EP,DZ,EL,EO,Ju];refine Ey (OI (S:=Unit) (mk:=λi _=>i) (out:=λa=>a) s 0 (λ_ _=>True) (λe (_:Unit)=>if iaC e=true then .inr ()else .inl (some false)) ?_ ?_ N () trivial hl) ?_
 .intro i a hi _;have key: ∀(c:UInt8),decide (((c.toNat:Nat):Int)<32)=decide (c.toNat<32)/\decide (((c.toNat:Nat):Int)>126)=decide (126<c.toNat):=λc=>⟨by congr 1;apply propext;omega,by congr 1;apply propext;omega⟩
  refine SI (p:=iaC) (λh k=> ?_) (λh=>⟨λk=> ?_,trivial⟩)
  .unfold iaC at h;rw[show((i:Int)).toNat=i by omega,Dk (show(i:Int)<(s.length:Int) by omega),cond_true,Dk (show(0:Int)<=(i:Int) by omega)];have h2:(decide (((s.getD i 0).toNat:Int)<32)||decide (((s.getD i 0).toNat:Int)>126))=true:=by simp only[FM,Eo]at h;simp only[Ef,D6];omega
   generalize decide (((s.getD i 0).toNat:Int)<32)=q at h2 ⊢;generalize decide (((s.getD i 0).toNat:Int)>126)=r at h2 ⊢;cases q<;>cases r<;>first | rfl | exact absurd h2 (by decide)
  .unfold iaC at h;rw[show((i:Int)).toNat=i by omega,Dk (show(i:Int)<(s.length:Int) by omega),cond_true,Dk (show(0:Int)<=(i:Int) by omega),w64];have h2:decide (((s.getD i 0).toNat:Int)<32)=false/\decide (((s.getD i 0).toNat:Int)>126)=false:=by simp only[Dw,D6]at h;simp only[Eo];omega
   rw[h2.1,h2.2];rfl
 .intro a k _;rw[A0f,cond_false]
 .rw[XY];cases s.all iaC<;>rfl
def chR (n b0 b1 b2 b3:Nat):Option Nat :=
 if b0<32\/b0=127 then none
 else if b0<128 then some 1
 else if 192<=b0/\b0<224 then
  (if n<=1\/b1 / 64≠2 then none
   else if b0 % 32*64+b1 % 64<128 then none else some 2)
 else if 224<=b0/\b0<240 then
  (if n<=2\/b1 / 64≠2\/b2 / 64≠2 then none
   else if b0 % 16*4096+b1 % 64*64+b2 % 64<2048\/(55296<=b0 % 16*4096+b1 % 64*64+b2 % 64/\b0 % 16*4096+b1 % 64*64+b2 % 64<57344)then none else some 3)
 else if 240<=b0/\b0<248 then
  (if n<=3\/b1 / 64≠2\/b2 / 64≠2\/b3 / 64≠2 then none
   else if b0 % 8*262144+b1 % 64*4096+b2 % 64*64+b3 % 64<65536\/1114111<b0 % 8*262144+b1 % 64*4096+b2 % 64*64+b3 % 64 then none else some 4)
 else none
set_option maxHeartbeats 4000000 in
def AxI (n b0 b1 b2 b3:Nat) (h0:b0<256) (h1:b1<256) (h2:b2<256) (h3:b3<256) :
 chR n b0 b1 b2 b3=if(Lib.decodeN n b0 b1 b2 b3).1<32\/(Lib.decodeN n b0 b1 b2 b3).1=127\/((Lib.decodeN n b0 b1 b2 b3).1=65533/\ ¬(3<=n/\b0=239/\b1=191/\b2=189))then none else some (Lib.decodeN n b0 b1 b2 b3).2:=by
 by_cases c1:b0<128
 .have hd:Lib.decodeN n b0 b1 b2 b3=(b0,1):=by unfold Lib.decodeN;rw[Du c1]
  rw[hd];unfold chR;dsimp only;by_cases c2:b0<32\/b0=127
  .rw[Du c2,A0h]
  .rw[Dt c2,Du c1,A0g]
 .unfold chR Lib.decodeN;rw[Dt c1,A0g,Dt c1];by_cases c2:192<=b0/\b0<224
  .rw[Du c2];repeat' split
   all_goals first | rfl | (exfalso;dsimp only at *;omega)
  .rw[Dt c2,Dt (show ¬(b0 / 32=6/\(1<n/\b1 / 64=2)) by omega)];by_cases c3:224<=b0/\b0<240
   .rw[Du c3];repeat' split
    all_goals first | rfl | (exfalso;dsimp only at *;omega)
   .rw[Dt c3,Dt (show ¬(b0 / 16=14/\(1<n/\b1 / 64=2)/\(2<n/\b2 / 64=2)) by omega)];repeat' split
    all_goals first | rfl | (exfalso;dsimp only at *;omega)
def AgM (s:Bs) (i:Nat):Option Nat:=chR (s.length - i) (s.getD i 0).toNat (s.getD (i+1) 0).toNat (s.getD (i+2) 0).toNat (s.getD (i+3) 0).toNat
def Rl (s:Bs):Nat->Nat->Bool
 | 0,_=>true
 | n+1,i=>if i<s.length then(match AgM s i with
  | none=>false
  | some w=>Rl s n (i+w))else true
def Am0 (l:Bs):Lib.hasPrefix l [239,191,189]=true↔3<=l.length/\(l.getD 0 0).toNat=239/\(l.getD 1 0).toNat=191/\(l.getD 2 0).toNat=189:=by
 have hb: ∀(x:UInt8) (k:Nat),k<256->((UInt8.ofNat k==x)=true↔x.toNat=k):=by
  intro x k hk;rw[F8];constructor
  .intro h;rw[<- h,FH];omega
  .intro h;rw[<- h,Ih]
 match l with
 | []=>simp [Lib.hasPrefix,List.isPrefixOf]
 | [x]=>simp [Lib.hasPrefix,List.isPrefixOf]
 | [x,y]=>simp [Lib.hasPrefix,List.isPrefixOf]
 | x::y::z::r =>show((UInt8.ofNat 239==x)&&((UInt8.ofNat 191==y)&&((UInt8.ofNat 189==z)&&true)))=true↔3<=r.length+1+1+1/\x.toNat=239/\y.toNat=191/\z.toNat=189;rw[Dw,Dw,GI,hb _ _ (by decide),hb _ _ (by decide),hb _ _ (by decide)];exact⟨λh=>⟨by omega,h⟩,λh=>h.2⟩
def Ay8 (s:Bs): ∀(n i:Nat),Uf ⟨s.toArray⟩ n i=Rl s n i:=by
 intro n
 induction n with
 | zero=>intro i;rfl
 | succ n ih =>
  intro i;have hd:=Lib.decode_N ⟨s.toArray⟩ i;have hc:=AxI (s.length - i) (s.getD i 0).toNat (s.getD (i+1) 0).toNat (s.getD (i+2) 0).toNat (s.getD (i+3) 0).toNat (Ny _) (Ny _) (Ny _) (Ny _)
  have hp:=Am0 (s.drop i);rw[DU,Lib.getD_dropU,Lib.getD_dropU,Lib.getD_dropU,Nat.add_zero]at hp;unfold Uf Rl;show(if i<s.length then _ else _)=_;by_cases hl:i<s.length
  .rw[Du hl,Du hl];show(let d:=Utf8.decode ⟨s.toArray⟩ i;if d.1<32\/d.1=127 then false else if d.1=65533/\Lib.hasPrefix (s.drop i) [239,191,189]=false then false else Uf ⟨s.toArray⟩ n (i+d.2))=_;unfold AgM;have hd':Utf8.decode ⟨s.toArray⟩ i=Lib.decodeN (s.length - i) (s.getD i 0).toNat (s.getD (i+1) 0).toNat (s.getD (i+2) 0).toNat (s.getD (i+3) 0).toNat:=hd;rw[hc,hd'];generalize Lib.decodeN (s.length - i) (s.getD i 0).toNat (s.getD (i+1) 0).toNat (s.getD (i+2) 0).toNat (s.getD (i+3) 0).toNat=d;dsimp only;by_cases h1:d.1<32\/d.1=127
   .rw[Du h1,A0h]
   .rw[Dt h1];by_cases h2:d.1=65533/\Lib.hasPrefix (s.drop i) [239,191,189]=false
    .have h3: ¬(3<=s.length - i/\(s.getD i 0).toNat=239/\(s.getD (i+1) 0).toNat=191/\(s.getD (i+2) 0).toNat=189):=λh=>by
      have:=hp.2 h;rw[h2.2]at this;cases this
     rw[Du h2,Du (Or.inr (Or.inr ⟨h2.1,h3⟩))]
    .have h3: ¬(d.1<32\/d.1=127\/(d.1=65533/\ ¬(3<=s.length - i/\(s.getD i 0).toNat=239/\(s.getD (i+1) 0).toNat=191/\(s.getD (i+2) 0).toNat=189))):=by
      rintro (h | h | ⟨h,h4⟩)
      .exact h1 (Or.inl h)
      .exact h1 (Or.inr h)
      .refine h2 ⟨h,?_⟩;apply Gl.2;intro h5;exact h4 (hp.1 h5)
     rw[Dt h2,Dt h3];exact ih _
  .rw[Dt hl,Dt hl]
def AyG {n b0 b1 b2 b3 w:Nat} (hn:1<=n) (h:chR n b0 b1 b2 b3=some w):1<=w/\w<=n:=by
 unfold chR at h;repeat' split at h
 all_goals grind[b2,chR]
def AnY (s:Bs): ∀(n m i:Nat),s.length - i<=n->s.length - i<=m->Rl s n i=Rl s m i:=by
 intro n
 induction n with
 | zero =>
  intro m i h1 _;cases m with
  | zero=>rfl
  | succ m=>grind[Rl]
 | succ n ih =>
  intro m i h1 h2;cases m with
  | zero=>grind[Rl]
  | succ m =>
   unfold Rl;by_cases hl:i<s.length
   .rw[Du hl,Du hl];cases hc:AgM s i with
    | none=>rfl
    | some w =>have:=AyG (by omega) hc;exact ih m (i+w) (by omega) (by omega)
   .rw[Dt hl,Dt hl]
def UM (s:Bs) (i:Nat):Nat->Bool
 | 0=>true
 | k+1=>UM s i k&&decide ((s.getD (i+(k+1)) 0).toNat / 64=2)
def Xm (s:Bs) (i r:Nat):Nat->Nat
 | 0=>r
 | k+1=>64*Xm s i r k+(s.getD (i+(k+1)) 0).toNat % 64
def Au6 (s:Bs) (i r:Nat) (hr:r<32): ∀ k,Xm s i r k<32*64 ^ k:=by
 intro k
 induction k with
 | zero=>simp_all[Bs,Xm]
 | succ k ih=>grind[Xm]
def Aae {ρ :Type} (N:Nat) (s:Bs) (i k r:Nat) (hk:k<=3) (hN:16<N) (hr:r<32) (hi:i+k<s.length) (hs:s.length<=1048576) (bad:Option ρ) (fin:Int->Option ρ) :
 Jy (X:=Int×Int) (Y:=Int) (U2 λt7c t8c k4 x5 =>
         bif decide (t8c<=(k:Int))then
          Vm.chk (decide (0<=i64.wrap ((i:Int)+t8c)))
           (Vm.chk (decide (i64.wrap ((i:Int)+t8c)< ↑(List.length s)))
             (bif
               u8.wrap
                ((↑(List.getD s (i64.wrap ((i:Int)+t8c)).toNat 0).toNat:Int).tdiv 64) !=
                2 then
               bad
             else
              Vm.chk (decide (0<=i64.wrap ((i:Int)+t8c)))
               (Vm.chk (decide (i64.wrap ((i:Int)+t8c)< ↑(List.length s)))
                 (k4
                   (i64.wrap
                     (i64.wrap (64*t7c) +
                       i64.wrap
                        ((↑(List.getD s (i64.wrap ((i:Int)+t8c)).toNat 0).toNat:Int).tmod
                          64)),
                     i64.wrap (t8c+1))))))
         else x5 t7c) N ((r:Int),1) fin=if UM s i k=true then fin ((Xm s i r k:Nat):Int)else bad:=by
 refine AsT (P:=fun(x:Int×Int) v=> ∃ j:Nat,x=(((Xm s i r j:Nat):Int),((j+1:Nat):Int))/\j<=k/\UM s i j=true/\v=if UM s i k=true then fin ((Xm s i r k:Nat):Int)else bad) (μ :=λx=>k+1 - x.2.toNat) ?_ N _ _ ⟨0,rfl,Eb _,rfl,rfl⟩ (by show k+1 - 1<N;omega);rintro x v ⟨j,rfl,h1,h2,rfl⟩ kk hkk;have hv:=Au6 s i r hr j;have hp:(64:Nat) ^ j<=64 ^ 3:=GH (by decide) (by omega);dsimp only[U2];by_cases hj:j<k
 .have hb:=Ny (s.getD (i+(j+1)) 0);rw[Dk,cond_true,w64 (x:=(i:Int)+((j+1:Nat):Int)),show((i:Int)+((j+1:Nat):Int)).toNat=i+(j+1) by omega,Dk,Ju,Dk,Ju,Ju,Ju];rw[show((((s.getD (i+(j+1)) 0).toNat:Nat):Int)).tdiv 64=(((s.getD (i+(j+1)) 0).toNat / 64:Nat):Int)from rfl,show((((s.getD (i+(j+1)) 0).toNat:Nat):Int)).tmod 64=(((s.getD (i+(j+1)) 0).toNat % 64:Nat):Int)from rfl,w8];by_cases hc:(s.getD (i+(j+1)) 0).toNat / 64=2
  .rw[hc,show(((2:Nat):Int) % 256 != 2)=false from rfl,cond_false,w64 (x:=64*((Xm s i r j:Nat):Int)),w64 (x:=(((s.getD (i+(j+1)) 0).toNat % 64:Nat):Int)),w64,w64];refine hkk _ _ ⟨j+1,?_,by omega,by show(UM s i j&&decide _)=true;rw[h2,hc];rfl,rfl⟩ (by show k+1 - (((j+1:Nat):Int)+1).toNat<k+1 - ((j+1:Nat):Int).toNat;omega);all_goals grind[Xm]
  .have hne:((((s.getD (i+(j+1)) 0).toNat / 64:Nat):Int) % 256 != 2)=true:=by
    rw[EM];omega
   rw[hne,cond_true]
   have hbad:UM s i k=false:=by
    have: ∀ d,UM s i (j+1+d)=false:=by
     intro d
     induction d with
     | zero=>grind[UM]
     | succ d ih=>grind[UM]
    have h:=this (k - (j+1));rwa [show j+1+(k - (j+1))=k by omega]at h
   rw[hbad];rfl
 .have:j=k:=by omega
  subst this;rw[A0f,cond_false,h2];rfl
def AxE (a:Nat) (h:a<256):J9 .and .i64 (a:Int) 15=((a % 16:Nat):Int):=by
 have: ∀ a:Fin 256,J9 .and .i64 ((a.val:Nat):Int) 15=((a.val % 16:Nat):Int):=by decide +kernel
 exact this ⟨a,h⟩
def and7 (a:Nat) (h:a<256):J9 .and .i64 (a:Int) 7=((a % 8:Nat):Int):=by
 have: ∀ a:Fin 256,J9 .and .i64 ((a.val:Nat):Int) 7=((a.val % 8:Nat):Int):=by decide +kernel
 exact this ⟨a,h⟩
def AhV (V:Nat) (mn:Int) (X Y:Option Bool):Vm.chk
 (!decide ((V:Int)>=55296) ||
   !(decide ((V:Int)<mn)||decide ((V:Int)>1114111)) &&
     decide ((V:Int)>=55296) ||
   (decide ((V:Int)<mn)||decide ((V:Int)>1114111)))
 (bif
   decide ((V:Int)<mn)||decide ((V:Int)>1114111) ||
    decide ((V:Int)>=55296)&&decide ((V:Int)<57344)then
   X
 else Y)=if(V:Int)<mn\/1114111<V\/(55296<=V/\V<57344)then X else Y:=by
 by_cases hc:(V:Int)<mn\/1114111<V\/(55296<=V/\V<57344)
 .rw[Du hc];by_cases h1:(V:Int)<mn<;>by_cases h2:(V:Int)>1114111<;>by_cases h3:(V:Int)>=55296<;>by_cases h4:(V:Int)<57344<;>simp only[h1,h2,h3,h4,Gv,Hw]<;>first | rfl | (exfalso;omega)
 .rw[Dt hc];by_cases h1:(V:Int)<mn<;>by_cases h2:(V:Int)>1114111<;>by_cases h3:(V:Int)>=55296<;>by_cases h4:(V:Int)<57344<;>simp only[h1,h2,h3,h4,Gv,Hw]<;>first | rfl | (exfalso;omega)
def AjQ (N:Nat) (s:Bs) (hN:s.length<N) (hN2:16<N) (hs:s.length<=1048576):YJ N s=some (Rl s s.length 0):=by
 unfold YJ;try simp only[clR]
 refine Ey (Nc (I:=λx:Int=> ∃ i:Nat,x=(i:Int)/\i<=s.length) (μ :=λx=>s.length - x.toNat) (F:=λx=>some (Rl s (s.length - x.toNat) x.toNat)) ?_ N 0 ⟨0,rfl,Eb _⟩ (by show s.length - 0<N;omega)) rfl;rintro x ⟨i,rfl,h1⟩ k hk;rw[show((i:Int)).toNat=i by omega];by_cases hl:i<s.length
 .obtain⟨n,hn⟩: ∃ n,s.length - i=n+1:=⟨s.length - i - 1,by omega⟩
  have hgo: ∀ w:Nat,AgM s i=some w->1<=w->i+w<=s.length->k (((i+w:Nat)):Int)=some (Rl s (s.length - i) i):=by
   intro w hw hw1 hw2;rw[hk _ ⟨i+w,rfl,hw2⟩ (by show s.length - ((i+w:Nat):Int).toNat<s.length - ((i:Int)).toNat;omega)];rw[show(((i+w:Nat)):Int).toNat=i+w by omega,hn]
   conv=>rhs;unfold Rl
   rw[Du hl,hw];exact congrArg some (AnY s _ _ _ (DD _) (by omega))
  have hno:AgM s i=none->(some false:Option Bool)=some (Rl s (s.length - i) i):=by intro hw;rw[hn];unfold Rl;rw[Du hl,hw]
  have hb:=Ny (s.getD i 0);unfold AgM at hgo hno;unfold chR at hgo hno;generalize hb0:(s.getD i 0).toNat=b0 at *
  rw[Dk (show(i:Int)<(s.length:Int) by omega),cond_true,Dk (show(0:Int)<=(i:Int) by omega),Ju,Ju,OW];by_cases c1:b0<32\/b0=127
  .rw[Du c1]at hno;have hq:(decide ((b0:Int)<32)||((b0:Int)==127))=true:=by rw[Ef,D6,F8];omega
   rw[hq,cond_true];exact hno rfl
  .rw[Dt c1]at hno;simp only[Dt c1]at hgo;have hq:(decide ((b0:Int)<32)||((b0:Int)==127))=false:=by apply Gl.2;rw[Ne,Ef,D6,F8];omega
   rw[hq,cond_false];by_cases c2:b0<128
   .simp only[Du c2]at hgo;rw[Dk,cond_true,w64];exact hgo 1 rfl (DD _) (by omega)
   .rw[Dt c2]at hno;simp only[Dt c2]at hgo;rw[Dq (show ¬(b0:Int)<128 by omega),cond_false];by_cases c3:192<=b0/\b0<224
    .rw[Du c3]at hno;simp only[Du c3]at hgo;rw[Dk (show(b0:Int)>=192 by omega),Dk (show(b0:Int)<224 by omega),Gi,cond_true];dsimp only[U3];by_cases c4:s.length - i<=1
     .rw[Du (Or.inl c4)]at hno;rw[w64 (x:=(s.length:Int) - (i:Int)),Dk (show((s.length:Int) - (i:Int))<=1 by omega),cond_true];exact hno rfl
     .rw[w64 (x:=(s.length:Int) - (i:Int)),Dq (show ¬((s.length:Int) - (i:Int))<=1 by omega),cond_false];rw[show(J9 BinOp.and i64 (i64.wrap (b0:Int)) (i64.wrap (i64.wrap (1*2 ^ min (i64.wrap (6 - 1)).toNat 64) - 1)))=((b0 % 32:Nat):Int) by rw[w64 (x:=(b0:Int))];exact Ap3 b0 (by omega)];have hcl:=Aae N s i 1 (b0 % 32) (by omega) hN2 (by omega) (by omega) hs (some false:Option Bool);rw[show(decide ((0:Int)<=i64.wrap (6 - 1)))=true by decide,Ju];refine(hcl _).trans ?_;rw[AhV,show UM s i 1=decide ((s.getD (i+1) 0).toNat / 64=2)from rfl,show Xm s i (b0 % 32) 1=64*(b0 % 32)+(s.getD (i+1) 0).toNat % 64 from rfl];have hb1:=Ny (s.getD (i+1) 0);generalize (s.getD (i+1) 0).toNat=b1 at hno hgo hb1 ⊢;by_cases c5:b1 / 64=2
      .rw[Du (by rw[Dk c5])];rw[A0g]at hno;simp only[Dt (show ¬(s.length - i<=1\/b1 / 64≠2) by omega)]at hgo;by_cases c6:b0 % 32*64+b1 % 64<128
       .rw[Du c6]at hno;rw[A0h];exact hno rfl
       .simp only[Dt c6]at hgo;rw[A0g,w64 (x:=1+1),w64];exact hgo 2 rfl (by omega) (by omega)
      .rw[Dt (by rw[Dq c5];decide)];rw[Du (Or.inr c5)]at hno;exact hno rfl
    .rw[Dt c3]at hno;simp only[Dt c3]at hgo;rw[show(decide ((b0:Int)>=192)&&decide ((b0:Int)<224))=false by simp only[FM,Eo];omega,cond_false];by_cases d3:224<=b0/\b0<240
     .rw[Du d3]at hno;simp only[Du d3]at hgo;rw[Dk (show(b0:Int)>=224 by omega),Dk (show(b0:Int)<240 by omega),Gi,cond_true];dsimp only[U3];by_cases c4:s.length - i<=2
      .rw[Du (Or.inl c4)]at hno;rw[w64 (x:=(s.length:Int) - (i:Int)),Dk (show((s.length:Int) - (i:Int))<=2 by omega),cond_true];exact hno rfl
      .rw[w64 (x:=(s.length:Int) - (i:Int)),Dq (show ¬((s.length:Int) - (i:Int))<=2 by omega),cond_false];rw[show(J9 BinOp.and i64 (i64.wrap (b0:Int)) (i64.wrap (i64.wrap (1*2 ^ min (i64.wrap (6 - 2)).toNat 64) - 1)))=((b0 % 16:Nat):Int) by rw[w64 (x:=(b0:Int))];exact AxE b0 (by omega)];have hcl:=Aae N s i 2 (b0 % 16) (by omega) hN2 (by omega) (by omega) hs (some false:Option Bool);rw[show(decide ((0:Int)<=i64.wrap (6 - 2)))=true by decide,Ju];refine(hcl _).trans ?_;rw[AhV,show UM s i 2=(decide ((s.getD (i+1) 0).toNat / 64=2)&&decide ((s.getD (i+2) 0).toNat / 64=2))from rfl,show Xm s i (b0 % 16) 2=64*(64*(b0 % 16)+(s.getD (i+1) 0).toNat % 64)+(s.getD (i+2) 0).toNat % 64 from rfl];have hb1:=Ny (s.getD (i+1) 0);have hb2:=Ny (s.getD (i+2) 0);generalize (s.getD (i+1) 0).toNat=b1 at hno hgo hb1 ⊢;generalize (s.getD (i+2) 0).toNat=b2 at hno hgo hb2 ⊢;by_cases c5:b1 / 64=2/\b2 / 64=2
       .rw[Du (show(decide (b1 / 64=2)&&decide (b2 / 64=2))=true by simp only[c5,Gv,Gi])];rw[Dt (show ¬(s.length - i<=2\/b1 / 64≠2\/b2 / 64≠2) by omega)]at hno;simp only[Dt (show ¬(s.length - i<=2\/b1 / 64≠2\/b2 / 64≠2) by omega)]at hgo;by_cases c6:b0 % 16*4096+b1 % 64*64+b2 % 64<2048\/(55296<=b0 % 16*4096+b1 % 64*64+b2 % 64/\b0 % 16*4096+b1 % 64*64+b2 % 64<57344)
        .rw[Du c6]at hno;rw[A0h];exact hno rfl
        .simp only[Dt c6]at hgo;rw[A0g,w64 (x:=2+1),w64];exact hgo 3 rfl (by omega) (by omega)
       .rw[Dt (show ¬(decide (b1 / 64=2)&&decide (b2 / 64=2))=true by simp only[Dw,D6];omega)];rw[Du (show s.length - i<=2\/b1 / 64≠2\/b2 / 64≠2 by omega)]at hno;exact hno rfl
     .rw[Dt d3]at hno;simp only[Dt d3]at hgo;rw[show(decide ((b0:Int)>=224)&&decide ((b0:Int)<240))=false by simp only[FM,Eo];omega,cond_false];by_cases e3:240<=b0/\b0<248
      .rw[Du e3]at hno;simp only[Du e3]at hgo;rw[Dk (show(b0:Int)>=240 by omega),Dk (show(b0:Int)<248 by omega),Gi,cond_true];dsimp only[U3];by_cases c4:s.length - i<=3
       .rw[Du (Or.inl c4)]at hno;rw[w64 (x:=(s.length:Int) - (i:Int)),Dk (show((s.length:Int) - (i:Int))<=3 by omega),cond_true];exact hno rfl
       .rw[w64 (x:=(s.length:Int) - (i:Int)),Dq (show ¬((s.length:Int) - (i:Int))<=3 by omega),cond_false];rw[show(J9 BinOp.and i64 (i64.wrap (b0:Int)) (i64.wrap (i64.wrap (1*2 ^ min (i64.wrap (6 - 3)).toNat 64) - 1)))=((b0 % 8:Nat):Int) by rw[w64 (x:=(b0:Int))];exact and7 b0 (by omega)];have hcl:=Aae N s i 3 (b0 % 8) (by omega) hN2 (by omega) (by omega) hs (some false:Option Bool);rw[show(decide ((0:Int)<=i64.wrap (6 - 3)))=true by decide,Ju];refine(hcl _).trans ?_;rw[AhV,show UM s i 3=(decide ((s.getD (i+1) 0).toNat / 64=2)&&decide ((s.getD (i+2) 0).toNat / 64=2)&&decide ((s.getD (i+3) 0).toNat / 64=2))from rfl,show Xm s i (b0 % 8) 3=64*(64*(64*(b0 % 8)+(s.getD (i+1) 0).toNat % 64)+(s.getD (i+2) 0).toNat % 64)+(s.getD (i+3) 0).toNat % 64 from rfl];have hb1:=Ny (s.getD (i+1) 0);have hb2:=Ny (s.getD (i+2) 0);have hb3:=Ny (s.getD (i+3) 0);generalize (s.getD (i+1) 0).toNat=b1 at hno hgo hb1 ⊢;generalize (s.getD (i+2) 0).toNat=b2 at hno hgo hb2 ⊢;generalize (s.getD (i+3) 0).toNat=b3 at hno hgo hb3 ⊢;by_cases c5:b1 / 64=2/\b2 / 64=2/\b3 / 64=2
        .rw[Du (show(decide (b1 / 64=2)&&decide (b2 / 64=2)&&decide (b3 / 64=2))=true by simp only[c5,Gv,Gi])];rw[Dt (show ¬(s.length - i<=3\/b1 / 64≠2\/b2 / 64≠2\/b3 / 64≠2) by omega)]at hno;simp only[Dt (show ¬(s.length - i<=3\/b1 / 64≠2\/b2 / 64≠2\/b3 / 64≠2) by omega)]at hgo;by_cases c6:b0 % 8*262144+b1 % 64*4096+b2 % 64*64+b3 % 64<65536\/1114111<b0 % 8*262144+b1 % 64*4096+b2 % 64*64+b3 % 64
         .rw[Du c6]at hno;rw[A0h];exact hno rfl
         .simp only[Dt c6]at hgo;rw[A0g,w64 (x:=3+1),w64];exact hgo 4 rfl (by omega) (by omega)
        .rw[Dt (show ¬(decide (b1 / 64=2)&&decide (b2 / 64=2)&&decide (b3 / 64=2))=true by simp only[Dw,D6];omega)];rw[Du (show s.length - i<=3\/b1 / 64≠2\/b2 / 64≠2\/b3 / 64≠2 by omega)]at hno;exact hno rfl
      .rw[Dt e3]at hno;rw[show(decide ((b0:Int)>=240)&&decide ((b0:Int)<248))=false by simp only[FM,Eo];omega,cond_false];exact hno rfl
 .rw[A0f,cond_false,show s.length - i=0 by omega];rfl
def VZ (t:Int) (s:Bs):Bool:=if t=12 then Rl s s.length 0 else if t=19 then s.all prC else if t=22 then s.all iaC else false
def Akm (N:Nat) (t:Int) (s:Bs) (hl:s.length<N) (hs:s.length<=1048576):UJ N t s=some (VZ t s):=by
 unfold VZ;by_cases h1:t=12
 .subst h1;rw[Du rfl];show Jq (xE N s) (λr=>some r)=_;unfold xE;rw[Dk];show some (ArB s)=_;unfold ArB;rw[Ay8]
 .rw[Dt h1];by_cases h2:t=19
  .subst h2;rw[Du rfl];exact Auf N s hl hs
  .rw[Dt h2];by_cases h3:t=22
   .subst h3;rw[Du rfl];exact Aug N s hl hs
   .rw[Dt h3];unfold UJ;rw[show(t==12)=false from Ei h1,show(t==19)=false from Ei h2,show(t==22)=false from Ei h3];rfl
def Abh (N:Nat) (t:Int) (s:Bs) (hl:s.length<N) (hs:s.length<=1048576) (hN:16<N):Nq N t s=some (VZ t s):=by
 unfold VZ;by_cases h1:t=12
 .subst h1;rw[Du rfl];show Jq (YJ N s) (λr=>some r)=_;rw[AjQ N s hl hN hs];rfl
 .rw[Dt h1];by_cases h2:t=19
  .subst h2;rw[Du rfl];exact AkO N s hl hs hN
  .rw[Dt h2];by_cases h3:t=22
   .subst h3;rw[Du rfl];exact AkP N s hl hs
   .rw[Dt h3];unfold Nq;try simp -zeta only[Ap]
    rw[show(t==12)=false from Ei h1,show(t==19)=false from Ei h2,show(t==22)=false from Ei h3];rfl
abbrev Att:Type:=Bs×Int×Bs
def RF (e:Att) (seen:List Att):Int :=
 if Nv e.1=none then 11
 else if e.2.2=[]\/VZ e.2.1 e.2.2=false then 13
 else if 64<e.2.2.length then 2
 else if seen.any (λx=>x.1==e.1)=true then 10 else 0
def At5 (N:Nat) (q:List Att) (e:Att) (hl:q.length<N) (hs:q.length<=1048576) (fin:Unit->Option Int) :
 Jy (X:=Int×Bs×Int×Bs) (Y:=Unit) (U4 λt43b b33792_0b b33792_1b b33792_2b k3 x4 =>
         bif decide (t43b< ↑q.length)then
          Vm.chk (decide (0<=t43b))
           (Vm.chk (decide (t43b< ↑q.length))
             (bif (q.getD t43b.toNat ([],0,[])).1==b33792_0b then
               some 10
             else k3 (i64.wrap (t43b+1),b33792_0b,b33792_1b,b33792_2b)))
         else x4 ()) N (0,e.1,e.2.1,e.2.2) fin=if q.any (λx=>x.1==e.1)=true then some 10 else fin ():=by
 refine Ey (OI (S:=Unit) (mk:=λi _=>(i,e.1,e.2.1,e.2.2)) (out:=λa=>a) q ([],0,[]) (λ_ _=>True) (λx (_:Unit)=>if(!(x.1==e.1))=true then .inr ()else .inl (some 10)) ?_ ?_ N () trivial hl) ?_
 .intro i a hi _;refine SI (p:=λx:Att=> !(x.1==e.1)) (λh k=> ?_) (λh=>⟨λk=> ?_,trivial⟩)
  .simp_all[U4,Ju,Att,hs,Jy,Bs]
  .dsimp only[U4];have h':((q.getD i ([],0,[])).1==e.1)=false:=by simpa using h
   rw[show((i:Int)).toNat=i by omega,Dk,cond_true,Dk,Ju,Ju,h',cond_false,w64]
 .grind[U4]
 .rw[XY (p:=λx:Att=> !(x.1==e.1))];rw[show q.any (λx=>x.1==e.1)= !(q.all λx=> !(x.1==e.1)) by rw[GY];simp];cases q.all λx=> !(x.1==e.1)<;>rfl
def cZ (e:Att):Prop:=e.1.length<=1048576/\e.2.2.length<=1048576
def Wh (e:Att) (seen:List Att):Option Int ⊕ List Att:=if RF e seen=0 then .inr (seen++[e])else .inl (some (RF e seen))
def Am8 (p:List Att):Option Int:=Ub Wh (λ_=>some 0) p []
def Ace (v:Bs):(v==[])=decide (v=[]):=by cases v<;>rfl
def Aon (N:Nat) (p:List Att) (hN:1048578<N) (hp: ∀ e∈p,cZ e):Px N p=if p=[]then some 14 else if 4<p.length then some 2 else Am8 p:=by
 unfold Px;try simp only[clR]
 by_cases h0:p=[]
 .subst h0;rfl
 .have hpos:=FY.2 h0;have hb:(((p.length:Nat):Int)==0)=false:=Ei (by omega);rw[hb,cond_false,Dt h0];by_cases h4:4<p.length
  .rw[Du h4,Dk,cond_true]
  .rw[Dt h4,A0f,cond_false];refine bH (S:=List Att) (mk:=λi _=>i) p ([],0,[]) (λi s=>s=p.take i) Wh (λ_=>some 0) ?_ ?_ N [] rfl
   .intro i s hi hs;subst hs;have hm:=hp p[i] (Ej hi);have hcut:J4 p 0 i=p.take i:=rfl;have htk:p.take i++[p[i]]=p.take (i+1):=by rw[EY,D8 hi];rfl
    have hlt:(p.take i).length<=4:=by rw[D9];omega
    rw[getD_lt p i _ hi];generalize he:p[i]=e at hm htk;have ho:=(gX N e.1 (by omega) hm.1 (by have:=hm.1;omega)).1;have ht:=Akm N e.2.1 e.2.2 (by have:=hm.2;omega) hm.2;have hsl:=λfin=>At5 N (p.take i) e (by omega) (by omega) fin;unfold Wh;by_cases a1:Nv e.1=none
    .have hat:RF e (p.take i)=11:=by unfold RF;rw[Du a1]
     rw[hat,Dt (by decide)];intro k;dsimp only;rw[show((i:Int)).toNat=i by omega,getD_lt p i _ hi,he,Dk (show(i:Int)<(p.length:Int) by omega),cond_true,Dk (show(0:Int)<=(i:Int) by omega),Ju,Ju,ho,Js,a1];rfl
    .have hsome:(Nv e.1).isSome=true:=by cases hq:Nv e.1 with
      | none=>exact absurd hq a1
      | some l=>rfl
     rw[hsome]at ho;by_cases a2:e.2.2=[]\/VZ e.2.1 e.2.2=false
     .have hat:RF e (p.take i)=13:=by unfold RF;rw[Dt a1,Du a2]
      rw[hat,Dt (by decide)];intro k;dsimp only;rw[show((i:Int)).toNat=i by omega,getD_lt p i _ hi,he,Dk (show(i:Int)<(p.length:Int) by omega),cond_true,Dk (show(0:Int)<=(i:Int) by omega),Ju,Ju,ho,Js,ht,Ace];rcases a2 with a2 | a2
      .rw[Dk a2];rfl
      .rw[a2];cases decide (e.2.2=[])<;>rfl
     .have a3: ¬ e.2.2=[]:=λh=>a2 (Or.inl h)
      have a4:VZ e.2.1 e.2.2=true:=by
       cases hq:VZ e.2.1 e.2.2 with
       | true=>rfl
       | false=>exact absurd (Or.inr hq) a2
      by_cases a5:64<e.2.2.length
      .have hat:RF e (p.take i)=2:=by unfold RF;rw[Dt a1,Dt a2,Du a5]
       rw[hat,Dt (by decide)];intro k;dsimp only;rw[show((i:Int)).toNat=i by omega,getD_lt p i _ hi,he,Dk (show(i:Int)<(p.length:Int) by omega),cond_true,Dk (show(0:Int)<=(i:Int) by omega),Ju,Ju,ho,Js,ht,Ace,Dq a3,a4];rw[Dk (show(e.2.2.length:Int)>64 by omega)];rfl
      .have hat:RF e (p.take i)=if(p.take i).any (λx=>x.1==e.1)=true then 10 else 0:=by unfold RF;rw[Dt a1,Dt a2,Dt a5]
       have go: ∀ k:Int->Option Int,(bif decide ((i:Int)<(p.length:Int))then k (i64.wrap ((i:Int)+1))else none)=k ((i:Int)+1):=λk=>by rw[Dk,cond_true,w64]
       have hw:i64.wrap ((i:Int)+1)=(i:Int)+1:=w64;rw[hat];by_cases a6:(p.take i).any (λx=>x.1==e.1)=true
       .rw[Du a6,Dt (by decide)];intro k;dsimp only;rw[show((i:Int)).toNat=i by omega,getD_lt p i _ hi,he,Dk (show(i:Int)<(p.length:Int) by omega),cond_true,Dk (show(0:Int)<=(i:Int) by omega),Ju,Ju,ho,Js,ht,Ace,Dq a3,a4,Dq (show ¬(e.2.2.length:Int)>64 by omega),Dk (show(i:Int)<=(p.length:Int) by omega),hcut,hsl,Du a6];rfl
       .rw[Dt a6,Du rfl];refine⟨λk=> ?_,htk⟩;dsimp only;rw[show((i:Int)).toNat=i by omega,getD_lt p i _ hi,he,Dk (show(i:Int)<(p.length:Int) by omega),cond_true,Dk (show(0:Int)<=(i:Int) by omega),Ju,Ju,ho,Js,ht,Ace,Dq a3,a4,Dq (show ¬(e.2.2.length:Int)>64 by omega),Dk (show(i:Int)<=(p.length:Int) by omega),hcut,hsl,Dt a6,hw];rfl
   .intro s k _;rw[A0f,cond_false]
def Aro (N:Nat) (p:List Att) (i:Nat) (e:Att) (hi:i<=p.length) (hl:i<N) (hs:i<=1048576) (fin:Unit->Option Int) :
 Jy (X:=Int×Bs×Int×Bs) (Y:=Unit) (U4 λt5b b33792_0b b33792_1b b33792_2b k3 x4 =>
         bif decide (t5b<(i:Int))then
          Vm.chk (decide (0<=t5b))
           (Vm.chk (decide (t5b< ↑(List.length p)))
             (bif (List.getD p t5b.toNat ([],0,[])).1==b33792_0b then some 10
             else k3 (i64.wrap (t5b+1),b33792_0b,b33792_1b,b33792_2b)))
         else x4 ()) N (0,e.1,e.2.1,e.2.2) fin=if(p.take i).any (λx=>x.1==e.1)=true then some 10 else fin ():=by
 have hlen:(p.take i).length=i:=by rw[D9];omega
 refine Ey (OI (S:=Unit) (mk:=λi _=>(i,e.1,e.2.1,e.2.2)) (out:=λa=>a) (p.take i) ([],0,[]) (λ_ _=>True) (λx (_:Unit)=>if(!(x.1==e.1))=true then .inr ()else .inl (some 10)) ?_ ?_ N () trivial) ?_
 .intro j a hj _;have hg:(p.take i).getD j ([],0,[])=p.getD j ([],0,[]):=by rw[getD_lt _ j _ hj,getD_lt p j _,List.getElem_take]
  rw[hg];refine SI (p:=λx:Att=> !(x.1==e.1)) (λh k=> ?_) (λh=>⟨λk=> ?_,trivial⟩)
  .dsimp only[U4];have h':((p.getD j ([],0,[])).1==e.1)=true:=by simpa using h
   rw[show((j:Int)).toNat=j by omega,Dk,cond_true,Dk,Ju,Dk,Ju,h',cond_true]
  .dsimp only[U4];have h':((p.getD j ([],0,[])).1==e.1)=false:=by simpa using h
   rw[show((j:Int)).toNat=j by omega,Dk,cond_true,Dk,Ju,Dk,Ju,h',cond_false,w64]
 .grind[U4]
 .rw[XY (p:=λx:Att=> !(x.1==e.1))];rw[show(p.take i).any (λx=>x.1==e.1)= !((p.take i).all λx=> !(x.1==e.1)) by rw[GY];simp];cases (p.take i).all λx=> !(x.1==e.1)<;>rfl
theorem Acb (v:Bs):(((v.length:Nat):Int)==0)=decide (v=[]):=by
 cases v with
 | nil=>rfl
 | cons a r=>rw[Dq (by simp)];exact Ei (by rw[List.length_cons];omega)
def Ajb (N:Nat) (p:List Att) (hN:1048578<N) (hp: ∀ e∈p,cZ e) (h4:p.length<=4):MF N p=Am8 p:=by
 unfold MF;try simp only[clR]
 refine bH (S:=List Att) (mk:=λi _=>i) p ([],0,[]) (λi s=>s=p.take i) Wh (λ_=>some 0) ?_ ?_ N [] rfl
 .intro i s hi hs;subst hs;have hm:=hp p[i] (Ej hi);have htk:p.take i++[p[i]]=p.take (i+1):=by rw[EY,D8 hi];rfl
  have hlt:(p.take i).length<=4:=by rw[D9];omega
  rw[getD_lt p i _ hi];generalize he:p[i]=e at hm htk;have ho:=(gX N e.1 (by omega) hm.1 (by have:=hm.1;omega)).2;have ht:=Abh N e.2.1 e.2.2 (by have:=hm.2;omega) hm.2 (by omega);have hsl:=λfin=>Aro N p i e (by omega) (by omega) (by omega) fin;unfold Wh;by_cases a1:Nv e.1=none
  .have hat:RF e (p.take i)=11:=by unfold RF;rw[Du a1]
   rw[hat,Dt (by decide)];intro k;all_goals grind[getD_lt,hi,Ju,Js,a1]
  .have hsome:(Nv e.1).isSome=true:=by cases hq:Nv e.1 with
    | none=>exact absurd hq a1
    | some l=>rfl
   rw[hsome]at ho;by_cases a2:e.2.2=[]\/VZ e.2.1 e.2.2=false
   .have hat:RF e (p.take i)=13:=by unfold RF;rw[Dt a1,Du a2]
    rw[hat,Dt (by decide)];intro k;all_goals grind[getD_lt,hi,Ju,Js,Acb,a2]
   .have a3: ¬ e.2.2=[]:=λh=>a2 (Or.inl h);have a4:VZ e.2.1 e.2.2=true:=by all_goals grind[VZ,a2]
    by_cases a5:64<e.2.2.length
    .have hat:RF e (p.take i)=2:=by unfold RF;rw[Dt a1,Dt a2,Du a5]
     rw[hat,Dt (by decide)];intro k;all_goals grind[getD_lt,hi,Ju,Js,Acb,a3]
    .have hat:RF e (p.take i)=if(p.take i).any (λx=>x.1==e.1)=true then 10 else 0:=by unfold RF;rw[Dt a1,Dt a2,Dt a5]
     have go: ∀ k:Int->Option Int,(bif decide ((i:Int)<(p.length:Int))then k (i64.wrap ((i:Int)+1))else none)=k ((i:Int)+1):=λk=>by rw[Dk,cond_true,w64]
     have hw:i64.wrap ((i:Int)+1)=(i:Int)+1:=w64;rw[hat];by_cases a6:(p.take i).any (λx=>x.1==e.1)=true
     .rw[Du a6,Dt (by decide)];intro k;dsimp only;rw[show((i:Int)).toNat=i by omega,getD_lt p i _ hi,he,Dk (show(i:Int)<(p.length:Int) by omega),cond_true,Dk (show(0:Int)<=(i:Int) by omega),Ju,Ju,ho,Js,ht,Acb,Dq a3,a4,Dq (show ¬(e.2.2.length:Int)>64 by omega),hsl,Du a6];rfl
     .rw[Dt a6,Du rfl];refine⟨λk=> ?_,htk⟩;dsimp only;rw[show((i:Int)).toNat=i by omega,getD_lt p i _ hi,he,Dk (show(i:Int)<(p.length:Int) by omega),cond_true,Dk (show(0:Int)<=(i:Int) by omega),Ju,Ju,ho,Js,ht,Acb,Dq a3,a4,Dq (show ¬(e.2.2.length:Int)>64 by omega),hsl,Dt a6,hw];rfl
 .intro s k _;rw[A0f,cond_false]
def AiJ (p:List Att): ∃ v,Am8 p=some v:=by
 have: ∀(l s:List Att),∃ v,Ub Wh (λ_=>some 0) l s=some v:=by
  intro l
  induction l with
  | nil=>intro s;exact⟨0,rfl⟩
  | cons e r ih =>
   intro s;unfold Ub Wh;by_cases h:RF e s=0
   .rw[Du h];exact ih _
   .rw[Dt h];exact⟨_,rfl⟩
 exact this p []
def VT (p:List Att):Int:=if p=[]then 14 else if 4<p.length then 2 else(Am8 p).getD 0
def Axi (N:Nat) (p:List Att) (hN:1048578<N) (hp: ∀ e∈p,cZ e):Px N p=some (VT p):=by
 rw[Aon N p hN hp];unfold VT;obtain⟨v,hv⟩:=AiJ p;rw[hv];split
 .rfl
 .split<;>rfl
def YB (p:List Att) (_:Unit):Option Int ⊕ Unit:=if VT p=0 then .inr ()else .inl (some (VT p))
def Y8 (n:List (List Att)):Option Int:=if 8<n.length then some 2 else Ub YB (λ_=>some 0) n ()
def MG (n:List (List Att)):Prop:= ∀ p∈n,∀ e∈p,cZ e
def AgS (N:Nat) (n:List (List Att)) (hN:1048578<N) (hn:MG n):O8 N n=Y8 n:=by
 unfold O8 Y8;try simp -zeta only[Ap]
 by_cases h8:8<n.length
 .rw[Du h8,Dk,cond_true]
 .rw[Dt h8,A0f,cond_false];refine bH (S:=Unit) (mk:=λi _=>i) n [] (λ_ _=>True) YB (λ_=>some 0) ?_ ?_ N () trivial
  .intro i s hi _;rw[getD_lt n i [] hi];have hr:=Axi N n[i] hN (hn _ (Ej hi));unfold YB;by_cases h:VT n[i]=0
   .rw[Du h];refine⟨λk=> ?_,trivial⟩;dsimp only;rw[show((i:Int)).toNat=i by omega,getD_lt n i [] hi,Dk,cond_true,Dk,Ju,Ju,hr,Js,h,w64];rfl
   .rw[Dt h];intro k;dsimp only;rw[show((i:Int)).toNat=i by omega,getD_lt n i [] hi,Dk,cond_true,Dk,Ju,Ju,hr,Js,show(VT n[i] != 0)=true from EM.2 h,cond_true]
  .simp_all[Att,MG,O8,Y8]
def AkG (N:Nat) (n:List (List Att)) (hN:1048578<N) (hn:MG n):Nr N n=Y8 n:=by
 unfold Nr Y8;try simp -zeta only[Ap]
 by_cases h8:8<n.length
 .rw[Du h8,Dk,cond_true]
 .rw[Dt h8,A0f,cond_false];refine bH (S:=Unit) (mk:=λi _=>i) n [] (λ_ _=>True) YB (λ_=>some 0) ?_ ?_ N () trivial
  .intro i s hi _;rw[getD_lt n i [] hi];have ha:=fun(h4:(n[i]).length<=4)=>Ajb N n[i] hN (hn _ (Ej hi)) h4;obtain⟨v,hv⟩:=AiJ n[i];have pre: ∀(A:Option Int) (K:List Att->Option Int),(bif decide ((i:Int)<(n.length:Int))then Vm.chk (decide ((0:Int)<=(i:Int))) (Vm.chk (decide ((i:Int)<(n.length:Int))) (K (n.getD (i:Int).toNat [])))else A)=K n[i]:=by all_goals simp_all[getD_lt,hi,Ju,Att,MG,Nr,Y8]
   have key: ∀ k:Int->Option Int,(bif (((n[i].length:Nat):Int)==0)then some 14 else bif decide ((n[i].length:Int)>4)then some 2 else Jq (MF N n[i]) λr=>bif r != 0 then some r else k (i64.wrap ((i:Int)+1)))=if VT n[i]=0 then k ((i:Int)+1)else some (VT n[i]):=by
    intro k;unfold VT;by_cases h0:n[i]=[]
    .rw[h0];rfl
    .have hpos:=FY.2 h0;all_goals grind[Js,w64]
   unfold YB;by_cases h:VT n[i]=0
   .rw[Du h];refine⟨λk=> ?_,trivial⟩;refine(pre _ (λa=>bif (((a.length:Nat):Int)==0)then some 14 else bif decide ((a.length:Int)>4)then some 2 else Jq (MF N a) λr=>bif r != 0 then some r else k (i64.wrap ((i:Int)+1)))).trans ?_;refine(key k).trans ?_;rw[Du h]
   .rw[Dt h];intro k;refine(pre _ (λa=>bif (((a.length:Nat):Int)==0)then some 14 else bif decide ((a.length:Int)>4)then some 2 else Jq (MF N a) λr=>bif r != 0 then some r else k (i64.wrap ((i:Int)+1)))).trans ?_;refine(key k).trans ?_;rw[Dt h]
  .intro s k _;rw[A0f,cond_false]
def AkL (N:Nat) (s:Bs) (c:UInt8) (hN:s.length+2<N:=by omega) (hs:s.length<=1048576:=by omega):QP N s (c.toNat:Int)=some (Ky c s):=by
 unfold QP;try simp only[clR]
 refine Ey (Nc (I:=λx:Int×Int×List Bs=> ∃(a j:Nat) (acc:List Bs),x=((a:Int),(j:Int),acc)/\((a<=j/\j<=s.length/\c∉J4 s a j)\/(a=s.length+1/\j=s.length+1))/\acc.length<=j) (μ :=λx=>s.length+1 - x.2.1.toNat) (F:=λx=>some (if x.1.toNat<=s.length then x.2.2++Ky c (s.drop x.1.toNat)else x.2.2)) ?_ N (0,0,[]) ⟨0,0,[],rfl,Or.inl ⟨DD _,Eb _,by rw[XJ];exact Fe⟩,Eb _⟩ (by show s.length+1 - 0<N;omega)) ?_
 .rintro x ⟨a,j,acc,rfl,hi,hacc⟩ k hk;dsimp only[U3];rw[show((a:Int)).toNat=a by omega,show((j:Int)).toNat=j by omega];rcases hi with ⟨h1,h2,h3⟩ | ⟨h1,h2⟩
  .have hsplit:s.drop a=J4 s a j++s.drop j:=by
    unfold J4
    conv=>lhs;rw[<- G6 j s]
    rw[Gw (by rw[D9];omega)]
   rw[Dk (show(j:Int)<=(s.length:Int) by omega),cond_true,Dk (show(0:Int)<=(j:Int) by omega)];simp only[DZ,Ju];by_cases hl:j<s.length
   .rw[Dk (show(j:Int)<(s.length:Int) by omega),getD_lt s j 0 hl];simp only[DZ,Ju];rw[show(((j:Nat):Int)==((s.length:Nat):Int))=false from Ei (by omega),EL];by_cases hc:s[j]=c
    .rw[hc,show(((c.toNat:Nat):Int)==((c.toNat:Nat):Int))=true from Es _,cond_true,Dk,Ju,Dk,Ju,Dk,Ju,w64,show((j:Int)+1)=((j+1:Nat):Int)from rfl];rw[hk _ ⟨j+1,j+1,_,rfl,Or.inl ⟨DD _,by omega,by rw[XJ];exact Fe⟩,by rw[Dp,List.length_singleton];omega⟩ (by show s.length+1 - ((j+1:Nat):Int).toNat<s.length+1 - ((j:Int)).toNat;omega)];show some (if((j+1:Nat):Int).toNat<=s.length then(acc++[J4 s a j])++Ky c (s.drop ((j+1:Nat):Int).toNat)else _)=_;rw[show((j+1:Nat):Int).toNat=j+1 by omega,A0h,A0h,hsplit,EN hl,hc,VV _ _ _ h3,Ea];rfl
    .have hne:(((s[j].toNat:Nat):Int)==((c.toNat:Nat):Int))=false:=Ei λh=>hc (H6.1 (by omega));rw[hne,cond_false,w64,show((j:Int)+1)=((j+1:Nat):Int)from rfl];rw[hk _ ⟨a,j+1,acc,rfl,Or.inl ⟨by omega,by omega,by rw[Aag s h1 hl,DN,Ec];rintro (h | h);exact h3 h;exact hc h.symm⟩,by omega⟩ (by show s.length+1 - ((j+1:Nat):Int).toNat<s.length+1 - ((j:Int)).toNat;omega)];show some (if((a:Int)).toNat<=s.length then acc++Ky c (s.drop ((a:Int)).toNat)else _)=_;rw[show((a:Int)).toNat=a by omega]
   .have hj:j=s.length:=by omega
    subst hj;rw[show(((s.length:Nat):Int)==((s.length:Nat):Int))=true from Es _];simp only[EP,DZ,Ju,cond_true];rw[Dk,Ju,Dk,Ju,Dk,Ju,w64,show((s.length:Int)+1)=((s.length+1:Nat):Int)from rfl];rw[hk _ ⟨s.length+1,s.length+1,_,rfl,Or.inr ⟨rfl,rfl⟩,by rw[Dp,List.length_singleton];omega⟩ (by show s.length+1 - ((s.length+1:Nat):Int).toNat<s.length+1 - ((s.length:Int)).toNat;omega)];show some (if((s.length+1:Nat):Int).toNat<=s.length then _ else acc++[J4 s a s.length])=_;rw[A0g,A0h,hsplit,GG,DT,aK _ _ h3]
  .subst h1;subst h2;rw[A0f,cond_false,A0g]
 .rfl
def vF (c:UInt8):Bool:=UL c||decide (c.toNat=45)
def jT (s:Bs):Bool:= !(decide (s.length<1)||decide (63<s.length)||decide ((s.getD 0 0).toNat=45)||decide ((s.getD (s.length - 1) 0).toNat=45))&&s.all vF
def qQ (N:Nat) (c:UInt8): ∃ a b,SY N (c.toNat:Int)=some a/\Sz N (c.toNat:Int)=some b/\(a||b)=UL c:=by refine sK (P:=λc=> ∃ a b,SY N (c.toNat:Int)=some a/\Sz N (c.toNat:Int)=some b/\(a||b)=UL c) ?_ c;intro n;refine⟨(SY 0 ((UInt8.ofNat n.val).toNat:Int)).getD false,(Sz 0 ((UInt8.ofNat n.val).toNat:Int)).getD false,?_⟩;show SY 0 _=_/\Sz 0 _=_/\_;revert n;decide +kernel
def Ajr (N:Nat) (s:Bs) (hN:70<N) (hs:s.length<=1048576):fP N s=some (jT s):=by
 unfold fP jT;try simp only[clR]
 by_cases h1:s.length<1
 .have:s=[]:=Gt.1 (by omega);subst this;rfl
 .rw[Dq h1,Dq (show ¬(s.length:Int)<1 by omega),Dk (show(0:Int)<(s.length:Int) by omega),w64,Dk (show(0:Int)<=(s.length:Int) - 1 by omega),Dk (show(s.length:Int) - 1<(s.length:Int) by omega),show((s.length:Int) - 1).toNat=s.length - 1 by omega];simp only[DZ,Ju,EL]
  have e1: ∀ c:UInt8,(((c.toNat:Nat):Int)==45)=decide (c.toNat=45):=λc=>by
   by_cases h:c.toNat=45
   .rw[h];rfl
   .rw[Dq h];exact Ei (by omega)
  rw[e1,e1,show decide ((s.length:Int)>63)=decide (63<s.length) by congr 1;apply propext;omega];generalize decide ((s.getD 0 0).toNat=45)=q1;generalize decide ((s.getD (s.length - 1) 0).toNat=45)=q2;by_cases h2:63<s.length
  .rw[Dk h2];rfl
  .rw[Dq h2];cases q1<;>cases q2<;>first | rfl | skip
   rw[show(false||false||false)=false from rfl,cond_false,Dk,Ju];have hml:((s.map λb=>((b.toNat:Nat):Int)).length)=s.length:=D5 ..;refine Ey (OI (S:=Unit) (mk:=λi _=>(i,s.map λb=>((b.toNat:Nat):Int))) (out:=λa=>a) s 0 (λ_ _=>True) (λe (_:Unit)=>if vF e=true then .inr ()else .inl (some false)) ?_ ?_ N () trivial) ?_
   .intro i a hi _;obtain⟨x,y,hx,hy,hxy⟩:=qQ N (s.getD i 0);have hg:(s.map λb=>((b.toNat:Nat):Int)).getD i 0=(((s.getD i 0).toNat:Nat):Int):=by rw[getD_lt _ i 0,getD_lt s i 0 hi,Hm]
    have hne:((((s.getD i 0).toNat:Nat):Int) != 45)= !decide ((s.getD i 0).toNat=45):=by rw[bne,e1]
    refine SI (p:=vF) (λh k=> ?_) (λh=>⟨λk=> ?_,trivial⟩)
    .dsimp only[U2];unfold vF at h;rw[hml,show((i:Int)).toNat=i by omega,Dk,cond_true,Dk,Ju,Dk,Ju,hg,hx,Js,hy,hne];rw[<- hxy]at h;generalize decide ((s.getD i 0).toNat=45)=z at h;cases x<;>cases y<;>cases z<;>first | rfl | (exact absurd h (by decide))
    .dsimp only[U2];unfold vF at h;rw[hml,show((i:Int)).toNat=i by omega,Dk,cond_true,Dk,Ju,Dk,Ju,hg,hx,Js,hy,hne,w64];rw[<- hxy]at h;generalize decide ((s.getD i 0).toNat=45)=z at h;cases x<;>cases y<;>cases z<;>first | rfl | (exact absurd h (by decide))
   .intro a k _;dsimp only[U2];rw[hml,A0f,cond_false]
   .rw[XY];cases s.all vF<;>rfl
def QZ (s:Bs):Bool:= !decide (128<s.length)&&(Ky 46 s).all jT
def Xc (N:Nat) (s:Bs) (hN:200<N:=by omega):Q4 N s=some (QZ s):=by
 unfold Q4 QZ;try simp -zeta only[Ap]
 by_cases h:128<s.length
 .rw[Dk h,Dk (show(s.length:Int)>128 by omega),cond_true];rfl
 .rw[Dq h,Dq (show ¬(s.length:Int)>128 by omega),cond_false];have hsp:strings_Split N s [46]=some (Ky 46 s):=by unfold strings_Split;rw[Dk,Ana];rfl
  rw[hsp,Js];have hlen:=YU 46 s;generalize Ky 46 s=p at hlen ⊢;refine Ey (OI (S:=Unit) (mk:=λi _=>i) (out:=λa=>a) p [] (λ_ _=>True) (λe (_:Unit)=>if jT e=true then .inr ()else .inl (some false)) ?_ ?_ N () trivial) ?_
  .intro i a hi _;have hm:=hlen.2.2 (p.getD i []) (by rw[getD_lt p i [] hi];exact Ej hi);have hlab:=Ajr N (p.getD i []) (by omega) (by omega);refine SI (p:=jT) (λh k=> ?_) (λh=>⟨λk=> ?_,trivial⟩)
   .dsimp only;rw[show((i:Int)).toNat=i by omega,Dk,cond_true,Dk,Ju,Ju,hlab,Js,h];rfl
   .dsimp only;rw[show((i:Int)).toNat=i by omega,Dk,cond_true,Dk,Ju,Ju,hlab,Js,h,w64];rfl
  .intro a k _;dsimp only;rw[A0f,cond_false]
  .rw[XY];cases p.all jT<;>rfl
def Auu (c:UInt8) (n:Nat) (hn:n<256):(((c.toNat:Nat):Int)==(n:Int))=(c==UInt8.ofNat n):=by
 by_cases h:c=UInt8.ofNat n
 .subst h;rw[Es,FH,show n % 2 ^ 8=n from F5 hn];exact Es _
 .rw[Ei h];refine Ei λh2=>h ?_;apply H6.1;rw[FH,show n % 2 ^ 8=n from F5 hn];omega
def AxG (c:UInt8) (n:Nat) (hn:n<256):(((c.toNat:Nat):Int) != (n:Int))= !(c==UInt8.ofNat n):=by unfold bne;rw[Auu c n hn]
def beq46 (c:UInt8):(((c.toNat:Nat):Int)==46)=(c==46):=Auu c 46 (by omega)
def AvW (c:UInt8):(((c.toNat:Nat):Int)==45)=(c==45):=Auu c 45 (by omega)
def AyD (c:UInt8):(((c.toNat:Nat):Int) != 45)= !(c==45):=AxG c 45 (by omega)
def AyE (c:UInt8):(((c.toNat:Nat):Int) != 64)= !(c==64):=AxG c 64 (by omega)
def ApS (c:UInt8):decide (c.toNat=45)=(c==45):=by
 rw[<- AvW];by_cases h:c.toNat=45
 .rw[h];rfl
 .rw[Dq h];exact(Ei (by omega)).symm
def TZ (N:Nat) (s:Bs) (hN:1048578<N):NT N s=some (QZ s):=by
 unfold NT QZ;try simp only[clR]
 by_cases h1:128<s.length
 .rw[Afc (by omega),cond_true,Ak8 h1];rfl
 .rw[Aky (by omega),cond_false,Ak7 (by omega)];have hsp:QP N s 46=some (Ky 46 s):=AkL N s 46;rw[hsp,Js];have hlen:=YU 46 s;generalize Ky 46 s=p at hlen ⊢;refine Ey (QM (S:=Unit) (R:=Bool) (mk:=λi _=>(i:Int)) p [] (λl _=>bif jT l then .inr ()else .inl false) some (λ_=>some true) ?_ ?_ N ()) ?_
  .intro i _ hi k;have hm:=hlen.2.2 _ (getD_mem [] hi);dsimp only;rw[show((i:Int)).toNat=i by omega];generalize p.getD i []=l at hm ⊢;unfold jT;rw[ApS,ApS];by_cases h2:l.length<1
   .simp (disch:=omega) only[JD]
   .by_cases h3:63<l.length
    .simp (disch:=omega) only[JD]
    .simp (disch:=omega) only[JD,AvW,JW];cases l.getD 0 0==45<;>cases l.getD (l.length - 1) 0==45<;>first | rfl | skip
     refine Ey (QM (S:=Unit) (R:=Bool) (mk:=λi _=>(i:Int)) l 0 (λc _=>bif vF c then .inr ()else .inl false) some (λ_=>k ((i+1:Nat):Int)) ?_ ?_ N ()) ?_
     .intro j _ hj k;simp (disch:=omega) only[JD,sN,AyD,JW];unfold vF;rw[ApS];cases UL (l.getD j 0)<;>cases l.getD j 0==45<;>rfl
     .intro _ k;simp (disch:=omega) only[JD]
     .rw[AaA];cases l.all vF<;>rfl
  .intro _ k;simp (disch:=omega) only[JD]
  .rw[AaA];cases p.all jT<;>rfl
def contains_one (c:UInt8) (s:Bs):Lib.contains s [c]=s.contains c:=by
 unfold Lib.contains;rcases aY c s with h | ⟨a,r,rfl,ha⟩
 .rw[index_none c s h];have:s.contains c=false:=by simpa using h
  rw[this];rfl
 .rw[AdT c a r ha];have:(a++c::r).contains c=true:=by simp
  rw[this];exact Dk
def vX (s:Bs):Bool:=bif Lib.hasPrefix s [42,46]then decide (s.length<=128)&&QZ (s.drop 2)&&(s.drop 2).contains 46 else QZ s
def Ay5 {s p:Bs} (h:Lib.hasPrefix s p=true):Lib.trimPrefix s p=s.drop p.length:=by unfold Lib.trimPrefix;rw[Du h]
def Ay4 {s p:Bs} (h:Lib.hasPrefix s p=false):Lib.trimPrefix s p=s:=by unfold Lib.trimPrefix;rw[Dt (by rw[h];decide)]
def Afx (N:Nat) (s:Bs) (hN:1048578<N):VL N s=some (vX s):=by
 unfold VL vX strings_CutPrefix;try simp only[clR]
 rw[Js];cases hp:Lib.hasPrefix s [42,46]with
 | false=>rw[Ay4 hp,Xc N _];rfl
 | true =>
  rw[Ay5 hp,show s.drop ([42,46]:Bs).length=s.drop 2 from rfl];simp (disch:=omega) only[JD,Xc,AuU,Option.getD_some];by_cases h:s.length<=128
  .unfold strings_Contains;rw[Dk (show(s.drop 2).length<4294967281 by rw[DU];omega),cond_true,contains_one,Oz h,Sv];rfl
  .rw[AfO (by omega),AvZ (by omega)];simp [chk]
def AuE (r:Bs):QZ (42::46::r)=false:=by unfold QZ;rw[show(42::46::r:Bs)=[42]++46::r from rfl,VV _ _ _ (by decide),List.all_cons,show jT [42]=false by decide];simp
def AwH (r:Bs):QZ (46::r)=false:=by unfold QZ;rw[show(46::r:Bs)=[]++46::r from rfl,VV _ _ _ (by decide),List.all_cons,show jT []=false by decide];simp
def AgX:QZ []=false:=by decide
def AtF (s:Bs):decide (2<=(Ky 46 s).length)=s.contains 46:=by
 rcases aY 46 s with h | ⟨a,r,rfl,ha⟩
 .rw[aK _ _ h];have:s.contains 46=false:=by simpa using h
  rw[this];rfl
 .rw[VV _ _ _ ha];have:(a++46::r).contains 46=true:=by simp
  rw[this];have:=(YU 46 r).2.1;exact Dk (by rw[List.length_cons];omega)
def Axq (s:Bs):(∃ r,s=42::46::r)\/(Lib.hasPrefix s [42,46]=false/\(J4 s 0 2==[42,46])=false):=by
 match s with
 | []=>right;exact⟨rfl,rfl⟩
 | [a]=>right;exact⟨by simp [Lib.hasPrefix,List.isPrefixOf],by simp [J4]⟩
 | a::b::r =>
  by_cases h:a=42/\b=46
  .left;exact⟨r,by rw[h.1,h.2]⟩
  .right;refine⟨?_,?_⟩
   .cases hq:Lib.hasPrefix (a::b::r) [42,46]with
    | false=>rfl
    | true =>exfalso;simp [Lib.hasPrefix,List.isPrefixOf]at hq;exact h ⟨hq.1.symm,hq.2.symm⟩
   .refine Ei λhq=>h ?_;simp [J4]at hq;exact hq
def Aez (N:Nat) (s:Bs) (hN:1048578<N) (hs:s.length<=1048576):UW N s=some (vX s):=by
 unfold UW vX;try simp only[clR]
 have hsp:QP N s 46=some (Ky 46 s):=AkL N s 46;rw[TZ N s hN,Js,TZ N _ hN,hsp];simp only[Option.isSome_some,Option.getD_some,DZ,Ju];rcases Axq s with ⟨r,rfl⟩ | ⟨h1,h2⟩
 .rw[AuE,show Lib.hasPrefix (42::46::r) [42,46]=true by simp [Lib.hasPrefix,List.isPrefixOf],cond_true,show(42::46::r:Bs).drop 2=r from rfl];rw[show J4 (42::46::r:Bs) 2 (42::46::r:Bs).length=r by unfold J4;rw[E5];rfl,show(J4 (42::46::r:Bs) 0 2==[42,46])=true by simp [J4]];rw[show decide (((Ky 46 (42::46::r)).length:Int)>2)=r.contains 46 by rw[<- AtF,show(42::46::r:Bs)=[42]++46::r from rfl,VV _ _ _ (by decide),List.length_cons];congr 1;apply propext;omega];rw[show decide (((42::46::r:Bs).length:Int)<=128)=decide ((42::46::r:Bs).length<=128) by congr 1;apply propext;omega];rw[Sv (show(2:Int)<=((42::46::r:Bs).length:Int) by simp;omega)];cases r with
  | nil=>rw[AgX];simp [chk]
  | cons x r =>rw[Afc (show((42::46::x::r:Bs).length:Int)>2 by simp;omega)];cases decide ((42::46::x::r:Bs).length<=128)<;>cases QZ (x::r)<;>cases (x::r).contains 46<;>rfl
 .rw[h1,cond_false,h2]
  have:decide (2<=((s.length:Nat):Int))=true\/decide (((s.length:Nat):Int)>2)=false:=by
   by_cases h:2<=s.length
   .left;exact Dk
   .right;exact A0f
  rcases this with h | h<;>rw[h]<;>cases QZ s<;>cases decide (((s.length:Nat):Int)<=128)<;>simp [chk]
def sV (s:Bs):Bool:=(s==[])||QZ s
def AlG (N:Nat) (s:Bs) (hN:1048578<N):bG N s=some (sV s):=by
 unfold bG sV;try simp only[clR]
 simp (disch:=omega) only[JD,Xc,Option.isSome_some,Option.getD_some]
def AjS (N:Nat) (s:Bs) (hN:1048578<N):YK N s=some (sV s):=by
 unfold YK sV;try simp only[clR]
 simp (disch:=omega) only[JD,TZ,Option.isSome_some,Option.getD_some]
def wQ:Bs:=[33,35,36,37,38,39,42,43,45,47,61,63,94,95,96,123,124,125,126,46]
def Ti (c:UInt8):Bool:=UL c||wQ.any (· ==c)
def dots:Bs->Bool
 | x::y::r=>(x==46&&y==46)||dots (y::r)
 | _=>false
def Ajg: ∀ s:Bs,Lib.contains s [46,46]=dots s:=by
 have key: ∀ s:Bs,(Lib.index s [46,46]= -1/\dots s=false)\/(0<=Lib.index s [46,46]/\dots s=true):=by
  intro s
  induction s with
  | nil=>left;exact⟨rfl,rfl⟩
  | cons x r ih =>
   cases r with
   | nil =>left;refine⟨?_,rfl⟩;show(if List.isPrefixOf [46,46] [x]=true then(0:Int)else _)= -1;rw[Dt (by simp [List.isPrefixOf])];rfl
   | cons y r =>
    have e:Lib.index (x::y::r) [46,46]=if List.isPrefixOf [46,46] (x::y::r)=true then(0:Int)else if Lib.index (y::r) [46,46]== -1 then -1 else Lib.index (y::r) [46,46]+1:=rfl;have d:dots (x::y::r)=((x==46&&y==46)||dots (y::r)):=rfl;have p:List.isPrefixOf [46,46] (x::y::r)=(x==46&&y==46):=by simp only[List.isPrefixOf,GI];rw[Jb (a:=(46:UInt8)),Jb (a:=(46:UInt8))]
    rw[e,d,p];cases (x==46&&y==46)with
    | true=>right;exact⟨by rw[Du rfl];exact F7 0,rfl⟩
    | false =>
     rcases ih with ⟨h1,h2⟩ | ⟨h1,h2⟩
     .left;rw[h1,h2];exact⟨rfl,rfl⟩
     .right;rw[h2];refine⟨?_,rfl⟩;rw[Dt (by decide),Dt (by simp;omega)];omega
 intro s;unfold Lib.contains;rcases key s with ⟨h1,h2⟩ | ⟨h1,h2⟩
 .rw[h1,h2];rfl
 .rw[h2];exact Dk h1
def Aa8 (s:Bs):Bool:= !(decide (s.length<1)||decide (64<s.length)||(s.getD 0 0==46)||(s.getD (s.length - 1) 0==46)||dots s)&&s.all Ti
def Ajv (c:UInt8): ∀ l:Bs,decide (Lib.indexByte l c>=0)=l.any (· ==c):=by
 intro l
 induction l with
 | nil=>rfl
 | cons b r ih =>
  show decide ((if(b==c)=true then(0:Int)else if Lib.indexByte r c== -1 then -1 else Lib.indexByte r c+1)>=0)=(b==c||r.any (· ==c));cases b==c with
  | true=>rfl
  | false =>
   rw[Dt (by decide),EL,<- ih];have:=Lib.indexByte_ge r c;by_cases h:Lib.indexByte r c= -1
   .rw[h];rfl
   .rw[Dt (by simpa using h)];congr 1;apply propext;omega
def Ay7 (c:UInt8):c.toNat.toUInt8=c:=Ih
def Ajt (N:Nat) (s:Bs) (hN:1048578<N) (hs:s.length<=1048576):Y0 N s=some (Aa8 s):=by
 unfold Y0 Aa8;try simp only[clR]
 unfold strings_Contains;rw[Dk (show s.length<4294967281 by omega),cond_true,Ajg];by_cases h1:s.length<1
 .have:s=[]:=Gt.1 (by omega);subst this;rfl
 .by_cases h2:64<s.length
  .simp (disch:=omega) only[JD,Option.isSome_some]
  .simp (disch:=omega) only[JD,Option.isSome_some,Option.getD_some,beq46];cases s.getD 0 0==46<;>cases s.getD (s.length - 1) 0==46<;>cases dots s<;>first | rfl | skip
   simp only[EL,EO,cond_false,EC,ER];have hml:((s.map λb=>((b.toNat:Nat):Int)).length)=s.length:=D5 ..;refine Ey (QM (S:=Unit) (R:=Bool) (mk:=λi _=>((i:Int),s.map λb=>((b.toNat:Nat):Int))) s 0 (λc _=>bif Ti c then .inr ()else .inl false) some (λ_=>some true) ?_ ?_ N ()) ?_
   .intro i _ hi k;obtain⟨x,y,hx,hy,hxy⟩:=qQ N (s.getD i 0);have hg:(s.map λb=>((b.toNat:Nat):Int)).getD i 0=(((s.getD i 0).toNat:Nat):Int):=by rw[getD_lt _ i 0,getD_lt s i 0 hi,Hm]
    simp (disch:=omega) only[JD,hml,hg,hx,hy,JW,strings_IndexByte,Ay7,Ajv];unfold Ti;rw[<- hxy];show _=bif _||wQ.any (· ==s.getD i 0)then _ else _;rw[show([33,35,36,37,38,39,42,43,45,47,61,63,94,95,96,123,124,125,126,46]:Bs)=wQ from rfl];cases x<;>cases y<;>cases wQ.any (· ==s.getD i 0)<;>rfl
   .intro _ k;simp (disch:=omega) only[JD,hml]
   .rw[AaA];cases s.all Ti<;>rfl
def Ald {c:UInt8} {s:Bs} (h:c∉s):Lib.cut s [c]=(s,[],false):=by unfold Lib.cut;rw[index_none c s h];rfl
def Alb {c:UInt8} {a r:Bs} (h:c∉a):Lib.cut (a++c::r) [c]=(a,r,true):=by
 unfold Lib.cut;rw[AdT c a r h,A0h];have e1:((a.length:Int)).toNat=a.length:=by omega
 rw[e1,Ia,<- Fj,G7];rfl
def Pq (s:Bs):Bool:=(Lib.cut s [64]).2.2&&decide (s.length<=128)&&Aa8 (Lib.cut s [64]).1&&QZ (Lib.cut s [64]).2.1
def Aaz (N:Nat) (s:Bs) (hN:1048578<N) (hs:s.length<=1048576):VK N s=some (Pq s):=by
 unfold VK Pq strings_Cut;try simp only[clR]
 rw[Dk (show s.length<4294967281 by omega),cond_true,Js]
 have hl:(Lib.cut s [64]).1.length<=s.length:=by
  rcases aY 64 s with h | ⟨a,r,rfl,ha⟩
  .rw[Ald h];exact DD _
  .rw[Alb ha];simp
 rw[Ajt N _ hN (by omega),Xc N _];rw[show decide (((s.length:Nat):Int)<=128)=decide (s.length<=128) by congr 1;apply propext;omega];rfl
def ArS (r:Bs): ∀ a:Bs,(List.range a.length).any (λi=> !Ti ((a++64::r).getD i 0)||((a++64::r).getD i 0==46&&(a++64::r).getD (i+1) 0==46))=(!(a.all Ti)||dots a):=by
 intro a
 induction a with
 | nil=>rfl
 | cons x t ih =>
  rw[List.length_cons,Hg,List.any_cons,List.any_map,List.all_cons];have e:(List.range t.length).any ((λi=> !Ti ((x::t++64::r).getD i 0)||((x::t++64::r).getD i 0==46&&(x::t++64::r).getD (i+1) 0==46))∘Nat.succ)=(List.range t.length).any (λi=> !Ti ((t++64::r).getD i 0)||((t++64::r).getD i 0==46&&(t++64::r).getD (i+1) 0==46)):=rfl;rw[e,ih];show((!Ti x||(x==46&&(t++64::r).getD 0 0==46))||_)=_;cases t with
  | nil =>show((!Ti x||(x==46&&(64:UInt8)==46))||(!true||false))=(!(Ti x&&true)||false);cases Ti x<;>cases x==46<;>rfl
  | cons y t =>show((!Ti x||(x==46&&y==46))||(!((y::t).all Ti)||dots (y::t)))=(!(Ti x&&(y::t).all Ti)||((x==46&&y==46)||dots (y::t)));cases Ti x<;>cases (y::t).all Ti<;>cases x==46&&y==46<;>cases dots (y::t)<;>rfl
def uP (n i:Nat) (h:i<n):(List.range n).getD i 0=i:=by rw[getD_lt _ _ _ (by rw[DW];exact h),Jl]
def AwW {a r:Bs} (ha:64∉a):Pq (a++64::r)=(decide ((a++64::r).length<=128)&&Aa8 a&&QZ r):=by unfold Pq;rw[Alb ha,ER]
def AhM (N:Nat) (s:Bs) (hN:1048578<N) (hs:s.length<=1048576):aC N s=some (bif Pq s then((Lib.cut s [64]).1,(Lib.cut s [64]).2.1,true)else([],[],false)):=by
 unfold aC;try simp only[clR]
 by_cases h0:128<s.length
 .rw[Afc (by omega),cond_true];unfold Pq;rw[AfO h0];simp
 rw[Aky (by omega),cond_false];refine(AmX (mk:=λi=>(i:Int)) (out:=λi=>(i:Int)) s 0 (λc=>c==64) ?_ ?_ N (by omega)).trans ?_
 .intro i k hi;simp (disch:=omega) only[JD,AyE,JW];cases s.getD i 0==64<;>rfl
 .intro k;simp (disch:=omega) only[JD]
 .rcases aY 64 s with h | ⟨a,r,rfl,ha⟩
  .rw[Al2 _ _ (λx hx=>Ei (b:=(64:UInt8)) (show x≠64 from λhx2=>h (by rw[<- hx2];exact hx)))];unfold Pq;rw[Ald h];simp (disch:=omega) only[JD]
  .rw[Aqj _ a 64 r (λx hx=>Ei (b:=(64:UInt8)) (show x≠64 from λhx2=>ha (by rw[<- hx2];exact hx))) rfl,AwW ha,Alb ha];have hlen:(a++64::r).length=a.length+r.length+1:=by simp;omega
   rw[Oz,ER];unfold Aa8;by_cases h1:a.length<1
   .simp (disch:=omega) only[JD]
   by_cases h2:64<a.length
   .simp (disch:=omega) only[JD]
   have hcut:J4 (a++64::r) (a.length+1) (a++64::r).length=r:=by unfold J4;rw[E5,<- Fj,G7];rfl
   have hcut0:J4 (a++64::r) 0 a.length=a:=by unfold J4;rw[G5,Ia]
   have hg: ∀ i,i<a.length->(a++64::r).getD i 0=a.getD i 0:=λi hi=>by rw[Dn,Ez hi,<- Dn]
   have hg0:=hg 0 (by omega);have hg1:=hg (a.length - 1) (by omega);rw[w64,w64];rw[JW,Int.toNat_natCast,Ag0,hcut,hg0,hg1,TZ N r hN,beq46,beq46];rw[Vw (show(1:Int)<=a.length by omega),Aky (show(a.length:Int)<=64 by omega),QX (show(a.length:Int)≠((a++64::r).length:Nat) by omega),Sv (show(0:Int)<=((a.length+1:Nat):Int) by omega),Sv (show((a.length+1:Nat):Int)<=((a++64::r).length:Nat) by omega),Vx (show(0:Int)<((a++64::r).length:Nat) by omega),Sv (show(0:Int)<=(a.length:Int) - 1 by omega),Vx (show(a.length:Int) - 1<((a++64::r).length:Nat) by omega),Ak7 (show 1<=a.length by omega),Ak7 (show a.length<=64 by omega)];simp only[DZ,Ju,EL,Option.getD_some,Option.isSome_some];cases QZ r<;>cases a.getD 0 0==46<;>cases a.getD (a.length - 1) 0==46<;>first | (simp;done) | skip
   simp only[ED,EL,EC,cond_false,ER,GI];refine Ey (QM (S:=Unit) (R:=Bs×Bs×Bool) (mk:=λi _=>(i:Int)) (List.range a.length) 0 (λi _=>bif (!Ti ((a++64::r).getD i 0)||((a++64::r).getD i 0==46&&(a++64::r).getD (i+1) 0==46))then .inl ([],[],false)else .inr ()) some (λ_=>some (a,r,true)) ?_ ?_ N () (by rw[DW];omega)) ?_
   .intro i _ hi k;rw[DW]at hi;rw[uP _ _ hi];have hAm:=AkE N wQ ((a++64::r).getD i 0) (by show 20<N;omega) (by decide);rw[show wQ=([33,35,36,37,38,39,42,43,45,47,61,63,94,95,96,123,124,125,126,46]:Bs)from rfl]at hAm;simp (disch:=omega) only[JD,sN,JW,hAm,beq46,Option.isSome_some,Option.getD_some];unfold Ti;rw[show wQ=([33,35,36,37,38,39,42,43,45,47,61,63,94,95,96,123,124,125,126,46]:Bs)from rfl];generalize List.any _ _=u;generalize ((a++64::r).getD (i+1) 0==46)=v;cases UL ((a++64::r).getD i 0)<;>cases u<;>cases (a++64::r).getD i 0==46<;>cases v<;>rfl
   .intro _ k;rw[DW];simp (disch:=omega) only[JD,hcut,hcut0,JW]
   .rw[AiA,ArS];cases a.all Ti<;>cases dots a<;>rfl
end Go.Proofs.YtacidcemomccpaaGreatDoor.Pl
