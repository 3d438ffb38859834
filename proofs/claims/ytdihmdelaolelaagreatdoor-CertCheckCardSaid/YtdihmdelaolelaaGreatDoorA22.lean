import Derived.Test.YtdihmdelaolelaaGreatDoorA21
import Derived.Sort.Walk0
import Derived.Lib.TrimUEq
set_option linter.all false
namespace Go.Proofs.YtdihmdelaolelaaGreatDoor.Pl
open IntKind (i64 u8 u32 u64)
open Go Vm
def hiD (m:Nat):List Nat:=if m=0 then []else hiD (m / 128)++[m % 128]
termination_by m
decreasing_by omega
def Art:hiD 0=[]:=by rw[hiD];rfl
def AwP {m:Nat} (h:m≠0):hiD m=hiD (m / 128)++[m % 128]:=by rw[hiD,Dp h]
def ApR: ∀(k m:Nat),m<128 ^ k->(hiD m).map (· +128)=hi m/\(hiD m).length<=k/\ ∀ x∈hiD m,x<128:=by
 intro k
 induction k with
 | zero =>intro m h;rw[Nat.pow_zero]at h;rw[show m=0 by omega,Aep,Art];exact⟨rfl,DK _,fun x h=>by cases h⟩
 | succ k ih =>
  intro m h;by_cases h0:m=0
  .rw[h0,Aep,Art];exact⟨rfl,Em _,fun x h=>by cases h⟩
  .obtain⟨h1,h2,h3⟩:=ih (m / 128) (by rw[Nat.pow_succ]at h;omega);rw[Aru h0,AwP h0,Fq,h1,Dv];refine⟨rfl,by simp only[List.length_singleton];omega,fun x hx=> ?_⟩;rw[DR,Ed]at hx;rcases hx with hx | rfl
   .exact h3 x hx
   .omega
def X9 (n:Nat):List Nat:=hiD (n / 128)++[n % 128]
def bump:List Int->List Int
 | []=>[]
 | [x]=>[x]
 | x::y::r=>u8.wrap (x+128)::bump (y::r)
def Atc (z:Int): ∀ a:List Int,bump (a++[z])=a.map (fun x=>u8.wrap (x+128))++[z]:=by
 intro a
 induction a with
 | nil=>rfl
 | cons x r ih =>
  cases r with
  | nil=>rfl
  | cons y r =>show u8.wrap (x+128)::bump ((y::r)++[z])=_;rw[ih];rfl
def Ata (n:Nat) (h:n<34359738368):bump (ints (X9 n))=ints (XG n):=by obtain⟨h1,h2,h3⟩:=ApR 4 (n / 128) (by omega);unfold X9 XG;rw[jX,jX,<- h1];show bump (ints (hiD (n / 128))++[((n % 128:Nat):Int)])=_;rw[Atc];congr 1;unfold ints;rw[EU,EU];refine Ez fun x hx=> ?_;have:=h3 x hx;show u8.wrap ((x:Int)+128)=((x+128:Nat):Int);rw[w8];omega
def Avz (n:Nat) (h:n<34359738368):(X9 n).length<=5:=by obtain⟨h1,h2,h3⟩:=ApR 4 (n / 128) (by omega);unfold X9;rw[Dv];simp only[List.length_singleton];omega
def Avy {ρ :Type} (N n:Nat) (L acc:List Int) (hn:n<34359738368) (hN:16<N) (fin:List Int×List Int×List Int->Option ρ) :
 J3 (X:=Int×List Int×List Int×List Int) (Y:=List Int×List Int×List Int) (U4 fun t8b l40192b l1004096b l1004112b k3 x4 =>
         Vm.chk (decide ((1+l1004096b.length)*2<=140737488355328))
          (bif i64.wrap (t8b.tdiv 128)==0 then
            x4 (l40192b,[u8.wrap (t8b.tmod 128)]++l1004096b,l1004112b)
          else
           k3
            (i64.wrap (t8b.tdiv 128),l40192b,
              [u8.wrap (t8b.tmod 128)]++l1004096b,l1004112b))) N ((n:Int),L,[],acc) fin=fin (L,ints (X9 n),acc):=by
 refine Ew (Nu (I:=fun x:Int×List Int×List Int×List Int=> ∃(n:Nat) (c:List Int),x=((n:Int),L,c,acc)/\n<34359738368/\c.length+cnt n<=10) (μ :=fun x=>cnt x.1.toNat) (F:=fun x=>fin (L,ints (X9 x.1.toNat)++x.2.2.1,acc)) ?_ N ((n:Int),L,[],acc) ⟨n,[],rfl,hn,by have:=cnt_le 5 n (by omega);simp only[List.length_nil];omega⟩ (by show cnt ((n:Int)).toNat<N;rw[show((n:Int)).toNat=n by omega];have:=cnt_le 5 n (by omega);omega)) ?_
 .rintro x ⟨n,c,rfl,h1,h2⟩ k hk;dsimp only[U4];have ht:((n:Int)).toNat=n:=by omega
  rw[Dk,Jz,show((n:Int)).tdiv 128=((n / 128:Nat):Int)from rfl,show((n:Int)).tmod 128=((n % 128:Nat):Int)from rfl,w64,w8,show((n % 128:Nat):Int) % 256=((n % 128:Nat):Int) by omega,ht];by_cases h0:n / 128=0
  .rw[show(((n / 128:Nat):Int)==0)=true by rw[h0];rfl,cond_true];unfold X9;rw[h0,Art];rfl
  .have hb:(((n / 128:Nat):Int)==0)=false:=by
    apply Gg.2;intro h;have:=G6 h;omega
   have hn0:n≠0:=fun e=>h0 (by rw[e]);have e1:(((n / 128:Nat)):Int).toNat=n / 128:=by omega
   have hc:=Ala hn0;rw[hb,cond_false,hk _ ⟨n / 128,_,rfl,by omega,by rw[Dv,List.length_singleton];omega⟩ (by show cnt (((n / 128:Nat)):Int).toNat<cnt ((n:Int)).toNat;rw[e1,ht];omega)];show fin (L,ints (X9 (((n / 128:Nat)):Int).toNat)++([((n % 128:Nat):Int)]++c),acc)=_;rw[e1,<- Ee];have:ints (X9 (n / 128))++[((n % 128:Nat):Int)]=ints (X9 n):=by rw[show X9 n=X9 (n / 128)++[n % 128] by unfold X9;rw[AwP h0],jX];rfl
   rw[this]
 .show fin (L,ints (X9 ((n:Int)).toNat)++[],acc)=_;rw[DV,show((n:Int)).toNat=n by omega]
def Atb {ρ :Type} (N:Nat) (L A acc:List Int) (hA:A.length<=10) (hN:16<N) (fin:List Int×List Int×List Int->Option ρ) :
 J3 (X:=Int×List Int×List Int×List Int) (Y:=List Int×List Int×List Int) (U4 fun t10d l40192d l43264d l1012288d k5 x6 =>
         bif decide (i64.wrap (t10d+1)< ↑l43264d.length)then
          Vm.chk (decide (0<=t10d))
           (Vm.chk (decide (t10d< ↑l43264d.length))
             (Vm.chk (decide (t10d.toNat<l43264d.length))
               (Vm.chk (decide (0<=t10d))
                 (Vm.chk (decide (t10d< ↑l43264d.length))
                   (Vm.chk (decide (t10d.toNat<l43264d.length))
                     (k5
                       (i64.wrap (t10d+1),l40192d,
                         l43264d.set t10d.toNat
                          (u8.wrap (l43264d.getD t10d.toNat 0+128)),
                         l1012288d)))))))
         else x6 (l40192d,l43264d,l1012288d)) N (0,L,A,acc) fin=fin (L,bump A,acc):=by
 refine Ew (Nu (I:=fun x:Int×List Int×List Int×List Int=> ∃ p s:List Int,x=((p.length:Int),L,p++s,acc)/\p.length+s.length<=10) (μ :=fun x=>x.2.2.1.length - x.1.toNat) (F:=fun x=>fin (L,x.2.2.1.take x.1.toNat++bump (x.2.2.1.drop x.1.toNat),acc)) ?_ N (0,L,A,acc) ⟨[],A,rfl,by simpa using hA⟩ (by show A.length - 0<N;omega)) ?_
 .rintro x ⟨p,s,rfl,h1⟩ k hk;dsimp only[U4];have ht:((p.length:Int)).toNat=p.length:=by omega
  rw[w64,ht,Dv,H9,Gz]
  match s with
  | [] =>rw[Dq (by simp only[List.length_nil];omega),cond_false];rfl
  | [x] =>rw[Dq (by simp only[List.length_singleton];omega),cond_false];rfl
  | x::y::r =>
   simp only[List.length_cons]at h1;have hg:(p++x::y::r).getD p.length 0=x:=by rw[Dn,ED (DK _),GL];rfl
   have hset:(p++x::y::r).set p.length (u8.wrap (x+128))=(p++[u8.wrap (x+128)])++(y::r):=by rw[G5 _ _ (DK _),GL,Ee];rfl
   simp only[List.length_cons];rw[Dk,cond_true,Dk,Jz,Dk,Jz,Dk];simp only[Jz];rw[hg,hset];have e1:((p.length:Int)+1)=(((p++[u8.wrap (x+128)]).length:Nat):Int):=by rw[Dv,List.length_singleton];omega
   rw[e1,hk _ ⟨p++[u8.wrap (x+128)],y::r,rfl,by rw[Dv];simp only[List.length_cons,List.length_nil];omega⟩ (by
    show((p++[u8.wrap (x+128)])++(y::r)).length - (((p++[u8.wrap (x+128)]).length:Nat):Int).toNat<(p++x::y::r).length - ((p.length:Nat):Int).toNat
    simp only[Dv,List.length_cons,List.length_nil];omega)]
   have e2:(((p++[u8.wrap (x+128)]).length:Nat):Int).toNat=(p++[u8.wrap (x+128)]).length:=by omega
   show fin (L,((p++[u8.wrap (x+128)])++(y::r)).take (((p++[u8.wrap (x+128)]).length:Nat):Int).toNat++bump (((p++[u8.wrap (x+128)])++(y::r)).drop (((p++[u8.wrap (x+128)]).length:Nat):Int).toNat),acc)=_;rw[e2,H9,Gz,Ee];rfl
 .rfl
def Abx (N:Nat) (s:Bs) (hN:16<N) (hs:s.length<=1048576) (hl:s.length+1<N):V3 N s=some (encR (Nr s)):=by
 unfold V3;try simp -zeta only[Ap]
 rw[sF N s hN hs hl,Jt];cases ha:Nr s with
 | none=>rfl
 | some l =>
  obtain⟨h1,h2,h3,h4⟩:=gW ha;have hf:=vC h1 h3 h4;rw[show AeR (some l)=(ints l,true)from rfl];dsimp only;rw[MP,EI,cond_false,Dk,Jz,Dk,Jz,XW,XW];rw[w64 (x:=40*((l.getD 0 0:Nat):Int)),w64,show(40:Int)*((l.getD 0 0:Nat):Int)+((l.getD 1 0:Nat):Int)=((40*l.getD 0 0+l.getD 1 0:Nat):Int) by omega];try dsimp only
  rw[<- MP l,AmA,MP];generalize hd:l.drop 2=d;have hdl:d.length<=10:=by rw[<- hd,Es];omega
  have hdm: ∀ x∈d,x<=2147483647:=fun x hx=>h3 x (FQ (hd▸hx));have he: [((40*l.getD 0 0+l.getD 1 0:Nat):Int)]++ints d=ints ((40*l.getD 0 0+l.getD 1 0)::d):=rfl;rw[he];have hout:jS l=((40*l.getD 0 0+l.getD 1 0)::d).flatMap XG:=by unfold jS;rw[hd];rfl
  have hb:=AaL (ApN h1 h3 h4);rw[hout]at hb;show _=some ((jS l).map UInt8.ofNat,0);rw[hout];generalize hee:(40*l.getD 0 0+l.getD 1 0)::d=e at hb ⊢;have hel:e.length<=11:=by rw[<- hee,List.length_cons];omega
  have hem: ∀ x∈e,x<34359738368:=by
   intro x hx;rw[<- hee]at hx;rcases D8.1 hx with rfl | hx
   .exact hf.1
   .have:=hdm x hx;omega
  rw[Dk,Jz,Dk (by rw[MP];omega),Jz];refine Ew (OC (S:=List Int) (mk:=fun i a=>(i,ints e,a)) (out:=fun a=>a) e 0 (fun i a=>a.length<=5*i) (iR some (fun a n=>a++ints (XG n)) none) ?_ ?_ N [] (DK _)) ?_
  .intro i a hi ha;rw[getD_lt e i 0 hi];have hn:=hem e[i] (Ec hi);have hdl:=Avz e[i] hn;have hsl:=kX e[i] hn;refine AnP ⟨fun k=> ?_,?_⟩
   .show(bif decide ((i:Int)<((ints e).length:Int))then _ else _)=_;rw[MP,Dk,cond_true,Dk,Jz,Jz,show((i:Int)).toNat=i by omega,Dk,Jz,XW,getD_lt e i 0 hi,Avy N e[i] (ints e) a hn hN];dsimp only[U3];rw[Atb N (ints e) (ints (X9 e[i])) a (by rw[MP];omega) hN];dsimp only[U3];rw[Ata _ hn,MP,Dk,Jz,w64]
   .rw[Dv,MP];omega
  .intro a k ha;show(bif decide ((e.length:Int)<((ints e).length:Int))then _ else _)=_;rw[MP,A0x,cond_false]
  .rw[AnG,AiY];dsimp only[Option.elim];rw[AiL,List.nil_append];rw[hb.1,hb.2,Jz]
def iT (N:Nat) (s:Bs) (hN:16<N) (hs:s.length<=1048576) (hl:s.length+1<N):OU N s=some (Nr s).isSome/\LP N s=some (Nr s).isSome:=by
 unfold OU LP;rw[AdA N s hN hs,sF N s hN hs hl,Jt,Jt];cases ha:Nr s with
 | none=>exact⟨rfl,rfl⟩
 | some l =>obtain⟨h1,h2,h3,h4⟩:=gW ha;refine⟨?_,rfl⟩;show some (!(ints l).isEmpty)=_;rw[show(ints l).isEmpty=false by rw[GN];exact⟨_,DN.2 ⟨l.getD 0 0,by rw[getD_lt l 0 0];exact Ec _,rfl⟩⟩];rfl
abbrev dd (n:Nat):Bs:=Lib.decDigits n
def qR {n:Nat} (h:n<10):dd n=[UInt8.ofNat (48+n)]:=Lib.decDigits_one h
def iU {n:Nat} (h: ¬ n<10:=by omega):dd n=dd (n / 10)++[UInt8.ofNat (48+n % 10)]:=by show Lib.decDigits n=_;rw[Lib.decDigits,dif_neg h]
def Azp (n:Nat):dd n≠ []:=by
 by_cases h:n<10
 .rw[qR h];simp
 .rw[iU h];simp
def AlQ (k n:Nat) (h:n<10 ^ (k+1)):1<=(dd n).length/\(dd n).length<=k+1:=by
 constructor
 .exact GG.2 (Azp n)
 .induction k generalizing n with
  | zero=>rw[qR (by simpa using h)];exact DK _
  | succ k ih =>
   by_cases h1:n<10
   .rw[qR h1];simp
   .rw[iU h1,Dv,List.length_singleton];have:=ih (n / 10) (by rw[Nat.pow_succ]at h;omega);omega
def XO (k:Nat) (h:k<10):([u8.wrap (i64.wrap ((48:Int)+(k:Int)))].all Vm.isByte)=true/\ [u8.wrap (i64.wrap ((48:Int)+(k:Int)))].map Vm.byteOf=[UInt8.ofNat (48+k)]:=by rw[w64,w8,show((48:Int)+(k:Int)) % 256=((48+k:Nat):Int) by omega];have:=AaL (l:=[48+k]) (by intro x hx;rw[Ed]at hx;omega);exact this
def Ayc (N:Nat): ∀(k n:Nat),n<10 ^ (k+1)->k<=17-> ∀ F,k<F->Ug N F (n:Int)=some (dd n):=by
 intro k
 induction k with
 | zero =>
  intro n h _ F hF;obtain⟨F,rfl⟩: ∃ G,F=G+1:=⟨F - 1,by omega⟩
  have h1:n<10:=by simpa using h
  show TU N (Ug N F) (n:Int)=_;unfold TU;try simp -zeta only[Ap]
  rw[Dk,cond_true,(XO n h1).1,(XO n h1).2,Jz,qR h1]
 | succ k ih =>
  intro n h hk F hF;obtain⟨F,rfl⟩: ∃ G,F=G+1:=⟨F - 1,by omega⟩
  show TU N (Ug N F) (n:Int)=_;unfold TU;try simp -zeta only[Ap]
  by_cases h1:n<10
  .rw[Dk,cond_true,(XO n h1).1,(XO n h1).2,Jz,qR h1]
  .have h18:(10:Nat) ^ (k+1+1)<=10 ^ 18+0->n<9223372036854775807:=fun h2=>by omega
   have h19:n<9223372036854775807:=h18 (by rw[Nat.add_zero];exact Gi (by decide) (by omega));have hl:=AlQ k (n / 10) (by rw[Nat.pow_succ]at h;omega);rw[A0x,cond_false,show((n:Int)).tdiv 10=((n / 10:Nat):Int)from rfl,show((n:Int)).tmod 10=((n % 10:Nat):Int)from rfl,w64 (x:=((n / 10:Nat):Int)),ih (n / 10) (by rw[Nat.pow_succ]at h;omega) (by omega) F (by omega),Jt];rw[(XO (n % 10) (by omega)).1,(XO (n % 10) (by omega)).2,Jz];dsimp only;rw[Dk (by simp only[List.length_singleton];omega),Jz,iU h1]
def leB (a b:Bs):Bool:=Vm.bytesLess a b||a==b
def AtW (a b:Bs):leB a b=decide (a<=b):=by
 unfold leB Vm.bytesLess;rw[bytesLess_eq];by_cases h:a=b
 .subst h;rw[EO,EM];exact(Dk (List.le_refl a)).symm
 .rw[Eg h,ES];by_cases h2:a<b
  .rw[Dk h2,Dk (List.le_of_lt h2)]
  .rw[Dq h2,Dq];intro h3;exact h (Jm h3 (by simpa using h2))
def WV (x:Bs):List Bs->List Bs
 | []=>[x]
 | y::r=>bif leB y x then y::WV x r else x::y::r
def vN (x:Bs): ∀ s:List Bs,(WV x s).Perm (x::s):=by
 intro s
 induction s with
 | nil=>exact I9 _
 | cons y r ih =>
  show(bif leB y x then y::WV x r else x::y::r).Perm _;cases leB y x with
  | true=>exact(List.Perm.cons y ih).trans (List.Perm.swap x y r)
  | false=>exact I9 _
def AvF (x:Bs): ∀ s:List Bs,s.Pairwise (fun a b=>a<=b)->(WV x s).Pairwise (fun a b=>a<=b):=by
 intro s
 induction s with
 | nil=>intro _;exact GY _ _
 | cons y r ih =>
  intro h;rw[EJ]at h;show(bif leB y x then y::WV x r else x::y::r).Pairwise _;cases hl:leB y x with
  | true =>
   rw[AtW,D6]at hl;rw[cond_true,EJ];refine⟨fun z hz=> ?_,ih h.2⟩;rcases D8.1 ((vN x r).mem_iff.1 hz)with rfl | hz
   .exact hl
   .exact h.1 z hz
  | false =>
   rw[AtW,Eh]at hl
   have hxy:x<=y:=by
    rcases List.le_total x y with h | h
    .exact h
    .exact absurd h hl
   rw[cond_false,EJ,EJ];refine⟨fun z hz=> ?_,h⟩;rcases D8.1 hz with rfl | hz
   .exact hxy
   .exact List.le_trans hxy (h.1 z hz)
def Amt: ∀(l s:List Bs),s.Pairwise (fun a b=>a<=b)->(l.foldl (fun s x=>WV x s) s).Pairwise (fun a b=>a<=b)/\(l.foldl (fun s x=>WV x s) s).Perm (l++s):=by
 intro l
 induction l with
 | nil=>intro s h;exact⟨h,I9 _⟩
 | cons x r ih =>intro s h;obtain⟨h1,h2⟩:=ih (WV x s) (AvF x s h);refine⟨h1,h2.trans ?_⟩;exact((vN x s).append_left r).trans List.perm_middle
def Awb (l:List Bs):(l.foldl (fun s x=>WV x s) []).flatten=Ri l:=by
 unfold Ri;congr 1;obtain⟨h1,h2⟩:=Amt l [] List.Pairwise.nil;rw[DV]at h2;refine List.Perm.eq_of_pairwise (le:=fun a b=>a<=b) (fun a b _ _ h3 h4=>Jm h3 h4) h1 ?_ (h2.trans (H7 l _).symm)
 have:=List.pairwise_mergeSort (le:=fun x y:Bs=>decide (x<=y)) (fun a b c h3 h4=>by
  rw[D6]at *
  exact List.le_trans h3 h4) (fun a b=>by
  rw[Ej,D6,D6];exact List.le_total a b) l
 exact this.imp (fun h=>by simpa using h)
def Ax3 (x:Bs): ∀ s:List Bs,s.take (s.findIdx fun y=> !leB y x)++x::s.drop (s.findIdx fun y=> !leB y x)=WV x s:=by
 intro s
 induction s with
 | nil=>rfl
 | cons y r ih =>
  rw[Gw];show _=bif leB y x then y::WV x r else x::y::r;cases leB y x with
  | true=>rw[EI,cond_false,cond_true,List.take_succ_cons,IM,List.cons_append,ih]
  | false=>rfl
def Aig (N:Nat) (l:List Bs) (hN:1048578<N) (hl:l.length<=1048576) (hf:l.flatten.length<=1099511627776):aP N l=some (Ri l):=by
 unfold aP;try simp only[clR]
 refine(Uf (S:=List Bs) (R:=Unit) (mk:=fun i s=>((i:Int),s)) l [] (fun i s=>s.length=i/\s=(l.take i).foldl (fun s x=>WV x s) []) (fun x s=>.inr (WV x s)) (fun _=>none) (fun s=>some s.flatten) ?_ ?_ ?_ N [] ⟨rfl,rfl⟩ (by omega)).trans ?_
 .intro i s hi hI k;obtain⟨hs,_⟩:=hI;have hp:(WV (l.getD i []) s).length=i+1:=by rw[(vN _ s).length_eq,List.length_cons,hs]
  simp (disch:=omega) only[JF];refine(AnJ (mk:=fun j=>((j:Int),s)) (out:=fun j=>((j:Int),s)) s [] (fun y=> !leB y (l.getD i [])) ?_ ?_ N (by omega)).trans ?_
  .intro j k hj;simp (disch:=omega) only[JF,JX];unfold leB;cases (Vm.bytesLess (s.getD j []) (l.getD i [])||s.getD j []==l.getD i [])<;>rfl
  .intro k;simp (disch:=omega) only[JF]
  .have hc:=Ax3 (l.getD i []) s;have hle:(s.findIdx fun y=> !leB y (l.getD i []))<=s.length:=List.findIdx_le_length;generalize (s.findIdx fun y=> !leB y (l.getD i []))=m at hc hle;have hc1:J6 s 0 m=s.take m:=rfl;have hc2:J6 s m s.length=s.drop m:=by unfold J6;rw[EP]
   have hl1:(s.take m).length=m:=by rw[DD];omega
   have hl2:(s.drop m).length=s.length - m:=Es ..;have hl3:(s.take m++[l.getD i []]).length=m+1:=by rw[Dv,hl1];rfl
   simp (disch:=omega) only[JF,hc1,hc2,hl1,hl2,hl3,JX];rw[Ee,List.singleton_append,hc]
 .intro i s s' hi hI he;injection he with he;subst he;refine⟨by rw[(vN _ s).length_eq,List.length_cons,hI.1],?_⟩;rw[hI.2,Fh,D9 hi,Ib,getD_lt l i _ hi];rfl
 .intro s k hI
  have hp:s.flatten.length<=1099511627776:=by
   have:=(Amt l [] List.Pairwise.nil).2;rw[DV]at this;have h2:=hI.2;rw[EP]at h2;rw[<- h2]at this;have h3:=(this.map List.length).sum_nat
   rw[Gt]at hf ⊢;omega
  have hsl:=hI.1;simp (disch:=omega) only[JF];refine(Zm (mk:=fun i t=>(t,(i:Int),s)) s [] id some ?_ ?_ N).trans ?_
  .intro i t hi ht k;rw[Gj]at ht;have ht:t.length+(s.getD i []).length<=s.flatten.length:=ht;simp (disch:=omega) only[JF,JX];rfl
  .intro t k;simp (disch:=omega) only[JF]
  .rw[Gj]
 .have: ∀(l s:List Bs),OX (R:=Unit) (fun x (s:List Bs)=>.inr (WV x s)) l s= .inr (l.foldl (fun s x=>WV x s) s):=by
   intro l
   induction l with
   | nil=>intro s;rfl
   | cons x r ih=>intro s;rw[N9];exact ih _
  rw[this,Ahm,Awb]
def AtU {X Y ρ :Type} {B:X->(X->Option ρ)->(Y->Option ρ)->Option ρ} {kx:Y->Option ρ} (P:X->Option ρ ->Prop) (μ :X->Nat)
 (h: ∀ x v,P x v-> ∀ k:X->Option ρ,(∀ x' v',P x' v'-> μ x'< μ x->k x'=v')->B x k kx=v): ∀(N:Nat) (x:X) (v:Option ρ),P x v-> μ x<N->J3 B N x kx=v:=by
 intro N
 induction N with
 | zero=>intro x v _ h;omega
 | succ N ih=>intro x v hI hm;exact h x v hI _ (fun x' v' hI' hm'=>ih x' v' hI' (by omega))
def cc (acc:List Nat):Nat:=if acc=[]then 0 else acc.length+1
def Yh {E ρ :Type} (p:E->Bool) (bad:Option ρ) (fin:Unit->Option ρ): ∀ l:List E,Qz (fun e (_:Unit)=>if p e=true then .inr ()else .inl bad) fin l ()=if l.all p=true then fin ()else bad:=by
 intro l
 induction l with
 | nil=>rfl
 | cons e r ih =>
  rw[List.all_cons];unfold Qz;by_cases h:p e=true
  .rw[Du h,h,EH];exact ih
  .rw[Dp h,Dp (by simp [h])]
def SI {X E ρ :Type} {p:E->Bool} {bad:Option ρ} {e:E} {b:(X->Option ρ)->Option ρ} {nx:Unit->X} {I:Unit->Prop} (h0:p e=false-> ∀ k,b k=bad) (h1:p e=true->(∀ k,b k=k (nx ()))/\I ()):l7 b nx I (if p e=true then .inr ()else .inl bad):=by
 cases h:p e with
 | true=>rw[Du rfl];exact h1 h
 | false=>rw[Dp (by decide)];exact h0 h
def Ac8:Bs:=[32,39,40,41,43,44,45,46,47,58,61,63]
def UH (c:UInt8):Bool:=(decide (97<=c.toNat)&&decide (c.toNat<=122))||(decide (65<=c.toNat)&&decide (c.toNat<=90))||(decide (48<=c.toNat)&&decide (c.toNat<=57))
def prC (c:UInt8):Bool:=UH c||Ac8.any (· ==c)
def iaC (c:UInt8):Bool:=decide (32<=c.toNat)&&decide (c.toNat<=126)
def tN {P:UInt8->Prop} (h: ∀ n:Fin 256,P (UInt8.ofNat n.val)) (c:UInt8):P c:=by have:=h ⟨c.toNat,GR c⟩;rwa [Ic]at this
def tX (N:Nat) (c:UInt8):QG N (c.toNat:Int)=some (UH c):=by refine tN (P:=fun c=>QG N (c.toNat:Int)=some (UH c)) ?_ c;show ∀ n:Fin 256,QG 0 ((UInt8.ofNat n.val).toNat:Int)=some (UH (UInt8.ofNat n.val));decide +kernel
def Aqu (N:Nat) (c:UInt8):Ua N (c.toNat:Int)=some (prC c):=by refine tN (P:=fun c=>Ua N (c.toNat:Int)=some (prC c)) ?_ c;show ∀ n:Fin 256,Ua 0 ((UInt8.ofNat n.val).toNat:Int)=some (prC (UInt8.ofNat n.val));decide +kernel
def Aqv (N:Nat) (c:UInt8):Ub N (c.toNat:Int)=some (iaC c):=by refine tN (P:=fun c=>Ub N (c.toNat:Int)=some (iaC c)) ?_ c;show ∀ n:Fin 256,Ub 0 ((UInt8.ofNat n.val).toNat:Int)=some (iaC (UInt8.ofNat n.val));decide +kernel
def Alp (N:Nat) (l:Bs) (c:UInt8) (hl:l.length<N) (hs:l.length<=1048576):Tm N (c.toNat:Int) l=some (l.any (· ==c)):=by
 unfold Tm;try simp -zeta only[Ap]
 refine Ew (OC (S:=Unit) (mk:=fun i _=>i) (out:=fun a=>a) l 0 (fun _ _=>True) (fun e (_:Unit)=>if(!(e==c))=true then .inr ()else .inl (some true)) ?_ ?_ N () trivial hl) ?_
 .intro i a hi _;refine SI (p:=fun e=> !(e==c)) (fun h k=> ?_) (fun h=>⟨fun k=> ?_,trivial⟩)
  .have hb:((((l.getD i 0).toNat:Nat):Int)==((c.toNat:Nat):Int))=true:=by
    have:l.getD i 0=c:=by simpa using h
    rw[this];simp
   rw[show((i:Int)).toNat=i by omega,Dk,cond_true,Dk,Jz,Jz,hb,cond_true]
  .have hb:((((l.getD i 0).toNat:Nat):Int)==((c.toNat:Nat):Int))=false:=by
    apply Gg.2;intro h2;have h3:=G6 h2;have h4:l.getD i 0=c:=H5.1 (by omega);rw[h4]at h;simp at h
   rw[show((i:Int)).toNat=i by omega,Dk,cond_true,Dk,Jz,Jz,hb,cond_false,w64]
 .intro a k _;rw[A0x,cond_false]
 .rw[Yh (p:=fun e=> !(e==c))];rw[show l.any (· ==c)= !(l.all fun e=> !(e==c)) by rw[Ha];simp];cases l.all fun e=> !(e==c)<;>rfl
def all_eq (N f:Nat) (s:Bs) (p:UInt8->Bool) (hf: ∀ c:UInt8,Acp N f (c.toNat:Int)=some (p c)) (hl:s.length<N) (hs:s.length<=1048576):XH N s f=some (s.all p):=by
 unfold XH;try simp -zeta only[Ap]
 refine Ew (OC (S:=Unit) (mk:=fun i _=>i) (out:=fun a=>a) s 0 (fun _ _=>True) (fun e (_:Unit)=>if p e=true then .inr ()else .inl (some false)) ?_ ?_ N () trivial hl) ?_
 .intro i a hi _;have key: ∀(A:Option Bool) (K:Bool->Option Bool),(bif decide ((i:Int)<(s.length:Int))then Vm.chk (decide (0<=(i:Int))) (Vm.chk (decide ((i:Int)<(s.length:Int))) (Jr (Acp N f ((s.getD (i:Int).toNat 0).toNat:Int)) K))else A)=K (p (s.getD i 0)):=by intro A K;rw[show((i:Int)).toNat=i by omega,Dk,cond_true,Dk,Jz,Jz,hf,Jt]
  refine SI (p:=p) (fun h k=> ?_) (fun h=>⟨fun k=> ?_,trivial⟩)
  .rw[key,h];rfl
  .rw[key,h,w64];rfl
 .intro a k _;rw[A0x,cond_false]
 .rw[Yh];cases s.all p<;>rfl
def AuU (N:Nat) (s:Bs) (hl:s.length<N) (hs:s.length<=1048576):UE N 19 s=some (s.all prC):=by show Jr (XH N s 271) (fun r=>some r)=_;rw[all_eq N 271 s prC (fun c=>Aqu N c) hl hs];rfl
def AuV (N:Nat) (s:Bs) (hl:s.length<N) (hs:s.length<=1048576):UE N 22 s=some (s.all iaC):=by show Jr (XH N s 274) (fun r=>some r)=_;rw[all_eq N 274 s iaC (fun c=>Aqv N c) hl hs];rfl
def Al2 (N:Nat) (s:Bs) (hl:s.length<N) (hs:s.length<=1048576) (hN:16<N):Nl N 19 s=some (s.all prC):=by
 unfold Nl;try simp only[clR]
 simp only[show((19:Int)==12)=false from rfl,show((19:Int)==19)=true from rfl,show((19:Int)==22)=false from rfl,cond_false,cond_true,P6,Fa,Eu,EI,EH,EM,Ea,EK,ES,Jz];refine Ew (OC (S:=Unit) (mk:=fun i _=>i) (out:=fun a=>a) s 0 (fun _ _=>True) (fun e (_:Unit)=>if prC e=true then .inr ()else .inl (some false)) ?_ ?_ N () trivial hl) ?_
 .intro i a hi _;have ha:=Alp N Ac8 (s.getD i 0) (by show 12<N;omega) (by decide);refine SI (p:=prC) (fun h k=> ?_) (fun h=>⟨fun k=> ?_,trivial⟩)
  .unfold prC at h;rw[show((i:Int)).toNat=i by omega,Dk (show(i:Int)<(s.length:Int) by omega),cond_true,Dk (show(0:Int)<=(i:Int) by omega),tX,show([32,39,40,41,43,44,45,46,47,58,61,63]:Bs)=Ac8 from rfl,ha];generalize UH (s.getD i 0)=q at h ⊢;generalize Ac8.any (fun x=>x==s.getD i 0)=r at h ⊢;cases q<;>cases r<;>first | rfl | exact absurd h (by decide)
  .unfold prC at h;rw[show((i:Int)).toNat=i by omega,Dk (show(i:Int)<(s.length:Int) by omega),cond_true,Dk (show(0:Int)<=(i:Int) by omega),tX,show([32,39,40,41,43,44,45,46,47,58,61,63]:Bs)=Ac8 from rfl,ha,w64];generalize UH (s.getD i 0)=q at h ⊢;generalize Ac8.any (fun x=>x==s.getD i 0)=r at h ⊢;cases q<;>cases r<;>first | rfl | exact absurd h (by decide)
 .intro a k _;rw[A0x,cond_false]
 .rw[Yh];cases s.all prC<;>rfl
def Al3 (N:Nat) (s:Bs) (hl:s.length<N) (hs:s.length<=1048576):Nl N 22 s=some (s.all iaC):=by
 unfold Nl;try simp only[clR]
 simp only[show((22:Int)==12)=false from rfl,show((22:Int)==19)=false from rfl,show((22:Int)==22)=true from rfl,cond_false,cond_true,P6,Fa,GU,Eu,EI,EH,EM,Ea,EK,ES,Jz];refine Ew (OC (S:=Unit) (mk:=fun i _=>i) (out:=fun a=>a) s 0 (fun _ _=>True) (fun e (_:Unit)=>if iaC e=true then .inr ()else .inl (some false)) ?_ ?_ N () trivial hl) ?_
 .intro i a hi _;have key: ∀(c:UInt8),decide (((c.toNat:Nat):Int)<32)=decide (c.toNat<32)/\decide (((c.toNat:Nat):Int)>126)=decide (126<c.toNat):=fun c=>⟨by congr 1;apply propext;omega,by congr 1;apply propext;omega⟩
  refine SI (p:=iaC) (fun h k=> ?_) (fun h=>⟨fun k=> ?_,trivial⟩)
  .unfold iaC at h;rw[show((i:Int)).toNat=i by omega,Dk (show(i:Int)<(s.length:Int) by omega),cond_true,Dk (show(0:Int)<=(i:Int) by omega)];have h2:(decide (((s.getD i 0).toNat:Int)<32)||decide (((s.getD i 0).toNat:Int)>126))=true:=by simp only[FM,Eh]at h;simp only[Ej,D6];omega
   generalize decide (((s.getD i 0).toNat:Int)<32)=q at h2 ⊢;generalize decide (((s.getD i 0).toNat:Int)>126)=r at h2 ⊢;cases q<;>cases r<;>first | rfl | exact absurd h2 (by decide)
  .unfold iaC at h;rw[show((i:Int)).toNat=i by omega,Dk (show(i:Int)<(s.length:Int) by omega),cond_true,Dk (show(0:Int)<=(i:Int) by omega),w64];have h2:decide (((s.getD i 0).toNat:Int)<32)=false/\decide (((s.getD i 0).toNat:Int)>126)=false:=by simp only[Dx,D6]at h;simp only[Eh];omega
   rw[h2.1,h2.2];rfl
 .intro a k _;rw[A0x,cond_false]
 .rw[Yh];cases s.all iaC<;>rfl
def chR (n b0 b1 b2 b3:Nat):Option Nat :=
 if b0<32\/b0=127 then none
 else if b0<128 then some 1
 else if 192<=b0/\b0<224 then
  (if n<=1\/b1 / 64≠2 then none
   else if b0 % 32*64+b1 % 64<128 then none else some 2)
 else if 224<=b0/\b0<240 then
  (if n<=2\/b1 / 64≠2\/b2 / 64≠2 then none
   else if b0 % 16*4096+b1 % 64*64+b2 % 64<2048\/(55296<=b0 % 16*4096+b1 % 64*64+b2 % 64/\b0 % 16*4096+b1 % 64*64+b2 % 64<57344)then none else some 3)
 else if 240<=b0/\b0<248 then
  (if n<=3\/b1 / 64≠2\/b2 / 64≠2\/b3 / 64≠2 then none
   else if b0 % 8*262144+b1 % 64*4096+b2 % 64*64+b3 % 64<65536\/1114111<b0 % 8*262144+b1 % 64*4096+b2 % 64*64+b3 % 64 then none else some 4)
 else none
set_option maxHeartbeats 4000000 in
def Ayu (n b0 b1 b2 b3:Nat) (h0:b0<256) (h1:b1<256) (h2:b2<256) (h3:b3<256) :
 chR n b0 b1 b2 b3=if(Lib.decodeN n b0 b1 b2 b3).1<32\/(Lib.decodeN n b0 b1 b2 b3).1=127\/((Lib.decodeN n b0 b1 b2 b3).1=65533/\ ¬(3<=n/\b0=239/\b1=191/\b2=189))then none else some (Lib.decodeN n b0 b1 b2 b3).2:=by
 by_cases c1:b0<128
 .have hd:Lib.decodeN n b0 b1 b2 b3=(b0,1):=by unfold Lib.decodeN;rw[Du c1]
  rw[hd];unfold chR;dsimp only;by_cases c2:b0<32\/b0=127
  .rw[Du c2,A0z]
  .rw[Dp c2,Du c1,A0y]
 .unfold chR Lib.decodeN;rw[Dp c1,A0y,Dp c1];by_cases c2:192<=b0/\b0<224
  .rw[Du c2];repeat' split
   all_goals first | rfl | (exfalso;dsimp only at *;omega)
  .rw[Dp c2,Dp (show ¬(b0 / 32=6/\(1<n/\b1 / 64=2)) by omega)];by_cases c3:224<=b0/\b0<240
   .rw[Du c3];repeat' split
    all_goals first | rfl | (exfalso;dsimp only at *;omega)
   .rw[Dp c3,Dp (show ¬(b0 / 16=14/\(1<n/\b1 / 64=2)/\(2<n/\b2 / 64=2)) by omega)];repeat' split
    all_goals first | rfl | (exfalso;dsimp only at *;omega)
def Ahk (s:Bs) (i:Nat):Option Nat:=chR (s.length - i) (s.getD i 0).toNat (s.getD (i+1) 0).toNat (s.getD (i+2) 0).toNat (s.getD (i+3) 0).toNat
def Rh (s:Bs):Nat->Nat->Bool
 | 0,_=>true
 | n+1,i=>if i<s.length then(match Ahk s i with
  | none=>false
  | some w=>Rh s n (i+w))else true
def Anh (l:Bs):Lib.hasPrefix l [239,191,189]=true↔3<=l.length/\(l.getD 0 0).toNat=239/\(l.getD 1 0).toNat=191/\(l.getD 2 0).toNat=189:=by
 have hb: ∀(x:UInt8) (k:Nat),k<256->((UInt8.ofNat k==x)=true↔x.toNat=k):=by
  intro x k hk;rw[Fb];constructor
  .intro h;rw[<- h,FH];omega
  .intro h;rw[<- h,Ic]
 match l with
 | []=>simp [Lib.hasPrefix,List.isPrefixOf]
 | [x]=>simp [Lib.hasPrefix,List.isPrefixOf]
 | [x,y]=>simp [Lib.hasPrefix,List.isPrefixOf]
 | x::y::z::r =>show((UInt8.ofNat 239==x)&&((UInt8.ofNat 191==y)&&((UInt8.ofNat 189==z)&&true)))=true↔3<=r.length+1+1+1/\x.toNat=239/\y.toNat=191/\z.toNat=189;rw[Dx,Dx,Gu,hb _ _ (by decide),hb _ _ (by decide),hb _ _ (by decide)];exact⟨fun h=>⟨by omega,h⟩,fun h=>h.2⟩
def Azh (s:Bs): ∀(n i:Nat),Uc ⟨s.toArray⟩ n i=Rh s n i:=by
 intro n
 induction n with
 | zero=>intro i;rfl
 | succ n ih =>
  intro i;have hd:=Lib.decode_N ⟨s.toArray⟩ i;have hc:=Ayu (s.length - i) (s.getD i 0).toNat (s.getD (i+1) 0).toNat (s.getD (i+2) 0).toNat (s.getD (i+3) 0).toNat (UF _) (UF _) (UF _) (UF _)
  have hp:=Anh (s.drop i);rw[Es,Lib.getD_dropU,Lib.getD_dropU,Lib.getD_dropU,Nat.add_zero]at hp;unfold Uc Rh;show(if i<s.length then _ else _)=_;by_cases hl:i<s.length
  .rw[Du hl,Du hl];show(let d:=Utf8.decode ⟨s.toArray⟩ i;if d.1<32\/d.1=127 then false else if d.1=65533/\Lib.hasPrefix (s.drop i) [239,191,189]=false then false else Uc ⟨s.toArray⟩ n (i+d.2))=_;unfold Ahk;have hd':Utf8.decode ⟨s.toArray⟩ i=Lib.decodeN (s.length - i) (s.getD i 0).toNat (s.getD (i+1) 0).toNat (s.getD (i+2) 0).toNat (s.getD (i+3) 0).toNat:=hd;rw[hc,hd'];generalize Lib.decodeN (s.length - i) (s.getD i 0).toNat (s.getD (i+1) 0).toNat (s.getD (i+2) 0).toNat (s.getD (i+3) 0).toNat=d;dsimp only;by_cases h1:d.1<32\/d.1=127
   .rw[Du h1,A0z]
   .rw[Dp h1];by_cases h2:d.1=65533/\Lib.hasPrefix (s.drop i) [239,191,189]=false
    .have h3: ¬(3<=s.length - i/\(s.getD i 0).toNat=239/\(s.getD (i+1) 0).toNat=191/\(s.getD (i+2) 0).toNat=189):=fun h=>by
      have:=hp.2 h;rw[h2.2]at this;cases this
     rw[Du h2,Du (Or.inr (Or.inr ⟨h2.1,h3⟩))]
    .have h3: ¬(d.1<32\/d.1=127\/(d.1=65533/\ ¬(3<=s.length - i/\(s.getD i 0).toNat=239/\(s.getD (i+1) 0).toNat=191/\(s.getD (i+2) 0).toNat=189))):=by
      rintro (h | h | ⟨h,h4⟩)
      .exact h1 (Or.inl h)
      .exact h1 (Or.inr h)
      .refine h2 ⟨h,?_⟩;apply Gg.2;intro h5;exact h4 (hp.1 h5)
     rw[Dp h2,Dp h3];exact ih _
  .rw[Dp hl,Dp hl]
def Azo {n b0 b1 b2 b3 w:Nat} (hn:1<=n) (h:chR n b0 b1 b2 b3=some w):1<=w/\w<=n:=by
 unfold chR at h;repeat' split at h
 all_goals grind[b2,chR]
def AoW (s:Bs): ∀(n m i:Nat),s.length - i<=n->s.length - i<=m->Rh s n i=Rh s m i:=by
 intro n
 induction n with
 | zero =>
  intro m i h1 _;cases m with
  | zero=>rfl
  | succ m=>grind[Rh]
 | succ n ih =>
  intro m i h1 h2;cases m with
  | zero=>grind[Rh]
  | succ m =>
   unfold Rh;by_cases hl:i<s.length
   .rw[Du hl,Du hl];cases hc:Ahk s i with
    | none=>rfl
    | some w =>have:=Azo (by omega) hc;exact ih m (i+w) (by omega) (by omega)
   .rw[Dp hl,Dp hl]
def UI (s:Bs) (i:Nat):Nat->Bool
 | 0=>true
 | k+1=>UI s i k&&decide ((s.getD (i+(k+1)) 0).toNat / 64=2)
def Xp (s:Bs) (i r:Nat):Nat->Nat
 | 0=>r
 | k+1=>64*Xp s i r k+(s.getD (i+(k+1)) 0).toNat % 64
def Avq (s:Bs) (i r:Nat) (hr:r<32): ∀ k,Xp s i r k<32*64 ^ k:=by
 intro k
 induction k with
 | zero=>simp_all[Bs,Xp]
 | succ k ih=>grind[Xp]
def Aaw {ρ :Type} (N:Nat) (s:Bs) (i k r:Nat) (hk:k<=3) (hN:16<N) (hr:r<32) (hi:i+k<s.length) (hs:s.length<=1048576) (bad:Option ρ) (fin:Int->Option ρ) :
 J3 (X:=Int×Int) (Y:=Int) (U2 fun t7c t8c k4 x5 =>
         bif decide (t8c<=(k:Int))then
          Vm.chk (decide (0<=i64.wrap ((i:Int)+t8c)))
           (Vm.chk (decide (i64.wrap ((i:Int)+t8c)< ↑(List.length s)))
             (bif
               u8.wrap
                ((↑(List.getD s (i64.wrap ((i:Int)+t8c)).toNat 0).toNat:Int).tdiv 64) !=
                2 then
               bad
             else
              Vm.chk (decide (0<=i64.wrap ((i:Int)+t8c)))
               (Vm.chk (decide (i64.wrap ((i:Int)+t8c)< ↑(List.length s)))
                 (k4
                   (i64.wrap
                     (i64.wrap (64*t7c) +
                       i64.wrap
                        ((↑(List.getD s (i64.wrap ((i:Int)+t8c)).toNat 0).toNat:Int).tmod
                          64)),
                     i64.wrap (t8c+1))))))
         else x5 t7c) N ((r:Int),1) fin=if UI s i k=true then fin ((Xp s i r k:Nat):Int)else bad:=by
 refine AtU (P:=fun(x:Int×Int) v=> ∃ j:Nat,x=(((Xp s i r j:Nat):Int),((j+1:Nat):Int))/\j<=k/\UI s i j=true/\v=if UI s i k=true then fin ((Xp s i r k:Nat):Int)else bad) (μ :=fun x=>k+1 - x.2.toNat) ?_ N _ _ ⟨0,rfl,Em _,rfl,rfl⟩ (by show k+1 - 1<N;omega);rintro x v ⟨j,rfl,h1,h2,rfl⟩ kk hkk;have hv:=Avq s i r hr j;have hp:(64:Nat) ^ j<=64 ^ 3:=Gi (by decide) (by omega);dsimp only[U2];by_cases hj:j<k
 .have hb:=UF (s.getD (i+(j+1)) 0);rw[Dk,cond_true,w64 (x:=(i:Int)+((j+1:Nat):Int)),show((i:Int)+((j+1:Nat):Int)).toNat=i+(j+1) by omega,Dk,Jz,Dk,Jz,Jz,Jz];rw[show((((s.getD (i+(j+1)) 0).toNat:Nat):Int)).tdiv 64=(((s.getD (i+(j+1)) 0).toNat / 64:Nat):Int)from rfl,show((((s.getD (i+(j+1)) 0).toNat:Nat):Int)).tmod 64=(((s.getD (i+(j+1)) 0).toNat % 64:Nat):Int)from rfl,w8];by_cases hc:(s.getD (i+(j+1)) 0).toNat / 64=2
  .rw[hc,show(((2:Nat):Int) % 256 != 2)=false from rfl,cond_false,w64 (x:=64*((Xp s i r j:Nat):Int)),w64 (x:=(((s.getD (i+(j+1)) 0).toNat % 64:Nat):Int)),w64,w64];refine hkk _ _ ⟨j+1,?_,by omega,by show(UI s i j&&decide _)=true;rw[h2,hc];rfl,rfl⟩ (by show k+1 - (((j+1:Nat):Int)+1).toNat<k+1 - ((j+1:Nat):Int).toNat;omega);all_goals grind[Xp]
  .have hne:((((s.getD (i+(j+1)) 0).toNat / 64:Nat):Int) % 256 != 2)=true:=by
    rw[EE];omega
   rw[hne,cond_true]
   have hbad:UI s i k=false:=by
    have: ∀ d,UI s i (j+1+d)=false:=by
     intro d
     induction d with
     | zero=>grind[UI]
     | succ d ih=>grind[UI]
    have h:=this (k - (j+1));rwa [show j+1+(k - (j+1))=k by omega]at h
   rw[hbad];rfl
 .have:j=k:=by omega
  subst this;rw[A0x,cond_false,h2];rfl
def Ayr (a:Nat) (h:a<256):JE .and .i64 (a:Int) 15=((a % 16:Nat):Int):=by
 have: ∀ a:Fin 256,JE .and .i64 ((a.val:Nat):Int) 15=((a.val % 16:Nat):Int):=by decide +kernel
 exact this ⟨a,h⟩
def and7 (a:Nat) (h:a<256):JE .and .i64 (a:Int) 7=((a % 8:Nat):Int):=by
 have: ∀ a:Fin 256,JE .and .i64 ((a.val:Nat):Int) 7=((a.val % 8:Nat):Int):=by decide +kernel
 exact this ⟨a,h⟩
def Aiv (V:Nat) (mn:Int) (X Y:Option Bool):Vm.chk
 (!decide ((V:Int)>=55296) ||
   !(decide ((V:Int)<mn)||decide ((V:Int)>1114111)) &&
     decide ((V:Int)>=55296) ||
   (decide ((V:Int)<mn)||decide ((V:Int)>1114111)))
 (bif
   decide ((V:Int)<mn)||decide ((V:Int)>1114111) ||
    decide ((V:Int)>=55296)&&decide ((V:Int)<57344)then
   X
 else Y)=if(V:Int)<mn\/1114111<V\/(55296<=V/\V<57344)then X else Y:=by
 by_cases hc:(V:Int)<mn\/1114111<V\/(55296<=V/\V<57344)
 .rw[Du hc];by_cases h1:(V:Int)<mn<;>by_cases h2:(V:Int)>1114111<;>by_cases h3:(V:Int)>=55296<;>by_cases h4:(V:Int)<57344<;>simp only[h1,h2,h3,h4,FV,Hw]<;>first | rfl | (exfalso;omega)
 .rw[Dp hc];by_cases h1:(V:Int)<mn<;>by_cases h2:(V:Int)>1114111<;>by_cases h3:(V:Int)>=55296<;>by_cases h4:(V:Int)<57344<;>simp only[h1,h2,h3,h4,FV,Hw]<;>first | rfl | (exfalso;omega)
def Ak5 (N:Nat) (s:Bs) (hN:s.length<N) (hN2:16<N) (hs:s.length<=1048576):YW N s=some (Rh s s.length 0):=by
 unfold YW;try simp only[clR]
 refine Ew (Nu (I:=fun x:Int=> ∃ i:Nat,x=(i:Int)/\i<=s.length) (μ :=fun x=>s.length - x.toNat) (F:=fun x=>some (Rh s (s.length - x.toNat) x.toNat)) ?_ N 0 ⟨0,rfl,Em _⟩ (by show s.length - 0<N;omega)) rfl;rintro x ⟨i,rfl,h1⟩ k hk;rw[show((i:Int)).toNat=i by omega];by_cases hl:i<s.length
 .obtain⟨n,hn⟩: ∃ n,s.length - i=n+1:=⟨s.length - i - 1,by omega⟩
  have hgo: ∀ w:Nat,Ahk s i=some w->1<=w->i+w<=s.length->k (((i+w:Nat)):Int)=some (Rh s (s.length - i) i):=by
   intro w hw hw1 hw2;rw[hk _ ⟨i+w,rfl,hw2⟩ (by show s.length - ((i+w:Nat):Int).toNat<s.length - ((i:Int)).toNat;omega)];rw[show(((i+w:Nat)):Int).toNat=i+w by omega,hn]
   conv=>rhs;unfold Rh
   rw[Du hl,hw];exact congrArg some (AoW s _ _ _ (DK _) (by omega))
  have hno:Ahk s i=none->(some false:Option Bool)=some (Rh s (s.length - i) i):=by intro hw;rw[hn];unfold Rh;rw[Du hl,hw]
  have hb:=UF (s.getD i 0);unfold Ahk at hgo hno;unfold chR at hgo hno;generalize hb0:(s.getD i 0).toNat=b0 at *
  rw[Dk (show(i:Int)<(s.length:Int) by omega),cond_true,Dk (show(0:Int)<=(i:Int) by omega),Jz,Jz,P6];by_cases c1:b0<32\/b0=127
  .rw[Du c1]at hno;have hq:(decide ((b0:Int)<32)||((b0:Int)==127))=true:=by rw[Ej,D6,Fb];omega
   rw[hq,cond_true];exact hno rfl
  .rw[Dp c1]at hno;simp only[Dp c1]at hgo;have hq:(decide ((b0:Int)<32)||((b0:Int)==127))=false:=by apply Gg.2;rw[Ne,Ej,D6,Fb];omega
   rw[hq,cond_false];by_cases c2:b0<128
   .simp only[Du c2]at hgo;rw[Dk,cond_true,w64];exact hgo 1 rfl (DK _) (by omega)
   .rw[Dp c2]at hno;simp only[Dp c2]at hgo;rw[Dq (show ¬(b0:Int)<128 by omega),cond_false];by_cases c3:192<=b0/\b0<224
    .rw[Du c3]at hno;simp only[Du c3]at hgo;rw[Dk (show(b0:Int)>=192 by omega),Dk (show(b0:Int)<224 by omega),FY,cond_true];dsimp only[U3];by_cases c4:s.length - i<=1
     .rw[Du (Or.inl c4)]at hno;rw[w64 (x:=(s.length:Int) - (i:Int)),Dk (show((s.length:Int) - (i:Int))<=1 by omega),cond_true];exact hno rfl
     .rw[w64 (x:=(s.length:Int) - (i:Int)),Dq (show ¬((s.length:Int) - (i:Int))<=1 by omega),cond_false];rw[show(JE BinOp.and i64 (i64.wrap (b0:Int)) (i64.wrap (i64.wrap (1*2 ^ min (i64.wrap (6 - 1)).toNat 64) - 1)))=((b0 % 32:Nat):Int) by rw[w64 (x:=(b0:Int))];exact Aq0 b0 (by omega)];have hcl:=Aaw N s i 1 (b0 % 32) (by omega) hN2 (by omega) (by omega) hs (some false:Option Bool);rw[show(decide ((0:Int)<=i64.wrap (6 - 1)))=true by decide,Jz];refine(hcl _).trans ?_;rw[Aiv,show UI s i 1=decide ((s.getD (i+1) 0).toNat / 64=2)from rfl,show Xp s i (b0 % 32) 1=64*(b0 % 32)+(s.getD (i+1) 0).toNat % 64 from rfl];have hb1:=UF (s.getD (i+1) 0);generalize (s.getD (i+1) 0).toNat=b1 at hno hgo hb1 ⊢;by_cases c5:b1 / 64=2
      .rw[Du (by rw[Dk c5])];rw[A0y]at hno;simp only[Dp (show ¬(s.length - i<=1\/b1 / 64≠2) by omega)]at hgo;by_cases c6:b0 % 32*64+b1 % 64<128
       .rw[Du c6]at hno;rw[A0z];exact hno rfl
       .simp only[Dp c6]at hgo;rw[A0y,w64 (x:=1+1),w64];exact hgo 2 rfl (by omega) (by omega)
      .rw[Dp (by rw[Dq c5];decide)];rw[Du (Or.inr c5)]at hno;exact hno rfl
    .rw[Dp c3]at hno;simp only[Dp c3]at hgo;rw[show(decide ((b0:Int)>=192)&&decide ((b0:Int)<224))=false by simp only[FM,Eh];omega,cond_false];by_cases d3:224<=b0/\b0<240
     .rw[Du d3]at hno;simp only[Du d3]at hgo;rw[Dk (show(b0:Int)>=224 by omega),Dk (show(b0:Int)<240 by omega),FY,cond_true];dsimp only[U3];by_cases c4:s.length - i<=2
      .rw[Du (Or.inl c4)]at hno;rw[w64 (x:=(s.length:Int) - (i:Int)),Dk (show((s.length:Int) - (i:Int))<=2 by omega),cond_true];exact hno rfl
      .rw[w64 (x:=(s.length:Int) - (i:Int)),Dq (show ¬((s.length:Int) - (i:Int))<=2 by omega),cond_false];rw[show(JE BinOp.and i64 (i64.wrap (b0:Int)) (i64.wrap (i64.wrap (1*2 ^ min (i64.wrap (6 - 2)).toNat 64) - 1)))=((b0 % 16:Nat):Int) by rw[w64 (x:=(b0:Int))];exact Ayr b0 (by omega)];have hcl:=Aaw N s i 2 (b0 % 16) (by omega) hN2 (by omega) (by omega) hs (some false:Option Bool);rw[show(decide ((0:Int)<=i64.wrap (6 - 2)))=true by decide,Jz];refine(hcl _).trans ?_;rw[Aiv,show UI s i 2=(decide ((s.getD (i+1) 0).toNat / 64=2)&&decide ((s.getD (i+2) 0).toNat / 64=2))from rfl,show Xp s i (b0 % 16) 2=64*(64*(b0 % 16)+(s.getD (i+1) 0).toNat % 64)+(s.getD (i+2) 0).toNat % 64 from rfl];have hb1:=UF (s.getD (i+1) 0);have hb2:=UF (s.getD (i+2) 0);generalize (s.getD (i+1) 0).toNat=b1 at hno hgo hb1 ⊢;generalize (s.getD (i+2) 0).toNat=b2 at hno hgo hb2 ⊢;by_cases c5:b1 / 64=2/\b2 / 64=2
       .rw[Du (show(decide (b1 / 64=2)&&decide (b2 / 64=2))=true by simp only[c5,FV,FY])];rw[Dp (show ¬(s.length - i<=2\/b1 / 64≠2\/b2 / 64≠2) by omega)]at hno;simp only[Dp (show ¬(s.length - i<=2\/b1 / 64≠2\/b2 / 64≠2) by omega)]at hgo;by_cases c6:b0 % 16*4096+b1 % 64*64+b2 % 64<2048\/(55296<=b0 % 16*4096+b1 % 64*64+b2 % 64/\b0 % 16*4096+b1 % 64*64+b2 % 64<57344)
        .rw[Du c6]at hno;rw[A0z];exact hno rfl
        .simp only[Dp c6]at hgo;rw[A0y,w64 (x:=2+1),w64];exact hgo 3 rfl (by omega) (by omega)
       .rw[Dp (show ¬(decide (b1 / 64=2)&&decide (b2 / 64=2))=true by simp only[Dx,D6];omega)];rw[Du (show s.length - i<=2\/b1 / 64≠2\/b2 / 64≠2 by omega)]at hno;exact hno rfl
     .rw[Dp d3]at hno;simp only[Dp d3]at hgo;rw[show(decide ((b0:Int)>=224)&&decide ((b0:Int)<240))=false by simp only[FM,Eh];omega,cond_false];by_cases e3:240<=b0/\b0<248
      .rw[Du e3]at hno;simp only[Du e3]at hgo;rw[Dk (show(b0:Int)>=240 by omega),Dk (show(b0:Int)<248 by omega),FY,cond_true];dsimp only[U3];by_cases c4:s.length - i<=3
       .rw[Du (Or.inl c4)]at hno;rw[w64 (x:=(s.length:Int) - (i:Int)),Dk (show((s.length:Int) - (i:Int))<=3 by omega),cond_true];exact hno rfl
       .rw[w64 (x:=(s.length:Int) - (i:Int)),Dq (show ¬((s.length:Int) - (i:Int))<=3 by omega),cond_false];rw[show(JE BinOp.and i64 (i64.wrap (b0:Int)) (i64.wrap (i64.wrap (1*2 ^ min (i64.wrap (6 - 3)).toNat 64) - 1)))=((b0 % 8:Nat):Int) by rw[w64 (x:=(b0:Int))];exact and7 b0 (by omega)];have hcl:=Aaw N s i 3 (b0 % 8) (by omega) hN2 (by omega) (by omega) hs (some false:Option Bool);rw[show(decide ((0:Int)<=i64.wrap (6 - 3)))=true by decide,Jz];refine(hcl _).trans ?_;rw[Aiv,show UI s i 3=(decide ((s.getD (i+1) 0).toNat / 64=2)&&decide ((s.getD (i+2) 0).toNat / 64=2)&&decide ((s.getD (i+3) 0).toNat / 64=2))from rfl,show Xp s i (b0 % 8) 3=64*(64*(64*(b0 % 8)+(s.getD (i+1) 0).toNat % 64)+(s.getD (i+2) 0).toNat % 64)+(s.getD (i+3) 0).toNat % 64 from rfl];have hb1:=UF (s.getD (i+1) 0);have hb2:=UF (s.getD (i+2) 0);have hb3:=UF (s.getD (i+3) 0);generalize (s.getD (i+1) 0).toNat=b1 at hno hgo hb1 ⊢;generalize (s.getD (i+2) 0).toNat=b2 at hno hgo hb2 ⊢;generalize (s.getD (i+3) 0).toNat=b3 at hno hgo hb3 ⊢;by_cases c5:b1 / 64=2/\b2 / 64=2/\b3 / 64=2
        .rw[Du (show(decide (b1 / 64=2)&&decide (b2 / 64=2)&&decide (b3 / 64=2))=true by simp only[c5,FV,FY])];rw[Dp (show ¬(s.length - i<=3\/b1 / 64≠2\/b2 / 64≠2\/b3 / 64≠2) by omega)]at hno;simp only[Dp (show ¬(s.length - i<=3\/b1 / 64≠2\/b2 / 64≠2\/b3 / 64≠2) by omega)]at hgo;by_cases c6:b0 % 8*262144+b1 % 64*4096+b2 % 64*64+b3 % 64<65536\/1114111<b0 % 8*262144+b1 % 64*4096+b2 % 64*64+b3 % 64
         .rw[Du c6]at hno;rw[A0z];exact hno rfl
         .simp only[Dp c6]at hgo;rw[A0y,w64 (x:=3+1),w64];exact hgo 4 rfl (by omega) (by omega)
        .rw[Dp (show ¬(decide (b1 / 64=2)&&decide (b2 / 64=2)&&decide (b3 / 64=2))=true by simp only[Dx,D6];omega)];rw[Du (show s.length - i<=3\/b1 / 64≠2\/b2 / 64≠2\/b3 / 64≠2 by omega)]at hno;exact hno rfl
      .rw[Dp e3]at hno;rw[show(decide ((b0:Int)>=240)&&decide ((b0:Int)<248))=false by simp only[FM,Eh];omega,cond_false];exact hno rfl
 .rw[A0x,cond_false,show s.length - i=0 by omega];rfl
def VZ (t:Int) (s:Bs):Bool:=if t=12 then Rh s s.length 0 else if t=19 then s.all prC else if t=22 then s.all iaC else false
def AkQ (N:Nat) (t:Int) (s:Bs) (hl:s.length<N) (hs:s.length<=1048576):UE N t s=some (VZ t s):=by
 unfold VZ;by_cases h1:t=12
 .subst h1;rw[Du rfl];show Jr (xQ N s) (fun r=>some r)=_;unfold xQ;rw[Dk];show some (As9 s)=_;unfold As9;rw[Azh]
 .rw[Dp h1];by_cases h2:t=19
  .subst h2;rw[Du rfl];exact AuU N s hl hs
  .rw[Dp h2];by_cases h3:t=22
   .subst h3;rw[Du rfl];exact AuV N s hl hs
   .rw[Dp h3];unfold UE;rw[show(t==12)=false from Eg h1,show(t==19)=false from Eg h2,show(t==22)=false from Eg h3];rfl
def Ab3 (N:Nat) (t:Int) (s:Bs) (hl:s.length<N) (hs:s.length<=1048576) (hN:16<N):Nl N t s=some (VZ t s):=by
 unfold VZ;by_cases h1:t=12
 .subst h1;rw[Du rfl];show Jr (YW N s) (fun r=>some r)=_;rw[Ak5 N s hl hN hs];rfl
 .rw[Dp h1];by_cases h2:t=19
  .subst h2;rw[Du rfl];exact Al2 N s hl hs hN
  .rw[Dp h2];by_cases h3:t=22
   .subst h3;rw[Du rfl];exact Al3 N s hl hs
   .rw[Dp h3];unfold Nl;try simp -zeta only[Ap]
    rw[show(t==12)=false from Eg h1,show(t==19)=false from Eg h2,show(t==22)=false from Eg h3];rfl
abbrev Att:Type:=Bs×Int×Bs
def Rz (e:Att) (seen:List Att):Int :=
 if Nr e.1=none then 11
 else if e.2.2=[]\/VZ e.2.1 e.2.2=false then 13
 else if 64<e.2.2.length then 2
 else if seen.any (fun x=>x.1==e.1)=true then 10 else 0
def Au4 (N:Nat) (q:List Att) (e:Att) (hl:q.length<N) (hs:q.length<=1048576) (fin:Unit->Option Int) :
 J3 (X:=Int×Bs×Int×Bs) (Y:=Unit) (U4 fun t43b b33792_0b b33792_1b b33792_2b k3 x4 =>
         bif decide (t43b< ↑q.length)then
          Vm.chk (decide (0<=t43b))
           (Vm.chk (decide (t43b< ↑q.length))
             (bif (q.getD t43b.toNat ([],0,[])).1==b33792_0b then
               some 10
             else k3 (i64.wrap (t43b+1),b33792_0b,b33792_1b,b33792_2b)))
         else x4 ()) N (0,e.1,e.2.1,e.2.2) fin=if q.any (fun x=>x.1==e.1)=true then some 10 else fin ():=by
 refine Ew (OC (S:=Unit) (mk:=fun i _=>(i,e.1,e.2.1,e.2.2)) (out:=fun a=>a) q ([],0,[]) (fun _ _=>True) (fun x (_:Unit)=>if(!(x.1==e.1))=true then .inr ()else .inl (some 10)) ?_ ?_ N () trivial hl) ?_
 .intro i a hi _;refine SI (p:=fun x:Att=> !(x.1==e.1)) (fun h k=> ?_) (fun h=>⟨fun k=> ?_,trivial⟩)
  .simp_all[U4,Jz,Att,hs,J3,Bs]
  .dsimp only[U4];have h':((q.getD i ([],0,[])).1==e.1)=false:=by simpa using h
   rw[show((i:Int)).toNat=i by omega,Dk,cond_true,Dk,Jz,Jz,h',cond_false,w64]
 .grind[U4]
 .rw[Yh (p:=fun x:Att=> !(x.1==e.1))];rw[show q.any (fun x=>x.1==e.1)= !(q.all fun x=> !(x.1==e.1)) by rw[Ha];simp];cases q.all fun x=> !(x.1==e.1)<;>rfl
def dM (e:Att):Prop:=e.1.length<=1048576/\e.2.2.length<=1048576
def Wj (e:Att) (seen:List Att):Option Int ⊕ List Att:=if Rz e seen=0 then .inr (seen++[e])else .inl (some (Rz e seen))
def Anp (p:List Att):Option Int:=Qz Wj (fun _=>some 0) p []
def Ac0 (v:Bs):(v==[])=decide (v=[]):=by cases v<;>rfl
def Apo (N:Nat) (p:List Att) (hN:1048578<N) (hp: ∀ e∈p,dM e):Pg N p=if p=[]then some 14 else if 4<p.length then some 2 else Anp p:=by
 unfold Pg;try simp only[clR]
 by_cases h0:p=[]
 .subst h0;rfl
 .have hpos:=GG.2 h0;have hb:(((p.length:Nat):Int)==0)=false:=Eg (by omega);rw[hb,cond_false,Dp h0];by_cases h4:4<p.length
  .rw[Du h4,Dk,cond_true]
  .rw[Dp h4,A0x,cond_false];refine Om (S:=List Att) (mk:=fun i _=>i) p ([],0,[]) (fun i s=>s=p.take i) Wj (fun _=>some 0) ?_ ?_ N [] rfl
   .intro i s hi hs;subst hs;have hm:=hp p[i] (Ec hi);have hcut:J6 p 0 i=p.take i:=rfl;have htk:p.take i++[p[i]]=p.take (i+1):=by rw[Fh,D9 hi];rfl
    have hlt:(p.take i).length<=4:=by rw[DD];omega
    rw[getD_lt p i _ hi];generalize he:p[i]=e at hm htk;have ho:=(iT N e.1 (by omega) hm.1 (by have:=hm.1;omega)).1;have ht:=AkQ N e.2.1 e.2.2 (by have:=hm.2;omega) hm.2;have hsl:=fun fin=>Au4 N (p.take i) e (by omega) (by omega) fin;unfold Wj;by_cases a1:Nr e.1=none
    .have hat:Rz e (p.take i)=11:=by unfold Rz;rw[Du a1]
     rw[hat,Dp (by decide)];intro k;dsimp only;rw[show((i:Int)).toNat=i by omega,getD_lt p i _ hi,he,Dk (show(i:Int)<(p.length:Int) by omega),cond_true,Dk (show(0:Int)<=(i:Int) by omega),Jz,Jz,ho,Jt,a1];rfl
    .have hsome:(Nr e.1).isSome=true:=by cases hq:Nr e.1 with
      | none=>exact absurd hq a1
      | some l=>rfl
     rw[hsome]at ho;by_cases a2:e.2.2=[]\/VZ e.2.1 e.2.2=false
     .have hat:Rz e (p.take i)=13:=by unfold Rz;rw[Dp a1,Du a2]
      rw[hat,Dp (by decide)];intro k;dsimp only;rw[show((i:Int)).toNat=i by omega,getD_lt p i _ hi,he,Dk (show(i:Int)<(p.length:Int) by omega),cond_true,Dk (show(0:Int)<=(i:Int) by omega),Jz,Jz,ho,Jt,ht,Ac0];rcases a2 with a2 | a2
      .rw[Dk a2];rfl
      .rw[a2];cases decide (e.2.2=[])<;>rfl
     .have a3: ¬ e.2.2=[]:=fun h=>a2 (Or.inl h)
      have a4:VZ e.2.1 e.2.2=true:=by
       cases hq:VZ e.2.1 e.2.2 with
       | true=>rfl
       | false=>exact absurd (Or.inr hq) a2
      by_cases a5:64<e.2.2.length
      .have hat:Rz e (p.take i)=2:=by unfold Rz;rw[Dp a1,Dp a2,Du a5]
       rw[hat,Dp (by decide)];intro k;dsimp only;rw[show((i:Int)).toNat=i by omega,getD_lt p i _ hi,he,Dk (show(i:Int)<(p.length:Int) by omega),cond_true,Dk (show(0:Int)<=(i:Int) by omega),Jz,Jz,ho,Jt,ht,Ac0,Dq a3,a4];rw[Dk (show(e.2.2.length:Int)>64 by omega)];rfl
      .have hat:Rz e (p.take i)=if(p.take i).any (fun x=>x.1==e.1)=true then 10 else 0:=by unfold Rz;rw[Dp a1,Dp a2,Dp a5]
       have go: ∀ k:Int->Option Int,(bif decide ((i:Int)<(p.length:Int))then k (i64.wrap ((i:Int)+1))else none)=k ((i:Int)+1):=fun k=>by rw[Dk,cond_true,w64]
       have hw:i64.wrap ((i:Int)+1)=(i:Int)+1:=w64;rw[hat];by_cases a6:(p.take i).any (fun x=>x.1==e.1)=true
       .rw[Du a6,Dp (by decide)];intro k;dsimp only;rw[show((i:Int)).toNat=i by omega,getD_lt p i _ hi,he,Dk (show(i:Int)<(p.length:Int) by omega),cond_true,Dk (show(0:Int)<=(i:Int) by omega),Jz,Jz,ho,Jt,ht,Ac0,Dq a3,a4,Dq (show ¬(e.2.2.length:Int)>64 by omega),Dk (show(i:Int)<=(p.length:Int) by omega),hcut,hsl,Du a6];rfl
       .rw[Dp a6,Du rfl];refine⟨fun k=> ?_,htk⟩;dsimp only;rw[show((i:Int)).toNat=i by omega,getD_lt p i _ hi,he,Dk (show(i:Int)<(p.length:Int) by omega),cond_true,Dk (show(0:Int)<=(i:Int) by omega),Jz,Jz,ho,Jt,ht,Ac0,Dq a3,a4,Dq (show ¬(e.2.2.length:Int)>64 by omega),Dk (show(i:Int)<=(p.length:Int) by omega),hcut,hsl,Dp a6,hw];rfl
   .intro s k _;rw[A0x,cond_false]
def Asp (N:Nat) (p:List Att) (i:Nat) (e:Att) (hi:i<=p.length) (hl:i<N) (hs:i<=1048576) (fin:Unit->Option Int) :
 J3 (X:=Int×Bs×Int×Bs) (Y:=Unit) (U4 fun t5b b33792_0b b33792_1b b33792_2b k3 x4 =>
         bif decide (t5b<(i:Int))then
          Vm.chk (decide (0<=t5b))
           (Vm.chk (decide (t5b< ↑(List.length p)))
             (bif (List.getD p t5b.toNat ([],0,[])).1==b33792_0b then some 10
             else k3 (i64.wrap (t5b+1),b33792_0b,b33792_1b,b33792_2b)))
         else x4 ()) N (0,e.1,e.2.1,e.2.2) fin=if(p.take i).any (fun x=>x.1==e.1)=true then some 10 else fin ():=by
 have hlen:(p.take i).length=i:=by rw[DD];omega
 refine Ew (OC (S:=Unit) (mk:=fun i _=>(i,e.1,e.2.1,e.2.2)) (out:=fun a=>a) (p.take i) ([],0,[]) (fun _ _=>True) (fun x (_:Unit)=>if(!(x.1==e.1))=true then .inr ()else .inl (some 10)) ?_ ?_ N () trivial) ?_
 .intro j a hj _;have hg:(p.take i).getD j ([],0,[])=p.getD j ([],0,[]):=by rw[getD_lt _ j _ hj,getD_lt p j _,List.getElem_take]
  rw[hg];refine SI (p:=fun x:Att=> !(x.1==e.1)) (fun h k=> ?_) (fun h=>⟨fun k=> ?_,trivial⟩)
  .dsimp only[U4];have h':((p.getD j ([],0,[])).1==e.1)=true:=by simpa using h
   rw[show((j:Int)).toNat=j by omega,Dk,cond_true,Dk,Jz,Dk,Jz,h',cond_true]
  .dsimp only[U4];have h':((p.getD j ([],0,[])).1==e.1)=false:=by simpa using h
   rw[show((j:Int)).toNat=j by omega,Dk,cond_true,Dk,Jz,Dk,Jz,h',cond_false,w64]
 .grind[U4]
 .rw[Yh (p:=fun x:Att=> !(x.1==e.1))];rw[show(p.take i).any (fun x=>x.1==e.1)= !((p.take i).all fun x=> !(x.1==e.1)) by rw[Ha];simp];cases (p.take i).all fun x=> !(x.1==e.1)<;>rfl
theorem Acy (v:Bs):(((v.length:Nat):Int)==0)=decide (v=[]):=by
 cases v with
 | nil=>rfl
 | cons a r=>rw[Dq (by simp)];exact Eg (by rw[List.length_cons];omega)
def Aj0 (N:Nat) (p:List Att) (hN:1048578<N) (hp: ∀ e∈p,dM e) (h4:p.length<=4):MB N p=Anp p:=by
 unfold MB;try simp only[clR]
 refine Om (S:=List Att) (mk:=fun i _=>i) p ([],0,[]) (fun i s=>s=p.take i) Wj (fun _=>some 0) ?_ ?_ N [] rfl
 .intro i s hi hs;subst hs;have hm:=hp p[i] (Ec hi);have htk:p.take i++[p[i]]=p.take (i+1):=by rw[Fh,D9 hi];rfl
  have hlt:(p.take i).length<=4:=by rw[DD];omega
  rw[getD_lt p i _ hi];generalize he:p[i]=e at hm htk;have ho:=(iT N e.1 (by omega) hm.1 (by have:=hm.1;omega)).2;have ht:=Ab3 N e.2.1 e.2.2 (by have:=hm.2;omega) hm.2 (by omega);have hsl:=fun fin=>Asp N p i e (by omega) (by omega) (by omega) fin;unfold Wj;by_cases a1:Nr e.1=none
  .have hat:Rz e (p.take i)=11:=by unfold Rz;rw[Du a1]
   rw[hat,Dp (by decide)];intro k;all_goals grind[getD_lt,hi,Jz,Jt,a1]
  .have hsome:(Nr e.1).isSome=true:=by cases hq:Nr e.1 with
    | none=>exact absurd hq a1
    | some l=>rfl
   rw[hsome]at ho;by_cases a2:e.2.2=[]\/VZ e.2.1 e.2.2=false
   .have hat:Rz e (p.take i)=13:=by unfold Rz;rw[Dp a1,Du a2]
    rw[hat,Dp (by decide)];intro k;all_goals grind[getD_lt,hi,Jz,Jt,Acy,a2]
   .have a3: ¬ e.2.2=[]:=fun h=>a2 (Or.inl h);have a4:VZ e.2.1 e.2.2=true:=by all_goals grind[VZ,a2]
    by_cases a5:64<e.2.2.length
    .have hat:Rz e (p.take i)=2:=by unfold Rz;rw[Dp a1,Dp a2,Du a5]
     rw[hat,Dp (by decide)];intro k;all_goals grind[getD_lt,hi,Jz,Jt,Acy,a3]
    .have hat:Rz e (p.take i)=if(p.take i).any (fun x=>x.1==e.1)=true then 10 else 0:=by unfold Rz;rw[Dp a1,Dp a2,Dp a5]
     have go: ∀ k:Int->Option Int,(bif decide ((i:Int)<(p.length:Int))then k (i64.wrap ((i:Int)+1))else none)=k ((i:Int)+1):=fun k=>by rw[Dk,cond_true,w64]
     have hw:i64.wrap ((i:Int)+1)=(i:Int)+1:=w64;rw[hat];by_cases a6:(p.take i).any (fun x=>x.1==e.1)=true
     .rw[Du a6,Dp (by decide)];intro k;dsimp only;rw[show((i:Int)).toNat=i by omega,getD_lt p i _ hi,he,Dk (show(i:Int)<(p.length:Int) by omega),cond_true,Dk (show(0:Int)<=(i:Int) by omega),Jz,Jz,ho,Jt,ht,Acy,Dq a3,a4,Dq (show ¬(e.2.2.length:Int)>64 by omega),hsl,Du a6];rfl
     .rw[Dp a6,Du rfl];refine⟨fun k=> ?_,htk⟩;dsimp only;rw[show((i:Int)).toNat=i by omega,getD_lt p i _ hi,he,Dk (show(i:Int)<(p.length:Int) by omega),cond_true,Dk (show(0:Int)<=(i:Int) by omega),Jz,Jz,ho,Jt,ht,Acy,Dq a3,a4,Dq (show ¬(e.2.2.length:Int)>64 by omega),hsl,Dp a6,hw];rfl
 .intro s k _;rw[A0x,cond_false]
def Aji (p:List Att): ∃ v,Anp p=some v:=by
 have: ∀(l s:List Att),∃ v,Qz Wj (fun _=>some 0) l s=some v:=by
  intro l
  induction l with
  | nil=>intro s;exact⟨0,rfl⟩
  | cons e r ih =>
   intro s;unfold Qz Wj;by_cases h:Rz e s=0
   .rw[Du h];exact ih _
   .rw[Dp h];exact⟨_,rfl⟩
 exact this p []
def VT (p:List Att):Int:=if p=[]then 14 else if 4<p.length then 2 else(Anp p).getD 0
def AxL (N:Nat) (p:List Att) (hN:1048578<N) (hp: ∀ e∈p,dM e):Pg N p=some (VT p):=by
 rw[Apo N p hN hp];unfold VT;obtain⟨v,hv⟩:=Aji p;rw[hv];split
 .rfl
 .split<;>rfl
def YM (p:List Att) (_:Unit):Option Int ⊕ Unit:=if VT p=0 then .inr ()else .inl (some (VT p))
def YJ (n:List (List Att)):Option Int:=if 8<n.length then some 2 else Qz YM (fun _=>some 0) n ()
def LM (n:List (List Att)):Prop:= ∀ p∈n,∀ e∈p,dM e
def Ahw (N:Nat) (n:List (List Att)) (hN:1048578<N) (hn:LM n):NW N n=YJ n:=by
 unfold NW YJ;try simp -zeta only[Ap]
 by_cases h8:8<n.length
 .rw[Du h8,Dk,cond_true]
 .rw[Dp h8,A0x,cond_false];refine Om (S:=Unit) (mk:=fun i _=>i) n [] (fun _ _=>True) YM (fun _=>some 0) ?_ ?_ N () trivial
  .intro i s hi _;rw[getD_lt n i [] hi];have hr:=AxL N n[i] hN (hn _ (Ec hi));unfold YM;by_cases h:VT n[i]=0
   .rw[Du h];refine⟨fun k=> ?_,trivial⟩;dsimp only;rw[show((i:Int)).toNat=i by omega,getD_lt n i [] hi,Dk,cond_true,Dk,Jz,Jz,hr,Jt,h,w64];rfl
   .rw[Dp h];intro k;dsimp only;rw[show((i:Int)).toNat=i by omega,getD_lt n i [] hi,Dk,cond_true,Dk,Jz,Jz,hr,Jt,show(VT n[i] != 0)=true from EE.2 h,cond_true]
  .simp_all[Att,LM,NW,YJ]
def Alr (N:Nat) (n:List (List Att)) (hN:1048578<N) (hn:LM n):MH N n=YJ n:=by
 unfold MH YJ;try simp -zeta only[Ap]
 by_cases h8:8<n.length
 .rw[Du h8,Dk,cond_true]
 .rw[Dp h8,A0x,cond_false];refine Om (S:=Unit) (mk:=fun i _=>i) n [] (fun _ _=>True) YM (fun _=>some 0) ?_ ?_ N () trivial
  .intro i s hi _;rw[getD_lt n i [] hi];have ha:=fun(h4:(n[i]).length<=4)=>Aj0 N n[i] hN (hn _ (Ec hi)) h4;obtain⟨v,hv⟩:=Aji n[i];have pre: ∀(A:Option Int) (K:List Att->Option Int),(bif decide ((i:Int)<(n.length:Int))then Vm.chk (decide ((0:Int)<=(i:Int))) (Vm.chk (decide ((i:Int)<(n.length:Int))) (K (n.getD (i:Int).toNat [])))else A)=K n[i]:=by all_goals simp_all[getD_lt,hi,Jz,Att,LM,MH,YJ]
   have key: ∀ k:Int->Option Int,(bif (((n[i].length:Nat):Int)==0)then some 14 else bif decide ((n[i].length:Int)>4)then some 2 else Jr (MB N n[i]) fun r=>bif r != 0 then some r else k (i64.wrap ((i:Int)+1)))=if VT n[i]=0 then k ((i:Int)+1)else some (VT n[i]):=by
    intro k;unfold VT;by_cases h0:n[i]=[]
    .rw[h0];rfl
    .have hpos:=GG.2 h0;all_goals grind[Jt,w64]
   unfold YM;by_cases h:VT n[i]=0
   .rw[Du h];refine⟨fun k=> ?_,trivial⟩;refine(pre _ (fun a=>bif (((a.length:Nat):Int)==0)then some 14 else bif decide ((a.length:Int)>4)then some 2 else Jr (MB N a) fun r=>bif r != 0 then some r else k (i64.wrap ((i:Int)+1)))).trans ?_;refine(key k).trans ?_;rw[Du h]
   .rw[Dp h];intro k;refine(pre _ (fun a=>bif (((a.length:Nat):Int)==0)then some 14 else bif decide ((a.length:Int)>4)then some 2 else Jr (MB N a) fun r=>bif r != 0 then some r else k (i64.wrap ((i:Int)+1)))).trans ?_;refine(key k).trans ?_;rw[Dp h]
  .intro s k _;rw[A0x,cond_false]
def Aly (N:Nat) (s:Bs) (c:UInt8) (hN:s.length+2<N:=by omega) (hs:s.length<=1048576:=by omega):QH N s (c.toNat:Int)=some (Kz c s):=by
 unfold QH;try simp only[clR]
 refine Ew (Nu (I:=fun x:Int×Int×List Bs=> ∃(a j:Nat) (acc:List Bs),x=((a:Int),(j:Int),acc)/\((a<=j/\j<=s.length/\c∉J6 s a j)\/(a=s.length+1/\j=s.length+1))/\acc.length<=j) (μ :=fun x=>s.length+1 - x.2.1.toNat) (F:=fun x=>some (if x.1.toNat<=s.length then x.2.2++Kz c (s.drop x.1.toNat)else x.2.2)) ?_ N (0,0,[]) ⟨0,0,[],rfl,Or.inl ⟨DK _,Em _,by rw[XP];exact F6⟩,Em _⟩ (by show s.length+1 - 0<N;omega)) ?_
 .rintro x ⟨a,j,acc,rfl,hi,hacc⟩ k hk;dsimp only[U3];rw[show((a:Int)).toNat=a by omega,show((j:Int)).toNat=j by omega];rcases hi with ⟨h1,h2,h3⟩ | ⟨h1,h2⟩
  .have hsplit:s.drop a=J6 s a j++s.drop j:=by
    unfold J6
    conv=>lhs;rw[<- Ht j s]
    rw[H6 (by rw[DD];omega)]
   rw[Dk (show(j:Int)<=(s.length:Int) by omega),cond_true,Dk (show(0:Int)<=(j:Int) by omega)];simp only[Ea,Jz];by_cases hl:j<s.length
   .rw[Dk (show(j:Int)<(s.length:Int) by omega),getD_lt s j 0 hl];simp only[Ea,Jz];rw[show(((j:Nat):Int)==((s.length:Nat):Int))=false from Eg (by omega),EK];by_cases hc:s[j]=c
    .rw[hc,show(((c.toNat:Nat):Int)==((c.toNat:Nat):Int))=true from EO _,cond_true,Dk,Jz,Dk,Jz,Dk,Jz,w64,show((j:Int)+1)=((j+1:Nat):Int)from rfl];rw[hk _ ⟨j+1,j+1,_,rfl,Or.inl ⟨DK _,by omega,by rw[XP];exact F6⟩,by rw[Dv,List.length_singleton];omega⟩ (by show s.length+1 - ((j+1:Nat):Int).toNat<s.length+1 - ((j:Int)).toNat;omega)];show some (if((j+1:Nat):Int).toNat<=s.length then(acc++[J6 s a j])++Kz c (s.drop ((j+1:Nat):Int).toNat)else _)=_;rw[show((j+1:Nat):Int).toNat=j+1 by omega,A0z,A0z,hsplit,EN hl,hc,VV _ _ _ h3,Ee];rfl
    .have hne:(((s[j].toNat:Nat):Int)==((c.toNat:Nat):Int))=false:=Eg fun h=>hc (H5.1 (by omega));rw[hne,cond_false,w64,show((j:Int)+1)=((j+1:Nat):Int)from rfl];rw[hk _ ⟨a,j+1,acc,rfl,Or.inl ⟨by omega,by omega,by rw[Aay s h1 hl,DR,Ed];rintro (h | h);exact h3 h;exact hc h.symm⟩,by omega⟩ (by show s.length+1 - ((j+1:Nat):Int).toNat<s.length+1 - ((j:Int)).toNat;omega)];show some (if((a:Int)).toNat<=s.length then acc++Kz c (s.drop ((a:Int)).toNat)else _)=_;rw[show((a:Int)).toNat=a by omega]
   .have hj:j=s.length:=by omega
    subst hj;rw[show(((s.length:Nat):Int)==((s.length:Nat):Int))=true from EO _];simp only[EM,Ea,Jz,cond_true];rw[Dk,Jz,Dk,Jz,Dk,Jz,w64,show((s.length:Int)+1)=((s.length+1:Nat):Int)from rfl];rw[hk _ ⟨s.length+1,s.length+1,_,rfl,Or.inr ⟨rfl,rfl⟩,by rw[Dv,List.length_singleton];omega⟩ (by show s.length+1 - ((s.length+1:Nat):Int).toNat<s.length+1 - ((s.length:Int)).toNat;omega)];show some (if((s.length+1:Nat):Int).toNat<=s.length then _ else acc++[J6 s a s.length])=_;rw[A0y,A0z,hsplit,Gq,DV,aZ _ _ h3]
  .subst h1;subst h2;rw[A0x,cond_false,A0y]
 .rfl
def vT (c:UInt8):Bool:=UH c||decide (c.toNat=45)
def jY (s:Bs):Bool:= !(decide (s.length<1)||decide (63<s.length)||decide ((s.getD 0 0).toNat=45)||decide ((s.getD (s.length - 1) 0).toNat=45))&&s.all vT
def rF (N:Nat) (c:UInt8): ∃ a b,Td N (c.toNat:Int)=some a/\Su N (c.toNat:Int)=some b/\(a||b)=UH c:=by refine tN (P:=fun c=> ∃ a b,Td N (c.toNat:Int)=some a/\Su N (c.toNat:Int)=some b/\(a||b)=UH c) ?_ c;intro n;refine⟨(Td 0 ((UInt8.ofNat n.val).toNat:Int)).getD false,(Su 0 ((UInt8.ofNat n.val).toNat:Int)).getD false,?_⟩;show Td 0 _=_/\Su 0 _=_/\_;revert n;decide +kernel
def AjR (N:Nat) (s:Bs) (hN:70<N) (hs:s.length<=1048576):iG N s=some (jY s):=by
 unfold iG jY;try simp only[clR]
 by_cases h1:s.length<1
 .have:s=[]:=GZ.1 (by omega);subst this;rfl
 .rw[Dq h1,Dq (show ¬(s.length:Int)<1 by omega),Dk (show(0:Int)<(s.length:Int) by omega),w64,Dk (show(0:Int)<=(s.length:Int) - 1 by omega),Dk (show(s.length:Int) - 1<(s.length:Int) by omega),show((s.length:Int) - 1).toNat=s.length - 1 by omega];simp only[Ea,Jz,EK]
  have e1: ∀ c:UInt8,(((c.toNat:Nat):Int)==45)=decide (c.toNat=45):=fun c=>by
   by_cases h:c.toNat=45
   .rw[h];rfl
   .rw[Dq h];exact Eg (by omega)
  rw[e1,e1,show decide ((s.length:Int)>63)=decide (63<s.length) by congr 1;apply propext;omega];generalize decide ((s.getD 0 0).toNat=45)=q1;generalize decide ((s.getD (s.length - 1) 0).toNat=45)=q2;by_cases h2:63<s.length
  .rw[Dk h2];rfl
  .rw[Dq h2];cases q1<;>cases q2<;>first | rfl | skip
   rw[show(false||false||false)=false from rfl,cond_false,Dk,Jz];have hml:((s.map fun b=>((b.toNat:Nat):Int)).length)=s.length:=D7 ..;refine Ew (OC (S:=Unit) (mk:=fun i _=>(i,s.map fun b=>((b.toNat:Nat):Int))) (out:=fun a=>a) s 0 (fun _ _=>True) (fun e (_:Unit)=>if vT e=true then .inr ()else .inl (some false)) ?_ ?_ N () trivial) ?_
   .intro i a hi _;obtain⟨x,y,hx,hy,hxy⟩:=rF N (s.getD i 0);have hg:(s.map fun b=>((b.toNat:Nat):Int)).getD i 0=(((s.getD i 0).toNat:Nat):Int):=by rw[getD_lt _ i 0,getD_lt s i 0 hi,G8]
    have hne:((((s.getD i 0).toNat:Nat):Int) != 45)= !decide ((s.getD i 0).toNat=45):=by rw[bne,e1]
    refine SI (p:=vT) (fun h k=> ?_) (fun h=>⟨fun k=> ?_,trivial⟩)
    .dsimp only[U2];unfold vT at h;rw[hml,show((i:Int)).toNat=i by omega,Dk,cond_true,Dk,Jz,Dk,Jz,hg,hx,Jt,hy,hne];rw[<- hxy]at h;generalize decide ((s.getD i 0).toNat=45)=z at h;cases x<;>cases y<;>cases z<;>first | rfl | (exact absurd h (by decide))
    .dsimp only[U2];unfold vT at h;rw[hml,show((i:Int)).toNat=i by omega,Dk,cond_true,Dk,Jz,Dk,Jz,hg,hx,Jt,hy,hne,w64];rw[<- hxy]at h;generalize decide ((s.getD i 0).toNat=45)=z at h;cases x<;>cases y<;>cases z<;>first | rfl | (exact absurd h (by decide))
   .intro a k _;dsimp only[U2];rw[hml,A0x,cond_false]
   .rw[Yh];cases s.all vT<;>rfl
def QU (s:Bs):Bool:= !decide (128<s.length)&&(Kz 46 s).all jY
def Xe (N:Nat) (s:Bs) (hN:200<N:=by omega):Qw N s=some (QU s):=by
 unfold Qw QU;try simp -zeta only[Ap]
 by_cases h:128<s.length
 .rw[Dk h,Dk (show(s.length:Int)>128 by omega),cond_true];rfl
 .rw[Dq h,Dq (show ¬(s.length:Int)>128 by omega),cond_false];have hsp:strings_Split N s [46]=some (Kz 46 s):=by unfold strings_Split;rw[Dk,AnO];rfl
  rw[hsp,Jt];have hlen:=Ze 46 s;generalize Kz 46 s=p at hlen ⊢;refine Ew (OC (S:=Unit) (mk:=fun i _=>i) (out:=fun a=>a) p [] (fun _ _=>True) (fun e (_:Unit)=>if jY e=true then .inr ()else .inl (some false)) ?_ ?_ N () trivial) ?_
  .intro i a hi _;have hm:=hlen.2.2 (p.getD i []) (by rw[getD_lt p i [] hi];exact Ec hi);have hlab:=AjR N (p.getD i []) (by omega) (by omega);refine SI (p:=jY) (fun h k=> ?_) (fun h=>⟨fun k=> ?_,trivial⟩)
   .dsimp only;rw[show((i:Int)).toNat=i by omega,Dk,cond_true,Dk,Jz,Jz,hlab,Jt,h];rfl
   .dsimp only;rw[show((i:Int)).toNat=i by omega,Dk,cond_true,Dk,Jz,Jz,hlab,Jt,h,w64];rfl
  .intro a k _;dsimp only;rw[A0x,cond_false]
  .rw[Yh];cases p.all jY<;>rfl
def Avf (c:UInt8) (n:Nat) (hn:n<256):(((c.toNat:Nat):Int)==(n:Int))=(c==UInt8.ofNat n):=by
 by_cases h:c=UInt8.ofNat n
 .subst h;rw[EO,FH,show n % 2 ^ 8=n from FC hn];exact EO _
 .rw[Eg h];refine Eg fun h2=>h ?_;apply H5.1;rw[FH,show n % 2 ^ 8=n from FC hn];omega
def Ays (c:UInt8) (n:Nat) (hn:n<256):(((c.toNat:Nat):Int) != (n:Int))= !(c==UInt8.ofNat n):=by unfold bne;rw[Avf c n hn]
def beq46 (c:UInt8):(((c.toNat:Nat):Int)==46)=(c==46):=Avf c 46 (by omega)
def AwH (c:UInt8):(((c.toNat:Nat):Int)==45)=(c==45):=Avf c 45 (by omega)
def Azm (c:UInt8):(((c.toNat:Nat):Int) != 45)= !(c==45):=Ays c 45 (by omega)
def Azn (c:UInt8):(((c.toNat:Nat):Int) != 64)= !(c==64):=Ays c 64 (by omega)
def AqR (c:UInt8):decide (c.toNat=45)=(c==45):=by
 rw[<- AwH];by_cases h:c.toNat=45
 .rw[h];rfl
 .rw[Dq h];exact(Eg (by omega)).symm
def TV (N:Nat) (s:Bs) (hN:1048578<N):NL N s=some (QU s):=by
 unfold NL QU;try simp only[clR]
 by_cases h1:128<s.length
 .rw[Af1 (by omega),cond_true,Alj h1];rfl
 .rw[Alc (by omega),cond_false,Ali (by omega)];have hsp:QH N s 46=some (Kz 46 s):=Aly N s 46;rw[hsp,Jt];have hlen:=Ze 46 s;generalize Kz 46 s=p at hlen ⊢;refine Ew (QF (S:=Unit) (R:=Bool) (mk:=fun i _=>(i:Int)) p [] (fun l _=>bif jY l then .inr ()else .inl false) some (fun _=>some true) ?_ ?_ N ()) ?_
  .intro i _ hi k;have hm:=hlen.2.2 _ (getD_mem [] hi);dsimp only;rw[show((i:Int)).toNat=i by omega];generalize p.getD i []=l at hm ⊢;unfold jY;rw[AqR,AqR];by_cases h2:l.length<1
   .simp (disch:=omega) only[JF]
   .by_cases h3:63<l.length
    .simp (disch:=omega) only[JF]
    .simp (disch:=omega) only[JF,AwH,JX];cases l.getD 0 0==45<;>cases l.getD (l.length - 1) 0==45<;>first | rfl | skip
     refine Ew (QF (S:=Unit) (R:=Bool) (mk:=fun i _=>(i:Int)) l 0 (fun c _=>bif vT c then .inr ()else .inl false) some (fun _=>k ((i+1:Nat):Int)) ?_ ?_ N ()) ?_
     .intro j _ hj k;simp (disch:=omega) only[JF,tX,Azm,JX];unfold vT;rw[AqR];cases UH (l.getD j 0)<;>cases l.getD j 0==45<;>rfl
     .intro _ k;simp (disch:=omega) only[JF]
     .rw[AaT];cases l.all vT<;>rfl
  .intro _ k;simp (disch:=omega) only[JF]
  .rw[AaT];cases p.all jY<;>rfl
def contains_one (c:UInt8) (s:Bs):Lib.contains s [c]=s.contains c:=by
 unfold Lib.contains;rcases bT c s with h | ⟨a,r,rfl,ha⟩
 .rw[index_none c s h];have:s.contains c=false:=by simpa using h
  rw[this];rfl
 .rw[Aes c a r ha];have:(a++c::r).contains c=true:=by simp
  rw[this];exact Dk
def wL (s:Bs):Bool:=bif Lib.hasPrefix s [42,46]then decide (s.length<=128)&&QU (s.drop 2)&&(s.drop 2).contains 46 else QU s
def Aze {s p:Bs} (h:Lib.hasPrefix s p=true):Lib.trimPrefix s p=s.drop p.length:=by unfold Lib.trimPrefix;rw[Du h]
def Azd {s p:Bs} (h:Lib.hasPrefix s p=false):Lib.trimPrefix s p=s:=by unfold Lib.trimPrefix;rw[Dp (by rw[h];decide)]
def AfQ (N:Nat) (s:Bs) (hN:1048578<N):VL N s=some (wL s):=by
 unfold VL wL strings_CutPrefix;try simp only[clR]
 rw[Jt];cases hp:Lib.hasPrefix s [42,46]with
 | false=>rw[Azd hp,Xe N _];rfl
 | true =>
  rw[Aze hp,show s.drop ([42,46]:Bs).length=s.drop 2 from rfl];simp (disch:=omega) only[JF,Xe,AvH,Option.getD_some];by_cases h:s.length<=128
  .unfold strings_Contains;rw[Dk (show(s.drop 2).length<4294967281 by rw[Es];omega),cond_true,contains_one,Ov h,Sr];rfl
  .rw[Ags (by omega),AwJ (by omega)];simp [chk]
def Av1 (r:Bs):QU (42::46::r)=false:=by unfold QU;rw[show(42::46::r:Bs)=[42]++46::r from rfl,VV _ _ _,List.all_cons,show jY [42]=false by decide];simp;decide
def Axt (r:Bs):QU (46::r)=false:=by unfold QU;rw[show(46::r:Bs)=[]++46::r from rfl,VV _ _ _,List.all_cons,show jY []=false by decide];simp;decide
def Ah3:QU []=false:=by decide
def Au9 (s:Bs):decide (2<=(Kz 46 s).length)=s.contains 46:=by
 rcases bT 46 s with h | ⟨a,r,rfl,ha⟩
 .rw[aZ _ _ h];have:s.contains 46=false:=by simpa using h
  rw[this];rfl
 .rw[VV _ _ _ ha];have:(a++46::r).contains 46=true:=by simp
  rw[this];have:=(Ze 46 r).2.1;exact Dk (by rw[List.length_cons];omega)
def AxS (s:Bs):(∃ r,s=42::46::r)\/(Lib.hasPrefix s [42,46]=false/\(J6 s 0 2==[42,46])=false):=by
 match s with
 | []=>right;exact⟨rfl,rfl⟩
 | [a]=>right;exact⟨by simp [Lib.hasPrefix,List.isPrefixOf],by simp [J6]⟩
 | a::b::r =>
  by_cases h:a=42/\b=46
  .left;exact⟨r,by rw[h.1,h.2]⟩
  .right;refine⟨?_,?_⟩
   .cases hq:Lib.hasPrefix (a::b::r) [42,46]with
    | false=>rfl
    | true =>exfalso;simp [Lib.hasPrefix,List.isPrefixOf]at hq;exact h ⟨hq.1.symm,hq.2.symm⟩
   .refine Eg fun hq=>h ?_;simp [J6]at hq;exact hq
def AeN (N:Nat) (s:Bs) (hN:1048578<N) (hs:s.length<=1048576):UU N s=some (wL s):=by
 unfold UU wL;try simp only[clR]
 have hsp:QH N s 46=some (Kz 46 s):=Aly N s 46;rw[TV N s hN,Jt,TV N _ hN,hsp];simp only[Option.isSome_some,Option.getD_some,Ea,Jz];rcases AxS s with ⟨r,rfl⟩ | ⟨h1,h2⟩
 .rw[Av1,show Lib.hasPrefix (42::46::r) [42,46]=true by simp [Lib.hasPrefix,List.isPrefixOf],cond_true,show(42::46::r:Bs).drop 2=r from rfl];rw[show J6 (42::46::r:Bs) 2 (42::46::r:Bs).length=r by unfold J6;rw[EP];rfl,show(J6 (42::46::r:Bs) 0 2==[42,46])=true by simp [J6]];rw[show decide (((Kz 46 (42::46::r)).length:Int)>2)=r.contains 46 by rw[<- Au9,show(42::46::r:Bs)=[42]++46::r from rfl,VV _ _ _,List.length_cons];congr 1;apply propext;omega;decide];rw[show decide (((42::46::r:Bs).length:Int)<=128)=decide ((42::46::r:Bs).length<=128) by congr 1;apply propext;omega];rw[Sr (show(2:Int)<=((42::46::r:Bs).length:Int) by simp;omega)];cases r with
  | nil=>rw[Ah3];simp [chk]
  | cons x r =>rw[Af1 (show((42::46::x::r:Bs).length:Int)>2 by simp;omega)];cases decide ((42::46::x::r:Bs).length<=128)<;>cases QU (x::r)<;>cases (x::r).contains 46<;>rfl
 .rw[h1,cond_false,h2]
  have:decide (2<=((s.length:Nat):Int))=true\/decide (((s.length:Nat):Int)>2)=false:=by
   by_cases h:2<=s.length
   .left;exact Dk
   .right;exact A0x
  rcases this with h | h<;>rw[h]<;>cases QU s<;>cases decide (((s.length:Nat):Int)<=128)<;>simp [chk]
def uB (s:Bs):Bool:=(s==[])||QU s
def Am2 (N:Nat) (s:Bs) (hN:1048578<N):cO N s=some (uB s):=by
 unfold cO uB;try simp only[clR]
 simp (disch:=omega) only[JF,Xe,Option.isSome_some,Option.getD_some]
def Ak7 (N:Nat) (s:Bs) (hN:1048578<N):YX N s=some (uB s):=by
 unfold YX uB;try simp only[clR]
 simp (disch:=omega) only[JF,TV,Option.isSome_some,Option.getD_some]
def xC:Bs:=[33,35,36,37,38,39,42,43,45,47,61,63,94,95,96,123,124,125,126,46]
def Tj (c:UInt8):Bool:=UH c||xC.any (· ==c)
def dots:Bs->Bool
 | x::y::r=>(x==46&&y==46)||dots (y::r)
 | _=>false
def Aj8: ∀ s:Bs,Lib.contains s [46,46]=dots s:=by
 have key: ∀ s:Bs,(Lib.index s [46,46]= -1/\dots s=false)\/(0<=Lib.index s [46,46]/\dots s=true):=by
  intro s
  induction s with
  | nil=>left;exact⟨rfl,rfl⟩
  | cons x r ih =>
   cases r with
   | nil =>left;refine⟨?_,rfl⟩;show(if List.isPrefixOf [46,46] [x]=true then(0:Int)else _)= -1;rw[Dp (by simp [List.isPrefixOf])];rfl
   | cons y r =>
    have e:Lib.index (x::y::r) [46,46]=if List.isPrefixOf [46,46] (x::y::r)=true then(0:Int)else if Lib.index (y::r) [46,46]== -1 then -1 else Lib.index (y::r) [46,46]+1:=rfl;have d:dots (x::y::r)=((x==46&&y==46)||dots (y::r)):=rfl;have p:List.isPrefixOf [46,46] (x::y::r)=(x==46&&y==46):=by simp only[List.isPrefixOf,Gu];rw[IK (a:=(46:UInt8)),IK (a:=(46:UInt8))]
    rw[e,d,p];cases (x==46&&y==46)with
    | true=>right;exact⟨by rw[Du rfl];exact FN 0,rfl⟩
    | false =>
     rcases ih with ⟨h1,h2⟩ | ⟨h1,h2⟩
     .left;rw[h1,h2];exact⟨rfl,rfl⟩
     .right;rw[h2];refine⟨?_,rfl⟩;rw[Dp (by decide),Dp (by simp;omega)];omega
 intro s;unfold Lib.contains;rcases key s with ⟨h1,h2⟩ | ⟨h1,h2⟩
 .rw[h1,h2];rfl
 .rw[h2];exact Dk h1
def AaR (s:Bs):Bool:= !(decide (s.length<1)||decide (64<s.length)||(s.getD 0 0==46)||(s.getD (s.length - 1) 0==46)||dots s)&&s.all Tj
def AjV (c:UInt8): ∀ l:Bs,decide (Lib.indexByte l c>=0)=l.any (· ==c):=by
 intro l
 induction l with
 | nil=>rfl
 | cons b r ih =>
  show decide ((if(b==c)=true then(0:Int)else if Lib.indexByte r c== -1 then -1 else Lib.indexByte r c+1)>=0)=(b==c||r.any (· ==c));cases b==c with
  | true=>rfl
  | false =>
   rw[Dp (by decide),EK,<- ih];have:=Lib.indexByte_ge r c;by_cases h:Lib.indexByte r c= -1
   .rw[h];rfl
   .rw[Dp (by simpa using h)];congr 1;apply propext;omega
def Azg (c:UInt8):c.toNat.toUInt8=c:=Ic
def AjT (N:Nat) (s:Bs) (hN:1048578<N) (hs:s.length<=1048576):YB N s=some (AaR s):=by
 unfold YB AaR;try simp only[clR]
 unfold strings_Contains;rw[Dk (show s.length<4294967281 by omega),cond_true,Aj8];by_cases h1:s.length<1
 .have:s=[]:=GZ.1 (by omega);subst this;rfl
 .by_cases h2:64<s.length
  .simp (disch:=omega) only[JF,Option.isSome_some]
  .simp (disch:=omega) only[JF,Option.isSome_some,Option.getD_some,beq46];cases s.getD 0 0==46<;>cases s.getD (s.length - 1) 0==46<;>cases dots s<;>first | rfl | skip
   simp only[EK,ES,cond_false,Eu,EH];have hml:((s.map fun b=>((b.toNat:Nat):Int)).length)=s.length:=D7 ..;refine Ew (QF (S:=Unit) (R:=Bool) (mk:=fun i _=>((i:Int),s.map fun b=>((b.toNat:Nat):Int))) s 0 (fun c _=>bif Tj c then .inr ()else .inl false) some (fun _=>some true) ?_ ?_ N ()) ?_
   .intro i _ hi k;obtain⟨x,y,hx,hy,hxy⟩:=rF N (s.getD i 0);have hg:(s.map fun b=>((b.toNat:Nat):Int)).getD i 0=(((s.getD i 0).toNat:Nat):Int):=by rw[getD_lt _ i 0,getD_lt s i 0 hi,G8]
    simp (disch:=omega) only[JF,hml,hg,hx,hy,JX,strings_IndexByte,Azg,AjV];unfold Tj;rw[<- hxy];show _=bif _||xC.any (· ==s.getD i 0)then _ else _;rw[show([33,35,36,37,38,39,42,43,45,47,61,63,94,95,96,123,124,125,126,46]:Bs)=xC from rfl];cases x<;>cases y<;>cases xC.any (· ==s.getD i 0)<;>rfl
   .intro _ k;simp (disch:=omega) only[JF,hml]
   .rw[AaT];cases s.all Tj<;>rfl
end Go.Proofs.YtdihmdelaolelaaGreatDoor.Pl
