import Derived.Test.YtehkhflpjkokeaaGreatDoorA15
import Derived.Sort.Walk0
import Derived.Lib.TrimUEq
set_option linter.all false
namespace Go.Proofs.YtehkhflpjkokeaaGreatDoor.Pl
open IntKind (i64 u8 u32 u64)
open Go Vm
def hiD (m:Nat):List Nat:=if m=0 then []else hiD (m / 128)++[m % 128]
termination_by m
decreasing_by omega
def Aph:hiD 0=[]:=by rw[hiD];rfl
def AuR {m:Nat} (h:m≠0):hiD m=hiD (m / 128)++[m % 128]:=by rw[hiD,Dk h]
def AnU: ∀(k m:Nat),m<128 ^ k->(hiD m).map (· +128)=hi m/\(hiD m).length<=k/\ ∀ x∈hiD m,x<128:=by
 intro k
 induction k with
 | zero =>intro m h;rw[Nat.pow_zero]at h;rw[show m=0 by omega,AcD,Aph];exact⟨rfl,DN _,fun x h=>by cases h⟩
 | succ k ih =>
  intro m h;by_cases h0:m=0
  .rw[h0,AcD,Aph];exact⟨rfl,EG _,fun x h=>by cases h⟩
  .obtain⟨h1,h2,h3⟩:=ih (m / 128) (by rw[Nat.pow_succ]at h;omega);rw[Api h0,AuR h0,F7,h1,Dx];refine⟨rfl,by simp only[List.length_singleton];omega,fun x hx=> ?_⟩;rw[DJ,DT]at hx;rcases hx with hx | rfl
   .exact h3 x hx
   .omega
def Wx (n:Nat):List Nat:=hiD (n / 128)++[n % 128]
def bump:List Int->List Int
 | []=>[]
 | [x]=>[x]
 | x::y::r=>u8.wrap (x+128)::bump (y::r)
def AqO (z:Int): ∀ a:List Int,bump (a++[z])=a.map (fun x=>u8.wrap (x+128))++[z]:=by
 intro a
 induction a with
 | nil=>rfl
 | cons x r ih =>
  cases r with
  | nil=>rfl
  | cons y r =>show u8.wrap (x+128)::bump ((y::r)++[z])=_;rw[ih];rfl
def AqM (n:Nat) (h:n<34359738368):bump (ints (Wx n))=ints (WG n):=by obtain⟨h1,h2,h3⟩:=AnU 4 (n / 128) (by omega);unfold Wx WG;rw[eG,eG,<- h1];show bump (ints (hiD (n / 128))++[((n % 128:Nat):Int)])=_;rw[AqO];congr 1;unfold ints;rw[EW,EW];refine ED fun x hx=> ?_;have:=h3 x hx;show u8.wrap ((x:Int)+128)=((x+128:Nat):Int);rw[w8];omega
def Ats (n:Nat) (h:n<34359738368):(Wx n).length<=5:=by obtain⟨h1,h2,h3⟩:=AnU 4 (n / 128) (by omega);unfold Wx;rw[Dx];simp only[List.length_singleton];omega
def Atr {ρ :Type} (N n:Nat) (L acc:List Int) (hn:n<34359738368) (hN:16<N) (fin:List Int×List Int×List Int->Option ρ) :
 Jz (X:=Int×List Int×List Int×List Int) (Y:=List Int×List Int×List Int) (U4 fun t8b l40192b l1004096b l1004112b k3 x4 =>
         Vm.chk (decide ((1+l1004096b.length)*2<=140737488355328))
          (bif i64.wrap (t8b.tdiv 128)==0 then
            x4 (l40192b,[u8.wrap (t8b.tmod 128)]++l1004096b,l1004112b)
          else
           k3
            (i64.wrap (t8b.tdiv 128),l40192b,
              [u8.wrap (t8b.tmod 128)]++l1004096b,l1004112b))) N ((n:Int),L,[],acc) fin=fin (L,ints (Wx n),acc):=by
 refine E5 (MK (I:=fun x:Int×List Int×List Int×List Int=> ∃(n:Nat) (c:List Int),x=((n:Int),L,c,acc)/\n<34359738368/\c.length+cnt n<=10) (μ :=fun x=>cnt x.1.toNat) (F:=fun x=>fin (L,ints (Wx x.1.toNat)++x.2.2.1,acc)) ?_ N ((n:Int),L,[],acc) ⟨n,[],rfl,hn,by have:=cnt_le 5 n (by omega);simp only[List.length_nil];omega⟩ (by show cnt ((n:Int)).toNat<N;rw[show((n:Int)).toNat=n by omega];have:=cnt_le 5 n (by omega);omega)) ?_
 .rintro x ⟨n,c,rfl,h1,h2⟩ k hk;dsimp only[U4];have ht:((n:Int)).toNat=n:=by omega
  rw[Di,Jv,show((n:Int)).tdiv 128=((n / 128:Nat):Int)from rfl,show((n:Int)).tmod 128=((n % 128:Nat):Int)from rfl,w64,w8,show((n % 128:Nat):Int) % 256=((n % 128:Nat):Int) by omega,ht];by_cases h0:n / 128=0
  .rw[show(((n / 128:Nat):Int)==0)=true by rw[h0];rfl,cond_true];unfold Wx;rw[h0,Aph];rfl
  .have hb:(((n / 128:Nat):Int)==0)=false:=by
    apply Gm.2;intro h;have:=Gh h;omega
   have hn0:n≠0:=fun e=>h0 (by rw[e]);have e1:(((n / 128:Nat)):Int).toNat=n / 128:=by omega
   have hc:=Ajn hn0;rw[hb,cond_false,hk _ ⟨n / 128,_,rfl,by omega,by rw[Dx,List.length_singleton];omega⟩ (by show cnt (((n / 128:Nat)):Int).toNat<cnt ((n:Int)).toNat;rw[e1,ht];omega)];show fin (L,ints (Wx (((n / 128:Nat)):Int).toNat)++([((n % 128:Nat):Int)]++c),acc)=_;rw[e1,<- Ej];have:ints (Wx (n / 128))++[((n % 128:Nat):Int)]=ints (Wx n):=by rw[show Wx n=Wx (n / 128)++[n % 128] by unfold Wx;rw[AuR h0],eG];rfl
   rw[this]
 .show fin (L,ints (Wx ((n:Int)).toNat)++[],acc)=_;rw[En,show((n:Int)).toNat=n by omega]
def AqN {ρ :Type} (N:Nat) (L A acc:List Int) (hA:A.length<=10) (hN:16<N) (fin:List Int×List Int×List Int->Option ρ) :
 Jz (X:=Int×List Int×List Int×List Int) (Y:=List Int×List Int×List Int) (U4 fun t10d l40192d l43264d l1012288d k5 x6 =>
         bif decide (i64.wrap (t10d+1)< ↑l43264d.length)then
          Vm.chk (decide (0<=t10d))
           (Vm.chk (decide (t10d< ↑l43264d.length))
             (Vm.chk (decide (t10d.toNat<l43264d.length))
               (Vm.chk (decide (0<=t10d))
                 (Vm.chk (decide (t10d< ↑l43264d.length))
                   (Vm.chk (decide (t10d.toNat<l43264d.length))
                     (k5
                       (i64.wrap (t10d+1),l40192d,
                         l43264d.set t10d.toNat
                          (u8.wrap (l43264d.getD t10d.toNat 0+128)),
                         l1012288d)))))))
         else x6 (l40192d,l43264d,l1012288d)) N (0,L,A,acc) fin=fin (L,bump A,acc):=by
 refine E5 (MK (I:=fun x:Int×List Int×List Int×List Int=> ∃ p s:List Int,x=((p.length:Int),L,p++s,acc)/\p.length+s.length<=10) (μ :=fun x=>x.2.2.1.length - x.1.toNat) (F:=fun x=>fin (L,x.2.2.1.take x.1.toNat++bump (x.2.2.1.drop x.1.toNat),acc)) ?_ N (0,L,A,acc) ⟨[],A,rfl,by simpa using hA⟩ (by show A.length - 0<N;omega)) ?_
 .rintro x ⟨p,s,rfl,h1⟩ k hk;dsimp only[U4];have ht:((p.length:Int)).toNat=p.length:=by omega
  rw[w64,ht,Dx,GN,Gx]
  match s with
  | [] =>rw[Dn (by simp only[List.length_nil];omega),cond_false];rfl
  | [x] =>rw[Dn (by simp only[List.length_singleton];omega),cond_false];rfl
  | x::y::r =>
   simp only[List.length_cons]at h1;have hg:(p++x::y::r).getD p.length 0=x:=by rw[Dj,EC (DN _),Hg];rfl
   have hset:(p++x::y::r).set p.length (u8.wrap (x+128))=(p++[u8.wrap (x+128)])++(y::r):=by rw[GR _ _ (DN _),Hg,Ej];rfl
   simp only[List.length_cons];rw[Di,cond_true,Di,Jv,Di,Jv,Di];simp only[Jv];rw[hg,hset];have e1:((p.length:Int)+1)=(((p++[u8.wrap (x+128)]).length:Nat):Int):=by rw[Dx,List.length_singleton];omega
   rw[e1,hk _ ⟨p++[u8.wrap (x+128)],y::r,rfl,by rw[Dx];simp only[List.length_cons,List.length_nil];omega⟩ (by
    show((p++[u8.wrap (x+128)])++(y::r)).length - (((p++[u8.wrap (x+128)]).length:Nat):Int).toNat<(p++x::y::r).length - ((p.length:Nat):Int).toNat
    simp only[Dx,List.length_cons,List.length_nil];omega)]
   have e2:(((p++[u8.wrap (x+128)]).length:Nat):Int).toNat=(p++[u8.wrap (x+128)]).length:=by omega
   show fin (L,((p++[u8.wrap (x+128)])++(y::r)).take (((p++[u8.wrap (x+128)]).length:Nat):Int).toNat++bump (((p++[u8.wrap (x+128)])++(y::r)).drop (((p++[u8.wrap (x+128)]).length:Nat):Int).toNat),acc)=_;rw[e2,GN,Gx,Ej];rfl
 .rfl
def Aaj (N:Nat) (s:Bs) (hN:16<N) (hs:s.length<=1048576) (hl:s.length+1<N):Uw N s=some (encR (MR s)):=by
 unfold Uw;try simp -zeta only[Ap]
 rw[o5 N s hN hs hl,Jr];cases ha:MR s with
 | none=>rfl
 | some l =>
  obtain⟨h1,h2,h3,h4⟩:=aQ ha;have hf:=qK h1 h3 h4;rw[show Adn (some l)=(ints l,true)from rfl];dsimp only;rw[Md,Eh,cond_false,Di,Jv,Di,Jv,WU,WU];rw[w64 (x:=40*((l.getD 0 0:Nat):Int)),w64,show(40:Int)*((l.getD 0 0:Nat):Int)+((l.getD 1 0:Nat):Int)=((40*l.getD 0 0+l.getD 1 0:Nat):Int) by omega];try dsimp only
  rw[<- Md l,AkM,Md];generalize hd:l.drop 2=d;have hdl:d.length<=10:=by rw[<- hd,EJ];omega
  have hdm: ∀ x∈d,x<=2147483647:=fun x hx=>h3 x (FU (hd▸hx));have he: [((40*l.getD 0 0+l.getD 1 0:Nat):Int)]++ints d=ints ((40*l.getD 0 0+l.getD 1 0)::d):=rfl;rw[he];have hout:dR l=((40*l.getD 0 0+l.getD 1 0)::d).flatMap WG:=by unfold dR;rw[hd];rfl
  have hb:=yV (AnS h1 h3 h4);rw[hout]at hb;show _=some ((dR l).map UInt8.ofNat,0);rw[hout];generalize hee:(40*l.getD 0 0+l.getD 1 0)::d=e at hb ⊢;have hel:e.length<=11:=by rw[<- hee,List.length_cons];omega
  have hem: ∀ x∈e,x<34359738368:=by
   intro x hx;rw[<- hee]at hx;rcases D6.1 hx with rfl | hx
   .exact hf.1
   .have:=hdm x hx;omega
  rw[Di,Jv,Di (by rw[Md];omega),Jv];refine E5 (Oo (S:=List Int) (mk:=fun i a=>(i,ints e,a)) (out:=fun a=>a) e 0 (fun i a=>a.length<=5*i) (bT some (fun a n=>a++ints (WG n)) none) ?_ ?_ N [] (DN _)) ?_
  .intro i a hi ha;rw[getD_lt e i 0 hi];have hn:=hem e[i] (Ef hi);have hdl:=Ats e[i] hn;have hsl:=gJ e[i] hn;refine AlW ⟨fun k=> ?_,?_⟩
   .show(bif decide ((i:Int)<((ints e).length:Int))then _ else _)=_;rw[Md,Di,cond_true,Di,Jv,Jv,show((i:Int)).toNat=i by omega,Di,Jv,WU,getD_lt e i 0 hi,Atr N e[i] (ints e) a hn hN];dsimp only[U3];rw[AqN N (ints e) (ints (Wx e[i])) a (by rw[Md];omega) hN];dsimp only[U3];rw[AqM _ hn,Md,Di,Jv,w64]
   .rw[Dx,Md];omega
  .intro a k ha;show(bif decide ((e.length:Int)<((ints e).length:Int))then _ else _)=_;rw[Md,Ay8,cond_false]
  .rw[AlN,Ah6];dsimp only[Option.elim];rw[Aht,List.nil_append];rw[hb.1,hb.2,Jv]
def bU (N:Nat) (s:Bs) (hN:16<N) (hs:s.length<=1048576) (hl:s.length+1<N):UQ N s=some (MR s).isSome/\OQ N s=some (MR s).isSome:=by
 unfold UQ OQ;rw[Acf N s hN hs,o5 N s hN hs hl,Jr,Jr];cases ha:MR s with
 | none=>exact⟨rfl,rfl⟩
 | some l =>obtain⟨h1,h2,h3,h4⟩:=aQ ha;refine⟨?_,rfl⟩;show some (!(ints l).isEmpty)=_;rw[show(ints l).isEmpty=false by rw[Ho];exact⟨_,DF.2 ⟨l.getD 0 0,by rw[getD_lt l 0 0];exact Ef _,rfl⟩⟩];rfl
abbrev dd (n:Nat):Bs:=Lib.decDigits n
def mP {n:Nat} (h:n<10):dd n=[UInt8.ofNat (48+n)]:=Lib.decDigits_one h
def bW {n:Nat} (h: ¬ n<10):dd n=dd (n / 10)++[UInt8.ofNat (48+n % 10)]:=by show Lib.decDigits n=_;rw[Lib.decDigits,Jj h]
def Axo (n:Nat):dd n≠ []:=by
 by_cases h:n<10
 .rw[mP h];simp
 .rw[bW h];simp
def Akg (k n:Nat) (h:n<10 ^ (k+1)):1<=(dd n).length/\(dd n).length<=k+1:=by
 constructor
 .exact GX.2 (Axo n)
 .induction k generalizing n with
  | zero=>rw[mP (by simpa using h)];exact DN _
  | succ k ih =>
   by_cases h1:n<10
   .rw[mP h1];simp
   .rw[bW h1,Dx,List.length_singleton];have:=ih (n / 10) (by rw[Nat.pow_succ]at h;omega);omega
def WJ (k:Nat) (h:k<10):([u8.wrap (i64.wrap ((48:Int)+(k:Int)))].all Vm.isByte)=true/\ [u8.wrap (i64.wrap ((48:Int)+(k:Int)))].map Vm.byteOf=[UInt8.ofNat (48+k)]:=by rw[w64,w8,show((48:Int)+(k:Int)) % 256=((48+k:Nat):Int) by omega];have:=yV (l:=[48+k]) (by intro x hx;rw[DT]at hx;omega);exact this
def Awf (N:Nat): ∀(k n:Nat),n<10 ^ (k+1)->k<=17-> ∀ F,k<F->Tf N F (n:Int)=some (dd n):=by
 intro k
 induction k with
 | zero =>
  intro n h _ F hF;obtain⟨F,rfl⟩: ∃ G,F=G+1:=⟨F - 1,by omega⟩
  have h1:n<10:=by simpa using h
  show SK N (Tf N F) (n:Int)=_;unfold SK;try simp -zeta only[Ap]
  rw[Di,cond_true,(WJ n h1).1,(WJ n h1).2,Jv,mP h1]
 | succ k ih =>
  intro n h hk F hF;obtain⟨F,rfl⟩: ∃ G,F=G+1:=⟨F - 1,by omega⟩
  show SK N (Tf N F) (n:Int)=_;unfold SK;try simp -zeta only[Ap]
  by_cases h1:n<10
  .rw[Di,cond_true,(WJ n h1).1,(WJ n h1).2,Jv,mP h1]
  .have h18:(10:Nat) ^ (k+1+1)<=10 ^ 18+0->n<9223372036854775807:=fun h2=>by omega
   have h19:n<9223372036854775807:=h18 (by rw[Nat.add_zero];exact Gu (by decide) (by omega));have hl:=Akg k (n / 10) (by rw[Nat.pow_succ]at h;omega);rw[Ay8,cond_false,show((n:Int)).tdiv 10=((n / 10:Nat):Int)from rfl,show((n:Int)).tmod 10=((n % 10:Nat):Int)from rfl,w64 (x:=((n / 10:Nat):Int)),ih (n / 10) (by rw[Nat.pow_succ]at h;omega) (by omega) F (by omega),Jr];rw[(WJ (n % 10) (by omega)).1,(WJ (n % 10) (by omega)).2,Jv];dsimp only;rw[Di (by simp only[List.length_singleton];omega),Jv,bW h1]
def leB (a b:Bs):Bool:=Vm.bytesLess a b||a==b
def ArF (a b:Bs):leB a b=decide (a<=b):=by
 unfold leB Vm.bytesLess;rw[bytesLess_eq];by_cases h:a=b
 .subst h;rw[ER,Ew];exact(Di (List.le_refl a)).symm
 .rw[Ed h,ET];by_cases h2:a<b
  .rw[Di h2,Di (List.le_of_lt h2)]
  .rw[Dn h2,Dn];intro h3;exact h (List.le_antisymm h3 (by simpa using h2))
def VE (x:Bs):List Bs->List Bs
 | []=>[x]
 | y::r=>bif leB y x then y::VE x r else x::y::r
def qR (x:Bs): ∀ s:List Bs,(VE x s).Perm (x::s):=by
 intro s
 induction s with
 | nil=>exact I9 _
 | cons y r ih =>
  show(bif leB y x then y::VE x r else x::y::r).Perm _;cases leB y x with
  | true=>exact(List.Perm.cons y ih).trans (List.Perm.swap x y r)
  | false=>exact I9 _
def AtH (x:Bs): ∀ s:List Bs,s.Pairwise (fun a b=>a<=b)->(VE x s).Pairwise (fun a b=>a<=b):=by
 intro s
 induction s with
 | nil=>intro _;exact Hw _ _
 | cons y r ih =>
  intro h;rw[EM]at h;show(bif leB y x then y::VE x r else x::y::r).Pairwise _;cases hl:leB y x with
  | true =>
   rw[ArF,Dz]at hl;rw[cond_true,EM];refine⟨fun z hz=> ?_,ih h.2⟩;rcases D6.1 ((qR x r).mem_iff.1 hz)with rfl | hz
   .exact hl
   .exact h.1 z hz
  | false =>
   rw[ArF,Ec]at hl
   have hxy:x<=y:=by
    rcases List.le_total x y with h | h
    .exact h
    .exact absurd h hl
   rw[cond_false,EM,EM];refine⟨fun z hz=> ?_,h⟩;rcases D6.1 hz with rfl | hz
   .exact hxy
   .exact List.le_trans hxy (h.1 z hz)
def Ak8: ∀(l s:List Bs),s.Pairwise (fun a b=>a<=b)->(l.foldl (fun s x=>VE x s) s).Pairwise (fun a b=>a<=b)/\(l.foldl (fun s x=>VE x s) s).Perm (l++s):=by
 intro l
 induction l with
 | nil=>intro s h;exact⟨h,I9 _⟩
 | cons x r ih =>intro s h;obtain⟨h1,h2⟩:=ih (VE x s) (AtH x s h);refine⟨h1,h2.trans ?_⟩;exact((qR x s).append_left r).trans List.perm_middle
def Aui (l:List Bs):(l.foldl (fun s x=>VE x s) []).flatten=Qr l:=by
 unfold Qr;congr 1;obtain⟨h1,h2⟩:=Ak8 l [] List.Pairwise.nil;rw[En]at h2;refine List.Perm.eq_of_pairwise (le:=fun a b=>a<=b) (fun a b _ _ h3 h4=>List.le_antisymm h3 h4) h1 ?_ (h2.trans (Ii l _).symm)
 have:=List.pairwise_mergeSort (le:=fun x y:Bs=>decide (x<=y)) (fun a b c h3 h4=>by
  rw[Dz]at *
  exact List.le_trans h3 h4) (fun a b=>by
  rw[Eo,Dz,Dz];exact List.le_total a b) l
 exact this.imp (fun h=>by simpa using h)
def Av7 (x:Bs): ∀ s:List Bs,s.take (s.findIdx fun y=> !leB y x)++x::s.drop (s.findIdx fun y=> !leB y x)=VE x s:=by
 intro s
 induction s with
 | nil=>rfl
 | cons y r ih =>
  rw[Gp];show _=bif leB y x then y::VE x r else x::y::r;cases leB y x with
  | true=>rw[Eh,cond_false,cond_true,List.take_succ_cons,IM,List.cons_append,ih]
  | false=>rfl
def AgF (N:Nat) (l:List Bs) (hN:1048578<N) (hl:l.length<=1048576) (hf:l.flatten.length<=1099511627776):YK N l=some (Qr l):=by
 unfold YK;try simp only[clR]
 refine(jO (S:=List Bs) (R:=Unit) (mk:=fun i s=>((i:Int),s)) l [] (fun i s=>s.length=i/\s=(l.take i).foldl (fun s x=>VE x s) []) (fun x s=>.inr (VE x s)) (fun _=>none) (fun s=>some s.flatten) ?_ ?_ ?_ N [] ⟨rfl,rfl⟩ (by omega)).trans ?_
 .intro i s hi hI k;obtain⟨hs,_⟩:=hI;have hp:(VE (l.getD i []) s).length=i+1:=by rw[(qR _ s).length_eq,List.length_cons,hs]
  simp (disch:=omega) only[JZ];refine(AlQ (mk:=fun j=>((j:Int),s)) (out:=fun j=>((j:Int),s)) s [] (fun y=> !leB y (l.getD i [])) ?_ ?_ N (by omega)).trans ?_
  .intro j k hj;simp (disch:=omega) only[JZ,KU];unfold leB;cases (Vm.bytesLess (s.getD j []) (l.getD i [])||s.getD j []==l.getD i [])<;>rfl
  .intro k;simp (disch:=omega) only[JZ]
  .have hc:=Av7 (l.getD i []) s;have hle:(s.findIdx fun y=> !leB y (l.getD i []))<=s.length:=List.findIdx_le_length;generalize (s.findIdx fun y=> !leB y (l.getD i []))=m at hc hle;have hc1:J6 s 0 m=s.take m:=rfl;have hc2:J6 s m s.length=s.drop m:=by unfold J6;rw[ES]
   have hl1:(s.take m).length=m:=by rw[DZ];omega
   have hl2:(s.drop m).length=s.length - m:=EJ ..;have hl3:(s.take m++[l.getD i []]).length=m+1:=by rw[Dx,hl1];rfl
   simp (disch:=omega) only[JZ,hc1,hc2,hl1,hl2,hl3,KU];rw[Ej,List.singleton_append,hc]
 .intro i s s' hi hI he;injection he with he;subst he;refine⟨by rw[(qR _ s).length_eq,List.length_cons,hI.1],?_⟩;rw[hI.2,FC,DC hi,Ik,getD_lt l i _ hi];rfl
 .intro s k hI
  have hp:s.flatten.length<=1099511627776:=by
   have:=(Ak8 l [] List.Pairwise.nil).2;rw[En]at this;have h2:=hI.2;rw[ES]at h2;rw[<- h2]at this;have h3:=(this.map List.length).sum_nat
   rw[G7]at hf ⊢;omega
  have hsl:=hI.1;simp (disch:=omega) only[JZ];refine(Af8 (mk:=fun i t=>(t,(i:Int),s)) s [] id some ?_ ?_ N).trans ?_
  .intro i t hi ht k;rw[Gw]at ht;have ht:t.length+(s.getD i []).length<=s.flatten.length:=ht;simp (disch:=omega) only[JZ,KU];rfl
  .intro t k;simp (disch:=omega) only[JZ]
  .rw[Gw]
 .have: ∀(l s:List Bs),QW (R:=Unit) (fun x (s:List Bs)=>.inr (VE x s)) l s= .inr (l.foldl (fun s x=>VE x s) s):=by
   intro l
   induction l with
   | nil=>intro s;rfl
   | cons x r ih=>intro s;rw[QX];exact ih _
  rw[this,AnM,Aui]
def ArB {X Y ρ :Type} {B:X->(X->Option ρ)->(Y->Option ρ)->Option ρ} {kx:Y->Option ρ} (P:X->Option ρ ->Prop) (μ :X->Nat)
 (h: ∀ x v,P x v-> ∀ k:X->Option ρ,(∀ x' v',P x' v'-> μ x'< μ x->k x'=v')->B x k kx=v): ∀(N:Nat) (x:X) (v:Option ρ),P x v-> μ x<N->Jz B N x kx=v:=by
 intro N
 induction N with
 | zero=>intro x v _ h;omega
 | succ N ih=>intro x v hI hm;exact h x v hI _ (fun x' v' hI' hm'=>ih x' v' hI' (by omega))
def cc (acc:List Nat):Nat:=if acc=[]then 0 else acc.length+1
def WZ {E ρ :Type} (p:E->Bool) (bad:Option ρ) (fin:Unit->Option ρ): ∀ l:List E,PE (fun e (_:Unit)=>if p e=true then .inr ()else .inl bad) fin l ()=if l.all p=true then fin ()else bad:=by
 intro l
 induction l with
 | nil=>rfl
 | cons e r ih =>
  rw[List.all_cons];unfold PE;by_cases h:p e=true
  .rw[Dp h,h,EE];exact ih
  .rw[Dk h,Dk (by simp [h])]
def Rt {X E ρ :Type} {p:E->Bool} {bad:Option ρ} {e:E} {b:(X->Option ρ)->Option ρ} {nx:Unit->X} {I:Unit->Prop} (h0:p e=false-> ∀ k,b k=bad) (h1:p e=true->(∀ k,b k=k (nx ()))/\I ()):gU b nx I (if p e=true then .inr ()else .inl bad):=by
 cases h:p e with
 | true=>rw[Dp rfl];exact h1 h
 | false=>rw[Dk (by decide)];exact h0 h
def Abm:Bs:=[32,39,40,41,43,44,45,46,47,58,61,63]
def TQ (c:UInt8):Bool:=(decide (97<=c.toNat)&&decide (c.toNat<=122))||(decide (65<=c.toNat)&&decide (c.toNat<=90))||(decide (48<=c.toNat)&&decide (c.toNat<=57))
def prC (c:UInt8):Bool:=TQ c||Abm.any (· ==c)
def iaC (c:UInt8):Bool:=decide (32<=c.toNat)&&decide (c.toNat<=126)
def oM {P:UInt8->Prop} (h: ∀ n:Fin 256,P (UInt8.ofNat n.val)) (c:UInt8):P c:=by have:=h ⟨c.toNat,Hq c⟩;rwa [Il]at this
def oP (N:Nat) (c:UInt8):PZ N (c.toNat:Int)=some (TQ c):=by refine oM (P:=fun c=>PZ N (c.toNat:Int)=some (TQ c)) ?_ c;show ∀ n:Fin 256,PZ 0 ((UInt8.ofNat n.val).toNat:Int)=some (TQ (UInt8.ofNat n.val));decide +kernel
def Aoq (N:Nat) (c:UInt8):SQ N (c.toNat:Int)=some (prC c):=by refine oM (P:=fun c=>SQ N (c.toNat:Int)=some (prC c)) ?_ c;show ∀ n:Fin 256,SQ 0 ((UInt8.ofNat n.val).toNat:Int)=some (prC (UInt8.ofNat n.val));decide +kernel
def Aor (N:Nat) (c:UInt8):SS N (c.toNat:Int)=some (iaC c):=by refine oM (P:=fun c=>SS N (c.toNat:Int)=some (iaC c)) ?_ c;show ∀ n:Fin 256,SS 0 ((UInt8.ofNat n.val).toNat:Int)=some (iaC (UInt8.ofNat n.val));decide +kernel
def Aj3 (N:Nat) (l:Bs) (c:UInt8) (hl:l.length<N) (hs:l.length<=1048576):RU N (c.toNat:Int) l=some (l.any (· ==c)):=by
 unfold RU;try simp -zeta only[Ap]
 refine E5 (Oo (S:=Unit) (mk:=fun i _=>i) (out:=fun a=>a) l 0 (fun _ _=>True) (fun e (_:Unit)=>if(!(e==c))=true then .inr ()else .inl (some true)) ?_ ?_ N () trivial hl) ?_
 .intro i a hi _;refine Rt (p:=fun e=> !(e==c)) (fun h k=> ?_) (fun h=>⟨fun k=> ?_,trivial⟩)
  .have hb:((((l.getD i 0).toNat:Nat):Int)==((c.toNat:Nat):Int))=true:=by
    have:l.getD i 0=c:=by simpa using h
    rw[this];simp
   rw[show((i:Int)).toNat=i by omega,Di,cond_true,Di,Jv,Jv,hb,cond_true]
  .have hb:((((l.getD i 0).toNat:Nat):Int)==((c.toNat:Nat):Int))=false:=by
    apply Gm.2;intro h2;have h3:=Gh h2;have h4:l.getD i 0=c:=Ig.1 (by omega);rw[h4]at h;simp at h
   rw[show((i:Int)).toNat=i by omega,Di,cond_true,Di,Jv,Jv,hb,cond_false,w64]
 .intro a k _;rw[Ay8,cond_false]
 .rw[WZ (p:=fun e=> !(e==c))];rw[show l.any (· ==c)= !(l.all fun e=> !(e==c)) by rw[Hz];simp];cases l.all fun e=> !(e==c)<;>rfl
def all_eq (N f:Nat) (s:Bs) (p:UInt8->Bool) (hf: ∀ c:UInt8,AaT N f (c.toNat:Int)=some (p c)) (hl:s.length<N) (hs:s.length<=1048576):WH N s f=some (s.all p):=by
 unfold WH;try simp -zeta only[Ap]
 refine E5 (Oo (S:=Unit) (mk:=fun i _=>i) (out:=fun a=>a) s 0 (fun _ _=>True) (fun e (_:Unit)=>if p e=true then .inr ()else .inl (some false)) ?_ ?_ N () trivial hl) ?_
 .intro i a hi _;have key: ∀(A:Option Bool) (K:Bool->Option Bool),(bif decide ((i:Int)<(s.length:Int))then Vm.chk (decide (0<=(i:Int))) (Vm.chk (decide ((i:Int)<(s.length:Int))) (Jq (AaT N f ((s.getD (i:Int).toNat 0).toNat:Int)) K))else A)=K (p (s.getD i 0)):=by intro A K;rw[show((i:Int)).toNat=i by omega,Di,cond_true,Di,Jv,Jv,hf,Jr]
  refine Rt (p:=p) (fun h k=> ?_) (fun h=>⟨fun k=> ?_,trivial⟩)
  .rw[key,h];rfl
  .rw[key,h,w64];rfl
 .intro a k _;rw[Ay8,cond_false]
 .rw[WZ];cases s.all p<;>rfl
def AsL (N:Nat) (s:Bs) (hl:s.length<N) (hs:s.length<=1048576):TM N 19 s=some (s.all prC):=by show Jq (WH N s 211) (fun r=>some r)=_;rw[all_eq N 211 s prC (fun c=>Aoq N c) hl hs];rfl
def AsM (N:Nat) (s:Bs) (hl:s.length<N) (hs:s.length<=1048576):TM N 22 s=some (s.all iaC):=by show Jq (WH N s 214) (fun r=>some r)=_;rw[all_eq N 214 s iaC (fun c=>Aor N c) hl hs];rfl
def AjF (N:Nat) (s:Bs) (hl:s.length<N) (hs:s.length<=1048576) (hN:16<N):MO N 19 s=some (s.all prC):=by
 unfold MO;try simp only[clR]
 simp only[show((19:Int)==12)=false from rfl,show((19:Int)==19)=true from rfl,show((19:Int)==22)=false from rfl,cond_false,cond_true,NU,Fa,DY,Eh,EE,Ew,DR,EN,ET,Jv];refine E5 (Oo (S:=Unit) (mk:=fun i _=>i) (out:=fun a=>a) s 0 (fun _ _=>True) (fun e (_:Unit)=>if prC e=true then .inr ()else .inl (some false)) ?_ ?_ N () trivial hl) ?_
 .intro i a hi _;have ha:=Aj3 N Abm (s.getD i 0) (by show 12<N;omega) (by decide);refine Rt (p:=prC) (fun h k=> ?_) (fun h=>⟨fun k=> ?_,trivial⟩)
  .unfold prC at h;rw[show((i:Int)).toNat=i by omega,Di (show(i:Int)<(s.length:Int) by omega),cond_true,Di (show(0:Int)<=(i:Int) by omega),oP,show([32,39,40,41,43,44,45,46,47,58,61,63]:Bs)=Abm from rfl,ha];generalize TQ (s.getD i 0)=q at h ⊢;generalize Abm.any (fun x=>x==s.getD i 0)=r at h ⊢;cases q<;>cases r<;>first | rfl | exact absurd h (by decide)
  .unfold prC at h;rw[show((i:Int)).toNat=i by omega,Di (show(i:Int)<(s.length:Int) by omega),cond_true,Di (show(0:Int)<=(i:Int) by omega),oP,show([32,39,40,41,43,44,45,46,47,58,61,63]:Bs)=Abm from rfl,ha,w64];generalize TQ (s.getD i 0)=q at h ⊢;generalize Abm.any (fun x=>x==s.getD i 0)=r at h ⊢;cases q<;>cases r<;>first | rfl | exact absurd h (by decide)
 .intro a k _;rw[Ay8,cond_false]
 .rw[WZ];cases s.all prC<;>rfl
def AjG (N:Nat) (s:Bs) (hl:s.length<N) (hs:s.length<=1048576):MO N 22 s=some (s.all iaC):=by
 unfold MO;try simp only[clR]
 simp only[show((22:Int)==12)=false from rfl,show((22:Int)==19)=false from rfl,show((22:Int)==22)=true from rfl,cond_false,cond_true,NU,Fa,Hr,DY,Eh,EE,Ew,DR,EN,ET,Jv];refine E5 (Oo (S:=Unit) (mk:=fun i _=>i) (out:=fun a=>a) s 0 (fun _ _=>True) (fun e (_:Unit)=>if iaC e=true then .inr ()else .inl (some false)) ?_ ?_ N () trivial hl) ?_
 .intro i a hi _;have key: ∀(c:UInt8),decide (((c.toNat:Nat):Int)<32)=decide (c.toNat<32)/\decide (((c.toNat:Nat):Int)>126)=decide (126<c.toNat):=fun c=>⟨by congr 1;apply propext;omega,by congr 1;apply propext;omega⟩
  refine Rt (p:=iaC) (fun h k=> ?_) (fun h=>⟨fun k=> ?_,trivial⟩)
  .unfold iaC at h;rw[show((i:Int)).toNat=i by omega,Di (show(i:Int)<(s.length:Int) by omega),cond_true,Di (show(0:Int)<=(i:Int) by omega)];have h2:(decide (((s.getD i 0).toNat:Int)<32)||decide (((s.getD i 0).toNat:Int)>126))=true:=by simp only[EX,Ec]at h;simp only[Eo,Dz];omega
   generalize decide (((s.getD i 0).toNat:Int)<32)=q at h2 ⊢;generalize decide (((s.getD i 0).toNat:Int)>126)=r at h2 ⊢;cases q<;>cases r<;>first | rfl | exact absurd h2 (by decide)
  .unfold iaC at h;rw[show((i:Int)).toNat=i by omega,Di (show(i:Int)<(s.length:Int) by omega),cond_true,Di (show(0:Int)<=(i:Int) by omega),w64];have h2:decide (((s.getD i 0).toNat:Int)<32)=false/\decide (((s.getD i 0).toNat:Int)>126)=false:=by simp only[Du,Dz]at h;simp only[Ec];omega
   rw[h2.1,h2.2];rfl
 .intro a k _;rw[Ay8,cond_false]
 .rw[WZ];cases s.all iaC<;>rfl
def chR (n b0 b1 b2 b3:Nat):Option Nat :=
 if b0<32\/b0=127 then none
 else if b0<128 then some 1
 else if 192<=b0/\b0<224 then
  (if n<=1\/b1 / 64≠2 then none
   else if b0 % 32*64+b1 % 64<128 then none else some 2)
 else if 224<=b0/\b0<240 then
  (if n<=2\/b1 / 64≠2\/b2 / 64≠2 then none
   else if b0 % 16*4096+b1 % 64*64+b2 % 64<2048\/(55296<=b0 % 16*4096+b1 % 64*64+b2 % 64/\b0 % 16*4096+b1 % 64*64+b2 % 64<57344)then none else some 3)
 else if 240<=b0/\b0<248 then
  (if n<=3\/b1 / 64≠2\/b2 / 64≠2\/b3 / 64≠2 then none
   else if b0 % 8*262144+b1 % 64*4096+b2 % 64*64+b3 % 64<65536\/1114111<b0 % 8*262144+b1 % 64*4096+b2 % 64*64+b3 % 64 then none else some 4)
 else none
set_option maxHeartbeats 4000000 in
def Awt (n b0 b1 b2 b3:Nat) (h0:b0<256) (h1:b1<256) (h2:b2<256) (h3:b3<256) :
 chR n b0 b1 b2 b3=if(Lib.decodeN n b0 b1 b2 b3).1<32\/(Lib.decodeN n b0 b1 b2 b3).1=127\/((Lib.decodeN n b0 b1 b2 b3).1=65533/\ ¬(3<=n/\b0=239/\b1=191/\b2=189))then none else some (Lib.decodeN n b0 b1 b2 b3).2:=by
 by_cases c1:b0<128
 .have hd:Lib.decodeN n b0 b1 b2 b3=(b0,1):=by unfold Lib.decodeN;rw[Dp c1]
  rw[hd];unfold chR;dsimp only;by_cases c2:b0<32\/b0=127
  .rw[Dp c2,AyA]
  .rw[Dk c2,Dp c1,Ay9]
 .unfold chR Lib.decodeN;rw[Dk c1,Ay9,Dk c1];by_cases c2:192<=b0/\b0<224
  .rw[Dp c2];repeat' split
   all_goals first | rfl | (exfalso;dsimp only at *;omega)
  .rw[Dk c2,Dk (show ¬(b0 / 32=6/\(1<n/\b1 / 64=2)) by omega)];by_cases c3:224<=b0/\b0<240
   .rw[Dp c3];repeat' split
    all_goals first | rfl | (exfalso;dsimp only at *;omega)
   .rw[Dk c3,Dk (show ¬(b0 / 16=14/\(1<n/\b1 / 64=2)/\(2<n/\b2 / 64=2)) by omega)];repeat' split
    all_goals first | rfl | (exfalso;dsimp only at *;omega)
def AfA (s:Bs) (i:Nat):Option Nat:=chR (s.length - i) (s.getD i 0).toNat (s.getD (i+1) 0).toNat (s.getD (i+2) 0).toNat (s.getD (i+3) 0).toNat
def Qp (s:Bs):Nat->Nat->Bool
 | 0,_=>true
 | n+1,i=>if i<s.length then(match AfA s i with
  | none=>false
  | some w=>Qp s n (i+w))else true
def Als (l:Bs):Lib.hasPrefix l [239,191,189]=true↔3<=l.length/\(l.getD 0 0).toNat=239/\(l.getD 1 0).toNat=191/\(l.getD 2 0).toNat=189:=by
 have hb: ∀(x:UInt8) (k:Nat),k<256->((UInt8.ofNat k==x)=true↔x.toNat=k):=by
  intro x k hk;rw[EI];constructor
  .intro h;rw[<- h,Fp];omega
  .intro h;rw[<- h,Il]
 match l with
 | []=>simp [Lib.hasPrefix,List.isPrefixOf]
 | [x]=>simp [Lib.hasPrefix,List.isPrefixOf]
 | [x,y]=>simp [Lib.hasPrefix,List.isPrefixOf]
 | x::y::z::r =>show((UInt8.ofNat 239==x)&&((UInt8.ofNat 191==y)&&((UInt8.ofNat 189==z)&&true)))=true↔3<=r.length+1+1+1/\x.toNat=239/\y.toNat=191/\z.toNat=189;rw[Du,Du,FK,hb _ _ (by decide),hb _ _ (by decide),hb _ _ (by decide)];exact⟨fun h=>⟨by omega,h⟩,fun h=>h.2⟩
def Axi (s:Bs): ∀(n i:Nat),SV ⟨s.toArray⟩ n i=Qp s n i:=by
 intro n
 induction n with
 | zero=>intro i;rfl
 | succ n ih =>
  intro i;have hd:=Lib.decode_N ⟨s.toArray⟩ i;have hc:=Awt (s.length - i) (s.getD i 0).toNat (s.getD (i+1) 0).toNat (s.getD (i+2) 0).toNat (s.getD (i+3) 0).toNat (TP _) (TP _) (TP _) (TP _)
  have hp:=Als (s.drop i);rw[EJ,Lib.getD_dropU,Lib.getD_dropU,Lib.getD_dropU,Nat.add_zero]at hp;unfold SV Qp;show(if i<s.length then _ else _)=_;by_cases hl:i<s.length
  .rw[Dp hl,Dp hl];show(let d:=Utf8.decode ⟨s.toArray⟩ i;if d.1<32\/d.1=127 then false else if d.1=65533/\Lib.hasPrefix (s.drop i) [239,191,189]=false then false else SV ⟨s.toArray⟩ n (i+d.2))=_;unfold AfA;have hd':Utf8.decode ⟨s.toArray⟩ i=Lib.decodeN (s.length - i) (s.getD i 0).toNat (s.getD (i+1) 0).toNat (s.getD (i+2) 0).toNat (s.getD (i+3) 0).toNat:=hd;rw[hc,hd'];generalize Lib.decodeN (s.length - i) (s.getD i 0).toNat (s.getD (i+1) 0).toNat (s.getD (i+2) 0).toNat (s.getD (i+3) 0).toNat=d;dsimp only;by_cases h1:d.1<32\/d.1=127
   .rw[Dp h1,AyA]
   .rw[Dk h1];by_cases h2:d.1=65533/\Lib.hasPrefix (s.drop i) [239,191,189]=false
    .have h3: ¬(3<=s.length - i/\(s.getD i 0).toNat=239/\(s.getD (i+1) 0).toNat=191/\(s.getD (i+2) 0).toNat=189):=fun h=>by
      have:=hp.2 h;rw[h2.2]at this;cases this
     rw[Dp h2,Dp (Or.inr (Or.inr ⟨h2.1,h3⟩))]
    .have h3: ¬(d.1<32\/d.1=127\/(d.1=65533/\ ¬(3<=s.length - i/\(s.getD i 0).toNat=239/\(s.getD (i+1) 0).toNat=191/\(s.getD (i+2) 0).toNat=189))):=by
      rintro (h | h | ⟨h,h4⟩)
      .exact h1 (Or.inl h)
      .exact h1 (Or.inr h)
      .refine h2 ⟨h,?_⟩;apply Gm.2;intro h5;exact h4 (hp.1 h5)
     rw[Dk h2,Dk h3];exact ih _
  .rw[Dk hl,Dk hl]
def Axn {n b0 b1 b2 b3 w:Nat} (hn:1<=n) (h:chR n b0 b1 b2 b3=some w):1<=w/\w<=n:=by
 unfold chR at h;repeat' split at h
 all_goals grind[b2,chR]
def Ane (s:Bs): ∀(n m i:Nat),s.length - i<=n->s.length - i<=m->Qp s n i=Qp s m i:=by
 intro n
 induction n with
 | zero =>
  intro m i h1 _;cases m with
  | zero=>rfl
  | succ m=>grind[Qp]
 | succ n ih =>
  intro m i h1 h2;cases m with
  | zero=>grind[Qp]
  | succ m =>
   unfold Qp;by_cases hl:i<s.length
   .rw[Dp hl,Dp hl];cases hc:AfA s i with
    | none=>rfl
    | some w =>have:=Axn (by omega) hc;exact ih m (i+w) (by omega) (by omega)
   .rw[Dk hl,Dk hl]
def TR (s:Bs) (i:Nat):Nat->Bool
 | 0=>true
 | k+1=>TR s i k&&decide ((s.getD (i+(k+1)) 0).toNat / 64=2)
def VY (s:Bs) (i r:Nat):Nat->Nat
 | 0=>r
 | k+1=>64*VY s i r k+(s.getD (i+(k+1)) 0).toNat % 64
def Atl (s:Bs) (i r:Nat) (hr:r<32): ∀ k,VY s i r k<32*64 ^ k:=by
 intro k
 induction k with
 | zero=>simp_all[Bs,VY]
 | succ k ih=>grind[VY]
def xC {ρ :Type} (N:Nat) (s:Bs) (i k r:Nat) (hk:k<=3) (hN:16<N) (hr:r<32) (hi:i+k<s.length) (hs:s.length<=1048576) (bad:Option ρ) (fin:Int->Option ρ) :
 Jz (X:=Int×Int) (Y:=Int) (U2 fun t7c t8c k4 x5 =>
         bif decide (t8c<=(k:Int))then
          Vm.chk (decide (0<=i64.wrap ((i:Int)+t8c)))
           (Vm.chk (decide (i64.wrap ((i:Int)+t8c)< ↑(List.length s)))
             (bif
               u8.wrap
                ((↑(List.getD s (i64.wrap ((i:Int)+t8c)).toNat 0).toNat:Int).tdiv 64) !=
                2 then
               bad
             else
              Vm.chk (decide (0<=i64.wrap ((i:Int)+t8c)))
               (Vm.chk (decide (i64.wrap ((i:Int)+t8c)< ↑(List.length s)))
                 (k4
                   (i64.wrap
                     (i64.wrap (64*t7c) +
                       i64.wrap
                        ((↑(List.getD s (i64.wrap ((i:Int)+t8c)).toNat 0).toNat:Int).tmod
                          64)),
                     i64.wrap (t8c+1))))))
         else x5 t7c) N ((r:Int),1) fin=if TR s i k=true then fin ((VY s i r k:Nat):Int)else bad:=by
 refine ArB (P:=fun(x:Int×Int) v=> ∃ j:Nat,x=(((VY s i r j:Nat):Int),((j+1:Nat):Int))/\j<=k/\TR s i j=true/\v=if TR s i k=true then fin ((VY s i r k:Nat):Int)else bad) (μ :=fun x=>k+1 - x.2.toNat) ?_ N _ _ ⟨0,rfl,EG _,rfl,rfl⟩ (by show k+1 - 1<N;omega);rintro x v ⟨j,rfl,h1,h2,rfl⟩ kk hkk;have hv:=Atl s i r hr j;have hp:(64:Nat) ^ j<=64 ^ 3:=Gu (by decide) (by omega);dsimp only[U2];by_cases hj:j<k
 .have hb:=TP (s.getD (i+(j+1)) 0);rw[Di,cond_true,w64 (x:=(i:Int)+((j+1:Nat):Int)),show((i:Int)+((j+1:Nat):Int)).toNat=i+(j+1) by omega,Di,Jv,Di,Jv,Jv,Jv];rw[show((((s.getD (i+(j+1)) 0).toNat:Nat):Int)).tdiv 64=(((s.getD (i+(j+1)) 0).toNat / 64:Nat):Int)from rfl,show((((s.getD (i+(j+1)) 0).toNat:Nat):Int)).tmod 64=(((s.getD (i+(j+1)) 0).toNat % 64:Nat):Int)from rfl,w8];by_cases hc:(s.getD (i+(j+1)) 0).toNat / 64=2
  .rw[hc,show(((2:Nat):Int) % 256 != 2)=false from rfl,cond_false,w64 (x:=64*((VY s i r j:Nat):Int)),w64 (x:=(((s.getD (i+(j+1)) 0).toNat % 64:Nat):Int)),w64,w64];refine hkk _ _ ⟨j+1,?_,by omega,by show(TR s i j&&decide _)=true;rw[h2,hc];rfl,rfl⟩ (by show k+1 - (((j+1:Nat):Int)+1).toNat<k+1 - ((j+1:Nat):Int).toNat;omega);all_goals grind[VY]
  .have hne:((((s.getD (i+(j+1)) 0).toNat / 64:Nat):Int) % 256 != 2)=true:=by
    rw[Ey];omega
   rw[hne,cond_true]
   have hbad:TR s i k=false:=by
    have: ∀ d,TR s i (j+1+d)=false:=by
     intro d
     induction d with
     | zero=>grind[TR]
     | succ d ih=>grind[TR]
    have h:=this (k - (j+1));rwa [show j+1+(k - (j+1))=k by omega]at h
   rw[hbad];rfl
 .have:j=k:=by omega
  subst this;rw[Ay8,cond_false,h2];rfl
def Awo (a:Nat) (h:a<256):J9 .and .i64 (a:Int) 15=((a % 16:Nat):Int):=by
 have: ∀ a:Fin 256,J9 .and .i64 ((a.val:Nat):Int) 15=((a.val % 16:Nat):Int):=by decide +kernel
 exact this ⟨a,h⟩
def and7 (a:Nat) (h:a<256):J9 .and .i64 (a:Int) 7=((a % 8:Nat):Int):=by
 have: ∀ a:Fin 256,J9 .and .i64 ((a.val:Nat):Int) 7=((a.val % 8:Nat):Int):=by decide +kernel
 exact this ⟨a,h⟩
def AgU (V:Nat) (mn:Int) (X Y:Option Bool):Vm.chk
 (!decide ((V:Int)>=55296) ||
   !(decide ((V:Int)<mn)||decide ((V:Int)>1114111)) &&
     decide ((V:Int)>=55296) ||
   (decide ((V:Int)<mn)||decide ((V:Int)>1114111)))
 (bif
   decide ((V:Int)<mn)||decide ((V:Int)>1114111) ||
    decide ((V:Int)>=55296)&&decide ((V:Int)<57344)then
   X
 else Y)=if(V:Int)<mn\/1114111<V\/(55296<=V/\V<57344)then X else Y:=by
 by_cases hc:(V:Int)<mn\/1114111<V\/(55296<=V/\V<57344)
 .rw[Dp hc];by_cases h1:(V:Int)<mn<;>by_cases h2:(V:Int)>1114111<;>by_cases h3:(V:Int)>=55296<;>by_cases h4:(V:Int)<57344<;>simp only[h1,h2,h3,h4,Gf,Ia]<;>first | rfl | (exfalso;omega)
 .rw[Dk hc];by_cases h1:(V:Int)<mn<;>by_cases h2:(V:Int)>1114111<;>by_cases h3:(V:Int)>=55296<;>by_cases h4:(V:Int)<57344<;>simp only[h1,h2,h3,h4,Gf,Ia]<;>first | rfl | (exfalso;omega)
def AiM (N:Nat) (s:Bs) (hN:s.length<N) (hN2:16<N) (hs:s.length<=1048576):XJ N s=some (Qp s s.length 0):=by
 unfold XJ;try simp only[clR]
 refine E5 (MK (I:=fun x:Int=> ∃ i:Nat,x=(i:Int)/\i<=s.length) (μ :=fun x=>s.length - x.toNat) (F:=fun x=>some (Qp s (s.length - x.toNat) x.toNat)) ?_ N 0 ⟨0,rfl,EG _⟩ (by show s.length - 0<N;omega)) rfl;rintro x ⟨i,rfl,h1⟩ k hk;rw[show((i:Int)).toNat=i by omega];by_cases hl:i<s.length
 .obtain⟨n,hn⟩: ∃ n,s.length - i=n+1:=⟨s.length - i - 1,by omega⟩
  have hgo: ∀ w:Nat,AfA s i=some w->1<=w->i+w<=s.length->k (((i+w:Nat)):Int)=some (Qp s (s.length - i) i):=by
   intro w hw hw1 hw2;rw[hk _ ⟨i+w,rfl,hw2⟩ (by show s.length - ((i+w:Nat):Int).toNat<s.length - ((i:Int)).toNat;omega)];rw[show(((i+w:Nat)):Int).toNat=i+w by omega,hn]
   conv=>rhs;unfold Qp
   rw[Dp hl,hw];exact congrArg some (Ane s _ _ _ (DN _) (by omega))
  have hno:AfA s i=none->(some false:Option Bool)=some (Qp s (s.length - i) i):=by intro hw;rw[hn];unfold Qp;rw[Dp hl,hw]
  have hb:=TP (s.getD i 0);unfold AfA at hgo hno;unfold chR at hgo hno;generalize hb0:(s.getD i 0).toNat=b0 at *
  rw[Di (show(i:Int)<(s.length:Int) by omega),cond_true,Di (show(0:Int)<=(i:Int) by omega),Jv,Jv,NU];by_cases c1:b0<32\/b0=127
  .rw[Dp c1]at hno;have hq:(decide ((b0:Int)<32)||((b0:Int)==127))=true:=by rw[Eo,Dz,EI];omega
   rw[hq,cond_true];exact hno rfl
  .rw[Dk c1]at hno;simp only[Dk c1]at hgo;have hq:(decide ((b0:Int)<32)||((b0:Int)==127))=false:=by apply Gm.2;rw[Ne,Eo,Dz,EI];omega
   rw[hq,cond_false];by_cases c2:b0<128
   .simp only[Dp c2]at hgo;rw[Di,cond_true,w64];exact hgo 1 rfl (DN _) (by omega)
   .rw[Dk c2]at hno;simp only[Dk c2]at hgo;rw[Dn (show ¬(b0:Int)<128 by omega),cond_false];by_cases c3:192<=b0/\b0<224
    .rw[Dp c3]at hno;simp only[Dp c3]at hgo;rw[Di (show(b0:Int)>=192 by omega),Di (show(b0:Int)<224 by omega),Gj,cond_true];dsimp only[U3];by_cases c4:s.length - i<=1
     .rw[Dp (Or.inl c4)]at hno;rw[w64 (x:=(s.length:Int) - (i:Int)),Di (show((s.length:Int) - (i:Int))<=1 by omega),cond_true];exact hno rfl
     .rw[w64 (x:=(s.length:Int) - (i:Int)),Dn (show ¬((s.length:Int) - (i:Int))<=1 by omega),cond_false];rw[show(J9 BinOp.and i64 (i64.wrap (b0:Int)) (i64.wrap (i64.wrap (1*2 ^ min (i64.wrap (6 - 1)).toNat 64) - 1)))=((b0 % 32:Nat):Int) by rw[w64 (x:=(b0:Int))];exact Aow b0 (by omega)];have hcl:=xC N s i 1 (b0 % 32) (by omega) hN2 (by omega) (by omega) hs (some false:Option Bool);rw[show(decide ((0:Int)<=i64.wrap (6 - 1)))=true by decide,Jv];refine(hcl _).trans ?_;rw[AgU,show TR s i 1=decide ((s.getD (i+1) 0).toNat / 64=2)from rfl,show VY s i (b0 % 32) 1=64*(b0 % 32)+(s.getD (i+1) 0).toNat % 64 from rfl];have hb1:=TP (s.getD (i+1) 0);generalize (s.getD (i+1) 0).toNat=b1 at hno hgo hb1 ⊢;by_cases c5:b1 / 64=2
      .rw[Dp (by rw[Di c5])];rw[Ay9]at hno;simp only[Dk (show ¬(s.length - i<=1\/b1 / 64≠2) by omega)]at hgo;by_cases c6:b0 % 32*64+b1 % 64<128
       .rw[Dp c6]at hno;rw[AyA];exact hno rfl
       .simp only[Dk c6]at hgo;rw[Ay9,w64 (x:=1+1),w64];exact hgo 2 rfl (by omega) (by omega)
      .rw[Dk (by rw[Dn c5];decide)];rw[Dp (Or.inr c5)]at hno;exact hno rfl
    .rw[Dk c3]at hno;simp only[Dk c3]at hgo;rw[show(decide ((b0:Int)>=192)&&decide ((b0:Int)<224))=false by simp only[EX,Ec];omega,cond_false];by_cases d3:224<=b0/\b0<240
     .rw[Dp d3]at hno;simp only[Dp d3]at hgo;rw[Di (show(b0:Int)>=224 by omega),Di (show(b0:Int)<240 by omega),Gj,cond_true];dsimp only[U3];by_cases c4:s.length - i<=2
      .rw[Dp (Or.inl c4)]at hno;rw[w64 (x:=(s.length:Int) - (i:Int)),Di (show((s.length:Int) - (i:Int))<=2 by omega),cond_true];exact hno rfl
      .rw[w64 (x:=(s.length:Int) - (i:Int)),Dn (show ¬((s.length:Int) - (i:Int))<=2 by omega),cond_false];rw[show(J9 BinOp.and i64 (i64.wrap (b0:Int)) (i64.wrap (i64.wrap (1*2 ^ min (i64.wrap (6 - 2)).toNat 64) - 1)))=((b0 % 16:Nat):Int) by rw[w64 (x:=(b0:Int))];exact Awo b0 (by omega)];have hcl:=xC N s i 2 (b0 % 16) (by omega) hN2 (by omega) (by omega) hs (some false:Option Bool);rw[show(decide ((0:Int)<=i64.wrap (6 - 2)))=true by decide,Jv];refine(hcl _).trans ?_;rw[AgU,show TR s i 2=(decide ((s.getD (i+1) 0).toNat / 64=2)&&decide ((s.getD (i+2) 0).toNat / 64=2))from rfl,show VY s i (b0 % 16) 2=64*(64*(b0 % 16)+(s.getD (i+1) 0).toNat % 64)+(s.getD (i+2) 0).toNat % 64 from rfl];have hb1:=TP (s.getD (i+1) 0);have hb2:=TP (s.getD (i+2) 0);generalize (s.getD (i+1) 0).toNat=b1 at hno hgo hb1 ⊢;generalize (s.getD (i+2) 0).toNat=b2 at hno hgo hb2 ⊢;by_cases c5:b1 / 64=2/\b2 / 64=2
       .rw[Dp (show(decide (b1 / 64=2)&&decide (b2 / 64=2))=true by simp only[c5,Gf,Gj])];rw[Dk (show ¬(s.length - i<=2\/b1 / 64≠2\/b2 / 64≠2) by omega)]at hno;simp only[Dk (show ¬(s.length - i<=2\/b1 / 64≠2\/b2 / 64≠2) by omega)]at hgo;by_cases c6:b0 % 16*4096+b1 % 64*64+b2 % 64<2048\/(55296<=b0 % 16*4096+b1 % 64*64+b2 % 64/\b0 % 16*4096+b1 % 64*64+b2 % 64<57344)
        .rw[Dp c6]at hno;rw[AyA];exact hno rfl
        .simp only[Dk c6]at hgo;rw[Ay9,w64 (x:=2+1),w64];exact hgo 3 rfl (by omega) (by omega)
       .rw[Dk (show ¬(decide (b1 / 64=2)&&decide (b2 / 64=2))=true by simp only[Du,Dz];omega)];rw[Dp (show s.length - i<=2\/b1 / 64≠2\/b2 / 64≠2 by omega)]at hno;exact hno rfl
     .rw[Dk d3]at hno;simp only[Dk d3]at hgo;rw[show(decide ((b0:Int)>=224)&&decide ((b0:Int)<240))=false by simp only[EX,Ec];omega,cond_false];by_cases e3:240<=b0/\b0<248
      .rw[Dp e3]at hno;simp only[Dp e3]at hgo;rw[Di (show(b0:Int)>=240 by omega),Di (show(b0:Int)<248 by omega),Gj,cond_true];dsimp only[U3];by_cases c4:s.length - i<=3
       .rw[Dp (Or.inl c4)]at hno;rw[w64 (x:=(s.length:Int) - (i:Int)),Di (show((s.length:Int) - (i:Int))<=3 by omega),cond_true];exact hno rfl
       .rw[w64 (x:=(s.length:Int) - (i:Int)),Dn (show ¬((s.length:Int) - (i:Int))<=3 by omega),cond_false];rw[show(J9 BinOp.and i64 (i64.wrap (b0:Int)) (i64.wrap (i64.wrap (1*2 ^ min (i64.wrap (6 - 3)).toNat 64) - 1)))=((b0 % 8:Nat):Int) by rw[w64 (x:=(b0:Int))];exact and7 b0 (by omega)];have hcl:=xC N s i 3 (b0 % 8) (by omega) hN2 (by omega) (by omega) hs (some false:Option Bool);rw[show(decide ((0:Int)<=i64.wrap (6 - 3)))=true by decide,Jv];refine(hcl _).trans ?_;rw[AgU,show TR s i 3=(decide ((s.getD (i+1) 0).toNat / 64=2)&&decide ((s.getD (i+2) 0).toNat / 64=2)&&decide ((s.getD (i+3) 0).toNat / 64=2))from rfl,show VY s i (b0 % 8) 3=64*(64*(64*(b0 % 8)+(s.getD (i+1) 0).toNat % 64)+(s.getD (i+2) 0).toNat % 64)+(s.getD (i+3) 0).toNat % 64 from rfl];have hb1:=TP (s.getD (i+1) 0);have hb2:=TP (s.getD (i+2) 0);have hb3:=TP (s.getD (i+3) 0);generalize (s.getD (i+1) 0).toNat=b1 at hno hgo hb1 ⊢;generalize (s.getD (i+2) 0).toNat=b2 at hno hgo hb2 ⊢;generalize (s.getD (i+3) 0).toNat=b3 at hno hgo hb3 ⊢;by_cases c5:b1 / 64=2/\b2 / 64=2/\b3 / 64=2
        .rw[Dp (show(decide (b1 / 64=2)&&decide (b2 / 64=2)&&decide (b3 / 64=2))=true by simp only[c5,Gf,Gj])];rw[Dk (show ¬(s.length - i<=3\/b1 / 64≠2\/b2 / 64≠2\/b3 / 64≠2) by omega)]at hno;simp only[Dk (show ¬(s.length - i<=3\/b1 / 64≠2\/b2 / 64≠2\/b3 / 64≠2) by omega)]at hgo;by_cases c6:b0 % 8*262144+b1 % 64*4096+b2 % 64*64+b3 % 64<65536\/1114111<b0 % 8*262144+b1 % 64*4096+b2 % 64*64+b3 % 64
         .rw[Dp c6]at hno;rw[AyA];exact hno rfl
         .simp only[Dk c6]at hgo;rw[Ay9,w64 (x:=3+1),w64];exact hgo 4 rfl (by omega) (by omega)
        .rw[Dk (show ¬(decide (b1 / 64=2)&&decide (b2 / 64=2)&&decide (b3 / 64=2))=true by simp only[Du,Dz];omega)];rw[Dp (show s.length - i<=3\/b1 / 64≠2\/b2 / 64≠2\/b3 / 64≠2 by omega)]at hno;exact hno rfl
      .rw[Dk e3]at hno;rw[show(decide ((b0:Int)>=240)&&decide ((b0:Int)<248))=false by simp only[EX,Ec];omega,cond_false];exact hno rfl
 .rw[Ay8,cond_false,show s.length - i=0 by omega];rfl
def Ve (t:Int) (s:Bs):Bool:=if t=12 then Qp s s.length 0 else if t=19 then s.all prC else if t=22 then s.all iaC else false
def Ajc (N:Nat) (t:Int) (s:Bs) (hl:s.length<N) (hs:s.length<=1048576):TM N t s=some (Ve t s):=by
 unfold Ve;by_cases h1:t=12
 .subst h1;rw[Dp rfl];show Jq (tC N s) (fun r=>some r)=_;unfold tC;rw[Di];show some (Aqx s)=_;unfold Aqx;rw[Axi]
 .rw[Dk h1];by_cases h2:t=19
  .subst h2;rw[Dp rfl];exact AsL N s hl hs
  .rw[Dk h2];by_cases h3:t=22
   .subst h3;rw[Dp rfl];exact AsM N s hl hs
   .rw[Dk h3];unfold TM;rw[show(t==12)=false from Ed h1,show(t==19)=false from Ed h2,show(t==22)=false from Ed h3];rfl
def Aao (N:Nat) (t:Int) (s:Bs) (hl:s.length<N) (hs:s.length<=1048576) (hN:16<N):MO N t s=some (Ve t s):=by
 unfold Ve;by_cases h1:t=12
 .subst h1;rw[Dp rfl];show Jq (XJ N s) (fun r=>some r)=_;rw[AiM N s hl hN hs];rfl
 .rw[Dk h1];by_cases h2:t=19
  .subst h2;rw[Dp rfl];exact AjF N s hl hs hN
  .rw[Dk h2];by_cases h3:t=22
   .subst h3;rw[Dp rfl];exact AjG N s hl hs
   .rw[Dk h3];unfold MO;try simp -zeta only[Ap]
    rw[show(t==12)=false from Ed h1,show(t==19)=false from Ed h2,show(t==22)=false from Ed h3];rfl
abbrev Att:Type:=Bs×Int×Bs
def QA (e:Att) (seen:List Att):Int :=
 if MR e.1=none then 11
 else if e.2.2=[]\/Ve e.2.1 e.2.2=false then 13
 else if 64<e.2.2.length then 2
 else if seen.any (fun x=>x.1==e.1)=true then 10 else 0
def Asw (N:Nat) (q:List Att) (e:Att) (hl:q.length<N) (hs:q.length<=1048576) (fin:Unit->Option Int) :
 Jz (X:=Int×Bs×Int×Bs) (Y:=Unit) (U4 fun t43b b33792_0b b33792_1b b33792_2b k3 x4 =>
         bif decide (t43b< ↑q.length)then
          Vm.chk (decide (0<=t43b))
           (Vm.chk (decide (t43b< ↑q.length))
             (bif (q.getD t43b.toNat ([],0,[])).1==b33792_0b then
               some 10
             else k3 (i64.wrap (t43b+1),b33792_0b,b33792_1b,b33792_2b)))
         else x4 ()) N (0,e.1,e.2.1,e.2.2) fin=if q.any (fun x=>x.1==e.1)=true then some 10 else fin ():=by
 refine E5 (Oo (S:=Unit) (mk:=fun i _=>(i,e.1,e.2.1,e.2.2)) (out:=fun a=>a) q ([],0,[]) (fun _ _=>True) (fun x (_:Unit)=>if(!(x.1==e.1))=true then .inr ()else .inl (some 10)) ?_ ?_ N () trivial hl) ?_
 .intro i a hi _;refine Rt (p:=fun x:Att=> !(x.1==e.1)) (fun h k=> ?_) (fun h=>⟨fun k=> ?_,trivial⟩)
  .simp_all[U4,Jv,Att,hs,Jz,Bs]
  .dsimp only[U4];have h':((q.getD i ([],0,[])).1==e.1)=false:=by simpa using h
   rw[show((i:Int)).toNat=i by omega,Di,cond_true,Di,Jv,Jv,h',cond_false,w64]
 .grind[U4]
 .rw[WZ (p:=fun x:Att=> !(x.1==e.1))];rw[show q.any (fun x=>x.1==e.1)= !(q.all fun x=> !(x.1==e.1)) by rw[Hz];simp];cases q.all fun x=> !(x.1==e.1)<;>rfl
def Zx (e:Att):Prop:=e.1.length<=1048576/\e.2.2.length<=1048576
def Vg (e:Att) (seen:List Att):Option Int ⊕ List Att:=if QA e seen=0 then .inr (seen++[e])else .inl (some (QA e seen))
def Al1 (p:List Att):Option Int:=PE Vg (fun _=>some 0) p []
def Abd (v:Bs):(v==[])=decide (v=[]):=by cases v<;>rfl
def Anw (N:Nat) (p:List Att) (hN:1048578<N) (hp: ∀ e∈p,Zx e):OC N p=if p=[]then some 14 else if 4<p.length then some 2 else Al1 p:=by
 unfold OC;try simp only[clR]
 by_cases h0:p=[]
 .subst h0;rfl
 .have hpos:=GX.2 h0;have hb:(((p.length:Nat):Int)==0)=false:=Ed (by omega);rw[hb,cond_false,Dk h0];by_cases h4:4<p.length
  .rw[Dp h4,Di,cond_true]
  .rw[Dk h4,Ay8,cond_false];refine NT (S:=List Att) (mk:=fun i _=>i) p ([],0,[]) (fun i s=>s=p.take i) Vg (fun _=>some 0) ?_ ?_ N [] rfl
   .intro i s hi hs;subst hs;have hm:=hp p[i] (Ef hi);have hcut:J6 p 0 i=p.take i:=rfl;have htk:p.take i++[p[i]]=p.take (i+1):=by rw[FC,DC hi];rfl
    have hlt:(p.take i).length<=4:=by rw[DZ];omega
    rw[getD_lt p i _ hi];generalize he:p[i]=e at hm htk;have ho:=(bU N e.1 (by omega) hm.1 (by have:=hm.1;omega)).1;have ht:=Ajc N e.2.1 e.2.2 (by have:=hm.2;omega) hm.2;have hsl:=fun fin=>Asw N (p.take i) e (by omega) (by omega) fin;unfold Vg;by_cases a1:MR e.1=none
    .have hat:QA e (p.take i)=11:=by unfold QA;rw[Dp a1]
     rw[hat,Dk (by decide)];intro k;dsimp only;rw[show((i:Int)).toNat=i by omega,getD_lt p i _ hi,he,Di (show(i:Int)<(p.length:Int) by omega),cond_true,Di (show(0:Int)<=(i:Int) by omega),Jv,Jv,ho,Jr,a1];rfl
    .have hsome:(MR e.1).isSome=true:=by cases hq:MR e.1 with
      | none=>exact absurd hq a1
      | some l=>rfl
     rw[hsome]at ho;by_cases a2:e.2.2=[]\/Ve e.2.1 e.2.2=false
     .have hat:QA e (p.take i)=13:=by unfold QA;rw[Dk a1,Dp a2]
      rw[hat,Dk (by decide)];intro k;dsimp only;rw[show((i:Int)).toNat=i by omega,getD_lt p i _ hi,he,Di (show(i:Int)<(p.length:Int) by omega),cond_true,Di (show(0:Int)<=(i:Int) by omega),Jv,Jv,ho,Jr,ht,Abd];rcases a2 with a2 | a2
      .rw[Di a2];rfl
      .rw[a2];cases decide (e.2.2=[])<;>rfl
     .have a3: ¬ e.2.2=[]:=fun h=>a2 (Or.inl h)
      have a4:Ve e.2.1 e.2.2=true:=by
       cases hq:Ve e.2.1 e.2.2 with
       | true=>rfl
       | false=>exact absurd (Or.inr hq) a2
      by_cases a5:64<e.2.2.length
      .have hat:QA e (p.take i)=2:=by unfold QA;rw[Dk a1,Dk a2,Dp a5]
       rw[hat,Dk (by decide)];intro k;dsimp only;rw[show((i:Int)).toNat=i by omega,getD_lt p i _ hi,he,Di (show(i:Int)<(p.length:Int) by omega),cond_true,Di (show(0:Int)<=(i:Int) by omega),Jv,Jv,ho,Jr,ht,Abd,Dn a3,a4];rw[Di (show(e.2.2.length:Int)>64 by omega)];rfl
      .have hat:QA e (p.take i)=if(p.take i).any (fun x=>x.1==e.1)=true then 10 else 0:=by unfold QA;rw[Dk a1,Dk a2,Dk a5]
       have go: ∀ k:Int->Option Int,(bif decide ((i:Int)<(p.length:Int))then k (i64.wrap ((i:Int)+1))else none)=k ((i:Int)+1):=fun k=>by rw[Di,cond_true,w64]
       have hw:i64.wrap ((i:Int)+1)=(i:Int)+1:=w64;rw[hat];by_cases a6:(p.take i).any (fun x=>x.1==e.1)=true
       .rw[Dp a6,Dk (by decide)];intro k;dsimp only;rw[show((i:Int)).toNat=i by omega,getD_lt p i _ hi,he,Di (show(i:Int)<(p.length:Int) by omega),cond_true,Di (show(0:Int)<=(i:Int) by omega),Jv,Jv,ho,Jr,ht,Abd,Dn a3,a4,Dn (show ¬(e.2.2.length:Int)>64 by omega),Di (show(i:Int)<=(p.length:Int) by omega),hcut,hsl,Dp a6];rfl
       .rw[Dk a6,Dp rfl];refine⟨fun k=> ?_,htk⟩;dsimp only;rw[show((i:Int)).toNat=i by omega,getD_lt p i _ hi,he,Di (show(i:Int)<(p.length:Int) by omega),cond_true,Di (show(0:Int)<=(i:Int) by omega),Jv,Jv,ho,Jr,ht,Abd,Dn a3,a4,Dn (show ¬(e.2.2.length:Int)>64 by omega),Di (show(i:Int)<=(p.length:Int) by omega),hcut,hsl,Dk a6,hw];rfl
   .intro s k _;rw[Ay8,cond_false]
def Aqf (N:Nat) (p:List Att) (i:Nat) (e:Att) (hi:i<=p.length) (hl:i<N) (hs:i<=1048576) (fin:Unit->Option Int) :
 Jz (X:=Int×Bs×Int×Bs) (Y:=Unit) (U4 fun t5b b33792_0b b33792_1b b33792_2b k3 x4 =>
         bif decide (t5b<(i:Int))then
          Vm.chk (decide (0<=t5b))
           (Vm.chk (decide (t5b< ↑(List.length p)))
             (bif (List.getD p t5b.toNat ([],0,[])).1==b33792_0b then some 10
             else k3 (i64.wrap (t5b+1),b33792_0b,b33792_1b,b33792_2b)))
         else x4 ()) N (0,e.1,e.2.1,e.2.2) fin=if(p.take i).any (fun x=>x.1==e.1)=true then some 10 else fin ():=by
 have hlen:(p.take i).length=i:=by rw[DZ];omega
 refine E5 (Oo (S:=Unit) (mk:=fun i _=>(i,e.1,e.2.1,e.2.2)) (out:=fun a=>a) (p.take i) ([],0,[]) (fun _ _=>True) (fun x (_:Unit)=>if(!(x.1==e.1))=true then .inr ()else .inl (some 10)) ?_ ?_ N () trivial) ?_
 .intro j a hj _;have hg:(p.take i).getD j ([],0,[])=p.getD j ([],0,[]):=by rw[getD_lt _ j _ hj,getD_lt p j _,List.getElem_take]
  rw[hg];refine Rt (p:=fun x:Att=> !(x.1==e.1)) (fun h k=> ?_) (fun h=>⟨fun k=> ?_,trivial⟩)
  .dsimp only[U4];have h':((p.getD j ([],0,[])).1==e.1)=true:=by simpa using h
   rw[show((j:Int)).toNat=j by omega,Di,cond_true,Di,Jv,Di,Jv,h',cond_true]
  .dsimp only[U4];have h':((p.getD j ([],0,[])).1==e.1)=false:=by simpa using h
   rw[show((j:Int)).toNat=j by omega,Di,cond_true,Di,Jv,Di,Jv,h',cond_false,w64]
 .grind[U4]
 .rw[WZ (p:=fun x:Att=> !(x.1==e.1))];rw[show(p.take i).any (fun x=>x.1==e.1)= !((p.take i).all fun x=> !(x.1==e.1)) by rw[Hz];simp];cases (p.take i).all fun x=> !(x.1==e.1)<;>rfl
theorem Aba (v:Bs):(((v.length:Nat):Int)==0)=decide (v=[]):=by
 cases v with
 | nil=>rfl
 | cons a r=>rw[Dn (by simp)];exact Ed (by rw[List.length_cons];omega)
def AhP (N:Nat) (p:List Att) (hN:1048578<N) (hp: ∀ e∈p,Zx e) (h4:p.length<=4):LG N p=Al1 p:=by
 unfold LG;try simp only[clR]
 refine NT (S:=List Att) (mk:=fun i _=>i) p ([],0,[]) (fun i s=>s=p.take i) Vg (fun _=>some 0) ?_ ?_ N [] rfl
 .intro i s hi hs;subst hs;have hm:=hp p[i] (Ef hi);have htk:p.take i++[p[i]]=p.take (i+1):=by rw[FC,DC hi];rfl
  have hlt:(p.take i).length<=4:=by rw[DZ];omega
  rw[getD_lt p i _ hi];generalize he:p[i]=e at hm htk;have ho:=(bU N e.1 (by omega) hm.1 (by have:=hm.1;omega)).2;have ht:=Aao N e.2.1 e.2.2 (by have:=hm.2;omega) hm.2 (by omega);have hsl:=fun fin=>Aqf N p i e (by omega) (by omega) (by omega) fin;unfold Vg;by_cases a1:MR e.1=none
  .have hat:QA e (p.take i)=11:=by unfold QA;rw[Dp a1]
   rw[hat,Dk (by decide)];intro k;all_goals grind[getD_lt,hi,Jv,Jr,a1]
  .have hsome:(MR e.1).isSome=true:=by cases hq:MR e.1 with
    | none=>exact absurd hq a1
    | some l=>rfl
   rw[hsome]at ho;by_cases a2:e.2.2=[]\/Ve e.2.1 e.2.2=false
   .have hat:QA e (p.take i)=13:=by unfold QA;rw[Dk a1,Dp a2]
    rw[hat,Dk (by decide)];intro k;all_goals grind[getD_lt,hi,Jv,Jr,Aba,a2]
   .have a3: ¬ e.2.2=[]:=fun h=>a2 (Or.inl h);have a4:Ve e.2.1 e.2.2=true:=by all_goals grind[Ve,a2]
    by_cases a5:64<e.2.2.length
    .have hat:QA e (p.take i)=2:=by unfold QA;rw[Dk a1,Dk a2,Dp a5]
     rw[hat,Dk (by decide)];intro k;all_goals grind[getD_lt,hi,Jv,Jr,Aba,a3]
    .have hat:QA e (p.take i)=if(p.take i).any (fun x=>x.1==e.1)=true then 10 else 0:=by unfold QA;rw[Dk a1,Dk a2,Dk a5]
     have go: ∀ k:Int->Option Int,(bif decide ((i:Int)<(p.length:Int))then k (i64.wrap ((i:Int)+1))else none)=k ((i:Int)+1):=fun k=>by rw[Di,cond_true,w64]
     have hw:i64.wrap ((i:Int)+1)=(i:Int)+1:=w64;rw[hat];by_cases a6:(p.take i).any (fun x=>x.1==e.1)=true
     .rw[Dp a6,Dk (by decide)];intro k;dsimp only;rw[show((i:Int)).toNat=i by omega,getD_lt p i _ hi,he,Di (show(i:Int)<(p.length:Int) by omega),cond_true,Di (show(0:Int)<=(i:Int) by omega),Jv,Jv,ho,Jr,ht,Aba,Dn a3,a4,Dn (show ¬(e.2.2.length:Int)>64 by omega),hsl,Dp a6];rfl
     .rw[Dk a6,Dp rfl];refine⟨fun k=> ?_,htk⟩;dsimp only;rw[show((i:Int)).toNat=i by omega,getD_lt p i _ hi,he,Di (show(i:Int)<(p.length:Int) by omega),cond_true,Di (show(0:Int)<=(i:Int) by omega),Jv,Jv,ho,Jr,ht,Aba,Dn a3,a4,Dn (show ¬(e.2.2.length:Int)>64 by omega),hsl,Dk a6,hw];rfl
 .intro s k _;rw[Ay8,cond_false]
def AhC (p:List Att): ∃ v,Al1 p=some v:=by
 have: ∀(l s:List Att),∃ v,PE Vg (fun _=>some 0) l s=some v:=by
  intro l
  induction l with
  | nil=>intro s;exact⟨0,rfl⟩
  | cons e r ih =>
   intro s;unfold PE Vg;by_cases h:QA e s=0
   .rw[Dp h];exact ih _
   .rw[Dk h];exact⟨_,rfl⟩
 exact this p []
def Ul (p:List Att):Int:=if p=[]then 14 else if 4<p.length then 2 else(Al1 p).getD 0
def AvN (N:Nat) (p:List Att) (hN:1048578<N) (hp: ∀ e∈p,Zx e):OC N p=some (Ul p):=by
 rw[Anw N p hN hp];unfold Ul;obtain⟨v,hv⟩:=AhC p;rw[hv];split
 .rfl
 .split<;>rfl
def XA (p:List Att) (_:Unit):Option Int ⊕ Unit:=if Ul p=0 then .inr ()else .inl (some (Ul p))
def X7 (n:List (List Att)):Option Int:=if 8<n.length then some 2 else PE XA (fun _=>some 0) n ()
def LX (n:List (List Att)):Prop:= ∀ p∈n,∀ e∈p,Zx e
def AfU (N:Nat) (n:List (List Att)) (hN:1048578<N) (hn:LX n):N7 N n=X7 n:=by
 unfold N7 X7;try simp -zeta only[Ap]
 by_cases h8:8<n.length
 .rw[Dp h8,Di,cond_true]
 .rw[Dk h8,Ay8,cond_false];refine NT (S:=Unit) (mk:=fun i _=>i) n [] (fun _ _=>True) XA (fun _=>some 0) ?_ ?_ N () trivial
  .intro i s hi _;rw[getD_lt n i [] hi];have hr:=AvN N n[i] hN (hn _ (Ef hi));unfold XA;by_cases h:Ul n[i]=0
   .rw[Dp h];refine⟨fun k=> ?_,trivial⟩;dsimp only;rw[show((i:Int)).toNat=i by omega,getD_lt n i [] hi,Di,cond_true,Di,Jv,Jv,hr,Jr,h,w64];rfl
   .rw[Dk h];intro k;dsimp only;rw[show((i:Int)).toNat=i by omega,getD_lt n i [] hi,Di,cond_true,Di,Jv,Jv,hr,Jr,show(Ul n[i] != 0)=true from Ey.2 h,cond_true]
  .simp_all[Att,LX,N7,X7]
def Aj5 (N:Nat) (n:List (List Att)) (hN:1048578<N) (hn:LX n):LP N n=X7 n:=by
 unfold LP X7;try simp -zeta only[Ap]
 by_cases h8:8<n.length
 .rw[Dp h8,Di,cond_true]
 .rw[Dk h8,Ay8,cond_false];refine NT (S:=Unit) (mk:=fun i _=>i) n [] (fun _ _=>True) XA (fun _=>some 0) ?_ ?_ N () trivial
  .intro i s hi _;rw[getD_lt n i [] hi];have ha:=fun(h4:(n[i]).length<=4)=>AhP N n[i] hN (hn _ (Ef hi)) h4;obtain⟨v,hv⟩:=AhC n[i];have pre: ∀(A:Option Int) (K:List Att->Option Int),(bif decide ((i:Int)<(n.length:Int))then Vm.chk (decide ((0:Int)<=(i:Int))) (Vm.chk (decide ((i:Int)<(n.length:Int))) (K (n.getD (i:Int).toNat [])))else A)=K n[i]:=by all_goals simp_all[getD_lt,hi,Jv,Att,LX,LP,X7]
   have key: ∀ k:Int->Option Int,(bif (((n[i].length:Nat):Int)==0)then some 14 else bif decide ((n[i].length:Int)>4)then some 2 else Jq (LG N n[i]) fun r=>bif r != 0 then some r else k (i64.wrap ((i:Int)+1)))=if Ul n[i]=0 then k ((i:Int)+1)else some (Ul n[i]):=by
    intro k;unfold Ul;by_cases h0:n[i]=[]
    .rw[h0];rfl
    .have hpos:=GX.2 h0;all_goals grind[Jr,w64]
   unfold XA;by_cases h:Ul n[i]=0
   .rw[Dp h];refine⟨fun k=> ?_,trivial⟩;refine(pre _ (fun a=>bif (((a.length:Nat):Int)==0)then some 14 else bif decide ((a.length:Int)>4)then some 2 else Jq (LG N a) fun r=>bif r != 0 then some r else k (i64.wrap ((i:Int)+1)))).trans ?_;refine(key k).trans ?_;rw[Dp h]
   .rw[Dk h];intro k;refine(pre _ (fun a=>bif (((a.length:Nat):Int)==0)then some 14 else bif decide ((a.length:Int)>4)then some 2 else Jq (LG N a) fun r=>bif r != 0 then some r else k (i64.wrap ((i:Int)+1)))).trans ?_;refine(key k).trans ?_;rw[Dk h]
  .intro s k _;rw[Ay8,cond_false]
def Aj9 (N:Nat) (s:Bs) (c:UInt8) (hN:s.length+2<N:=by omega) (hs:s.length<=1048576:=by omega):Qa N s (c.toNat:Int)=some (Kw c s):=by
 unfold Qa;try simp only[clR]
 refine E5 (MK (I:=fun x:Int×Int×List Bs=> ∃(a j:Nat) (acc:List Bs),x=((a:Int),(j:Int),acc)/\((a<=j/\j<=s.length/\c∉J6 s a j)\/(a=s.length+1/\j=s.length+1))/\acc.length<=j) (μ :=fun x=>s.length+1 - x.2.1.toNat) (F:=fun x=>some (if x.1.toNat<=s.length then x.2.2++Kw c (s.drop x.1.toNat)else x.2.2)) ?_ N (0,0,[]) ⟨0,0,[],rfl,Or.inl ⟨DN _,EG _,by rw[WN];exact Fv⟩,EG _⟩ (by show s.length+1 - 0<N;omega)) ?_
 .rintro x ⟨a,j,acc,rfl,hi,hacc⟩ k hk;dsimp only[U3];rw[show((a:Int)).toNat=a by omega,show((j:Int)).toNat=j by omega];rcases hi with ⟨h1,h2,h3⟩ | ⟨h1,h2⟩
  .have hsplit:s.drop a=J6 s a j++s.drop j:=by
    unfold J6
    conv=>lhs;rw[<- GM j s]
    rw[Ih (by rw[DZ];omega)]
   rw[Di (show(j:Int)<=(s.length:Int) by omega),cond_true,Di (show(0:Int)<=(j:Int) by omega)];simp only[DR,Jv];by_cases hl:j<s.length
   .rw[Di (show(j:Int)<(s.length:Int) by omega),getD_lt s j 0 hl];simp only[DR,Jv];rw[show(((j:Nat):Int)==((s.length:Nat):Int))=false from Ed (by omega),EN];by_cases hc:s[j]=c
    .rw[hc,show(((c.toNat:Nat):Int)==((c.toNat:Nat):Int))=true from ER _,cond_true,Di,Jv,Di,Jv,Di,Jv,w64,show((j:Int)+1)=((j+1:Nat):Int)from rfl];rw[hk _ ⟨j+1,j+1,_,rfl,Or.inl ⟨DN _,by omega,by rw[WN];exact Fv⟩,by rw[Dx,List.length_singleton];omega⟩ (by show s.length+1 - ((j+1:Nat):Int).toNat<s.length+1 - ((j:Int)).toNat;omega)];show some (if((j+1:Nat):Int).toNat<=s.length then(acc++[J6 s a j])++Kw c (s.drop ((j+1:Nat):Int).toNat)else _)=_;rw[show((j+1:Nat):Int).toNat=j+1 by omega,AyA,AyA,hsplit,Ep hl,hc,UY _ _ _ h3,Ej];rfl
    .have hne:(((s[j].toNat:Nat):Int)==((c.toNat:Nat):Int))=false:=Ed fun h=>hc (Ig.1 (by omega));rw[hne,cond_false,w64,show((j:Int)+1)=((j+1:Nat):Int)from rfl];rw[hk _ ⟨a,j+1,acc,rfl,Or.inl ⟨by omega,by omega,by rw[xP s h1 hl,DJ,DT];rintro (h | h);exact h3 h;exact hc h.symm⟩,by omega⟩ (by show s.length+1 - ((j+1:Nat):Int).toNat<s.length+1 - ((j:Int)).toNat;omega)];show some (if((a:Int)).toNat<=s.length then acc++Kw c (s.drop ((a:Int)).toNat)else _)=_;rw[show((a:Int)).toNat=a by omega]
   .have hj:j=s.length:=by omega
    subst hj;rw[show(((s.length:Nat):Int)==((s.length:Nat):Int))=true from ER _];simp only[Ew,DR,Jv,cond_true];rw[Di,Jv,Di,Jv,Di,Jv,w64,show((s.length:Int)+1)=((s.length+1:Nat):Int)from rfl];rw[hk _ ⟨s.length+1,s.length+1,_,rfl,Or.inr ⟨rfl,rfl⟩,by rw[Dx,List.length_singleton];omega⟩ (by show s.length+1 - ((s.length+1:Nat):Int).toNat<s.length+1 - ((s.length:Int)).toNat;omega)];show some (if((s.length+1:Nat):Int).toNat<=s.length then _ else acc++[J6 s a s.length])=_;rw[Ay9,AyA,hsplit,FY,En,YQ _ _ h3]
  .subst h1;subst h2;rw[Ay8,cond_false,Ay9]
 .rfl
def qV (c:UInt8):Bool:=TQ c||decide (c.toNat=45)
def eY (s:Bs):Bool:= !(decide (s.length<1)||decide (63<s.length)||decide ((s.getD 0 0).toNat=45)||decide ((s.getD (s.length - 1) 0).toNat=45))&&s.all qV
def nH (N:Nat) (c:UInt8): ∃ a b,RP N (c.toNat:Int)=some a/\QU N (c.toNat:Int)=some b/\(a||b)=TQ c:=by refine oM (P:=fun c=> ∃ a b,RP N (c.toNat:Int)=some a/\QU N (c.toNat:Int)=some b/\(a||b)=TQ c) ?_ c;intro n;refine⟨(RP 0 ((UInt8.ofNat n.val).toNat:Int)).getD false,(QU 0 ((UInt8.ofNat n.val).toNat:Int)).getD false,?_⟩;show RP 0 _=_/\QU 0 _=_/\_;revert n;decide +kernel
def Aij (N:Nat) (s:Bs) (hN:70<N) (hs:s.length<=1048576):aX N s=some (eY s):=by
 unfold aX eY;try simp only[clR]
 by_cases h1:s.length<1
 .have:s=[]:=Hy.1 (by omega);subst this;rfl
 .rw[Dn h1,Dn (show ¬(s.length:Int)<1 by omega),Di (show(0:Int)<(s.length:Int) by omega),w64,Di (show(0:Int)<=(s.length:Int) - 1 by omega),Di (show(s.length:Int) - 1<(s.length:Int) by omega),show((s.length:Int) - 1).toNat=s.length - 1 by omega];simp only[DR,Jv,EN]
  have e1: ∀ c:UInt8,(((c.toNat:Nat):Int)==45)=decide (c.toNat=45):=fun c=>by
   by_cases h:c.toNat=45
   .rw[h];rfl
   .rw[Dn h];exact Ed (by omega)
  rw[e1,e1,show decide ((s.length:Int)>63)=decide (63<s.length) by congr 1;apply propext;omega];generalize decide ((s.getD 0 0).toNat=45)=q1;generalize decide ((s.getD (s.length - 1) 0).toNat=45)=q2;by_cases h2:63<s.length
  .rw[Di h2];rfl
  .rw[Dn h2];cases q1<;>cases q2<;>first | rfl | skip
   rw[show(false||false||false)=false from rfl,cond_false,Di,Jv];have hml:((s.map fun b=>((b.toNat:Nat):Int)).length)=s.length:=D5 ..;refine E5 (Oo (S:=Unit) (mk:=fun i _=>(i,s.map fun b=>((b.toNat:Nat):Int))) (out:=fun a=>a) s 0 (fun _ _=>True) (fun e (_:Unit)=>if qV e=true then .inr ()else .inl (some false)) ?_ ?_ N () trivial) ?_
   .intro i a hi _;obtain⟨x,y,hx,hy,hxy⟩:=nH N (s.getD i 0);have hg:(s.map fun b=>((b.toNat:Nat):Int)).getD i 0=(((s.getD i 0).toNat:Nat):Int):=by rw[getD_lt _ i 0,getD_lt s i 0 hi,FX]
    have hne:((((s.getD i 0).toNat:Nat):Int) != 45)= !decide ((s.getD i 0).toNat=45):=by rw[bne,e1]
    refine Rt (p:=qV) (fun h k=> ?_) (fun h=>⟨fun k=> ?_,trivial⟩)
    .dsimp only[U2];unfold qV at h;rw[hml,show((i:Int)).toNat=i by omega,Di,cond_true,Di,Jv,Di,Jv,hg,hx,Jr,hy,hne];rw[<- hxy]at h;generalize decide ((s.getD i 0).toNat=45)=z at h;cases x<;>cases y<;>cases z<;>first | rfl | (exact absurd h (by decide))
    .dsimp only[U2];unfold qV at h;rw[hml,show((i:Int)).toNat=i by omega,Di,cond_true,Di,Jv,Di,Jv,hg,hx,Jr,hy,hne,w64];rw[<- hxy]at h;generalize decide ((s.getD i 0).toNat=45)=z at h;cases x<;>cases y<;>cases z<;>first | rfl | (exact absurd h (by decide))
   .intro a k _;dsimp only[U2];rw[hml,Ay8,cond_false]
   .rw[WZ];cases s.all qV<;>rfl
def Qh (s:Bs):Bool:= !decide (128<s.length)&&(Kw 46 s).all eY
def VN (N:Nat) (s:Bs) (hN:200<N:=by omega):P9 N s=some (Qh s):=by
 unfold P9 Qh;try simp -zeta only[Ap]
 by_cases h:128<s.length
 .rw[Di h,Di (show(s.length:Int)>128 by omega),cond_true];rfl
 .rw[Dn h,Dn (show ¬(s.length:Int)>128 by omega),cond_false];have hsp:strings_Split N s [46]=some (Kw 46 s):=by unfold strings_Split;rw[Di,AlV];rfl
  rw[hsp,Jr];have hlen:=XV 46 s;generalize Kw 46 s=p at hlen ⊢;refine E5 (Oo (S:=Unit) (mk:=fun i _=>i) (out:=fun a=>a) p [] (fun _ _=>True) (fun e (_:Unit)=>if eY e=true then .inr ()else .inl (some false)) ?_ ?_ N () trivial) ?_
  .intro i a hi _;have hm:=hlen.2.2 (p.getD i []) (by rw[getD_lt p i [] hi];exact Ef hi);have hlab:=Aij N (p.getD i []) (by omega) (by omega);refine Rt (p:=eY) (fun h k=> ?_) (fun h=>⟨fun k=> ?_,trivial⟩)
   .dsimp only;rw[show((i:Int)).toNat=i by omega,Di,cond_true,Di,Jv,Jv,hlab,Jr,h];rfl
   .dsimp only;rw[show((i:Int)).toNat=i by omega,Di,cond_true,Di,Jv,Jv,hlab,Jr,h,w64];rfl
  .intro a k _;dsimp only;rw[Ay8,cond_false]
  .rw[WZ];cases p.all eY<;>rfl
def Ata (c:UInt8) (n:Nat) (hn:n<256):(((c.toNat:Nat):Int)==(n:Int))=(c==UInt8.ofNat n):=by
 by_cases h:c=UInt8.ofNat n
 .subst h;rw[ER,Fp,show n % 2 ^ 8=n from FM hn];exact ER _
 .rw[Ed h];refine Ed fun h2=>h ?_;apply Ig.1;rw[Fp,show n % 2 ^ 8=n from FM hn];omega
def Awr (c:UInt8) (n:Nat) (hn:n<256):(((c.toNat:Nat):Int) != (n:Int))= !(c==UInt8.ofNat n):=by unfold bne;rw[Ata c n hn]
def beq46 (c:UInt8):(((c.toNat:Nat):Int)==46)=(c==46):=Ata c 46 (by omega)
def AuK (c:UInt8):(((c.toNat:Nat):Int)==45)=(c==45):=Ata c 45 (by omega)
def Axl (c:UInt8):(((c.toNat:Nat):Int) != 45)= !(c==45):=Awr c 45 (by omega)
def Axm (c:UInt8):(((c.toNat:Nat):Int) != 64)= !(c==64):=Awr c 64 (by omega)
def AoJ (c:UInt8):decide (c.toNat=45)=(c==45):=by
 rw[<- AuK];by_cases h:c.toNat=45
 .rw[h];rfl
 .rw[Dn h];exact(Ed (by omega)).symm
def SL (N:Nat) (s:Bs) (hN:1048578<N):Ns N s=some (Qh s):=by
 unfold Ns Qh;try simp only[clR]
 by_cases h1:128<s.length
 .rw[AdT (by omega),cond_true,Ajy h1];rfl
 .rw[Ajp (by omega),cond_false,Ajx (by omega)];have hsp:Qa N s 46=some (Kw 46 s):=Aj9 N s 46;rw[hsp,Jr];have hlen:=XV 46 s;generalize Kw 46 s=p at hlen ⊢;refine E5 (Rh (S:=Unit) (R:=Bool) (mk:=fun i _=>(i:Int)) p [] (fun l _=>bif eY l then .inr ()else .inl false) some (fun _=>some true) ?_ ?_ N ()) ?_
  .intro i _ hi k;have hm:=hlen.2.2 _ (getD_mem [] hi);dsimp only;rw[show((i:Int)).toNat=i by omega];generalize p.getD i []=l at hm ⊢;unfold eY;rw[AoJ,AoJ];by_cases h2:l.length<1
   .simp (disch:=omega) only[JZ]
   .by_cases h3:63<l.length
    .simp (disch:=omega) only[JZ]
    .simp (disch:=omega) only[JZ,AuK,KU];cases l.getD 0 0==45<;>cases l.getD (l.length - 1) 0==45<;>first | rfl | skip
     refine E5 (Rh (S:=Unit) (R:=Bool) (mk:=fun i _=>(i:Int)) l 0 (fun c _=>bif qV c then .inr ()else .inl false) some (fun _=>k ((i+1:Nat):Int)) ?_ ?_ N ()) ?_
     .intro j _ hj k;simp (disch:=omega) only[JZ,oP,Axl,KU];unfold qV;rw[AoJ];cases TQ (l.getD j 0)<;>cases l.getD j 0==45<;>rfl
     .intro _ k;simp (disch:=omega) only[JZ]
     .rw[zI];cases l.all qV<;>rfl
  .intro _ k;simp (disch:=omega) only[JZ]
  .rw[zI];cases p.all eY<;>rfl
def contains_one (c:UInt8) (s:Bs):Lib.contains s [c]=s.contains c:=by
 unfold Lib.contains;rcases Zc c s with h | ⟨a,r,rfl,ha⟩
 .rw[index_none c s h];have:s.contains c=false:=by simpa using h
  rw[this];rfl
 .rw[AcF c a r ha];have:(a++c::r).contains c=true:=by simp
  rw[this];exact Di
def rQ (s:Bs):Bool:=bif Lib.hasPrefix s [42,46]then decide (s.length<=128)&&Qh (s.drop 2)&&(s.drop 2).contains 46 else Qh s
def Axf {s p:Bs} (h:Lib.hasPrefix s p=true):Lib.trimPrefix s p=s.drop p.length:=by unfold Lib.trimPrefix;rw[Dp h]
def Axe {s p:Bs} (h:Lib.hasPrefix s p=false):Lib.trimPrefix s p=s:=by unfold Lib.trimPrefix;rw[Dk (by rw[h];decide)]
def Aeu (N:Nat) (s:Bs) (hN:1048578<N):UL N s=some (rQ s):=by
 unfold UL rQ strings_CutPrefix;try simp only[clR]
 rw[Jr];cases hp:Lib.hasPrefix s [42,46]with
 | false=>rw[Axe hp,VN N _];rfl
 | true =>
  rw[Axf hp,show s.drop ([42,46]:Bs).length=s.drop 2 from rfl];simp (disch:=omega) only[JZ,VN,AtJ,Option.getD_some];by_cases h:s.length<=128
  .unfold strings_Contains;rw[Di (show(s.drop 2).length<4294967281 by rw[EJ];omega),cond_true,contains_one,Abe h,Vq];rfl
  .rw[AeI (by omega),AuM (by omega)];simp [chk]
def Atu (r:Bs):Qh (42::46::r)=false:=by unfold Qh;rw[show(42::46::r:Bs)=[42]++46::r from rfl,UY _ _ _ (by decide),List.all_cons,show eY [42]=false by decide];simp
def Avu (r:Bs):Qh (46::r)=false:=by unfold Qh;rw[show(46::r:Bs)=[]++46::r from rfl,UY _ _ _ (by decide),List.all_cons,show eY []=false by decide];simp
def Aga:Qh []=false:=by decide
def As1 (s:Bs):decide (2<=(Kw 46 s).length)=s.contains 46:=by
 rcases Zc 46 s with h | ⟨a,r,rfl,ha⟩
 .rw[YQ _ _ h];have:s.contains 46=false:=by simpa using h
  rw[this];rfl
 .rw[UY _ _ _ ha];have:(a++46::r).contains 46=true:=by simp
  rw[this];have:=(XV 46 r).2.1;exact Di (by rw[List.length_cons];omega)
def AvT (s:Bs):(∃ r,s=42::46::r)\/(Lib.hasPrefix s [42,46]=false/\(J6 s 0 2==[42,46])=false):=by
 match s with
 | []=>right;exact⟨rfl,rfl⟩
 | [a]=>right;exact⟨by simp [Lib.hasPrefix,List.isPrefixOf],by simp [J6]⟩
 | a::b::r =>
  by_cases h:a=42/\b=46
  .left;exact⟨r,by rw[h.1,h.2]⟩
  .right;refine⟨?_,?_⟩
   .cases hq:Lib.hasPrefix (a::b::r) [42,46]with
    | false=>rfl
    | true =>exfalso;simp [Lib.hasPrefix,List.isPrefixOf]at hq;exact h ⟨hq.1.symm,hq.2.symm⟩
   .refine Ed fun hq=>h ?_;simp [J6]at hq;exact hq
def Adk (N:Nat) (s:Bs) (hN:1048578<N) (hs:s.length<=1048576):Ua N s=some (rQ s):=by
 unfold Ua rQ;try simp only[clR]
 have hsp:Qa N s 46=some (Kw 46 s):=Aj9 N s 46;rw[SL N s hN,Jr,SL N _ hN,hsp];simp only[Option.isSome_some,Option.getD_some,DR,Jv];rcases AvT s with ⟨r,rfl⟩ | ⟨h1,h2⟩
 .rw[Atu,show Lib.hasPrefix (42::46::r) [42,46]=true by simp [Lib.hasPrefix,List.isPrefixOf],cond_true,show(42::46::r:Bs).drop 2=r from rfl];rw[show J6 (42::46::r:Bs) 2 (42::46::r:Bs).length=r by unfold J6;rw[ES];rfl,show(J6 (42::46::r:Bs) 0 2==[42,46])=true by simp [J6]];rw[show decide (((Kw 46 (42::46::r)).length:Int)>2)=r.contains 46 by rw[<- As1,show(42::46::r:Bs)=[42]++46::r from rfl,UY _ _ _ (by decide),List.length_cons];congr 1;apply propext;omega];rw[show decide (((42::46::r:Bs).length:Int)<=128)=decide ((42::46::r:Bs).length<=128) by congr 1;apply propext;omega];rw[Vq (show(2:Int)<=((42::46::r:Bs).length:Int) by simp;omega)];cases r with
  | nil=>rw[Aga];simp [chk]
  | cons x r =>rw[AdT (show((42::46::x::r:Bs).length:Int)>2 by simp;omega)];cases decide ((42::46::x::r:Bs).length<=128)<;>cases Qh (x::r)<;>cases (x::r).contains 46<;>rfl
 .rw[h1,cond_false,h2]
  have:decide (2<=((s.length:Nat):Int))=true\/decide (((s.length:Nat):Int)>2)=false:=by
   by_cases h:2<=s.length
   .left;exact Di
   .right;exact Ay8
  rcases this with h | h<;>rw[h]<;>cases Qh s<;>cases decide (((s.length:Nat):Int)<=128)<;>simp [chk]
def pF (s:Bs):Bool:=(s==[])||Qh s
def AkF (N:Nat) (s:Bs) (hN:1048578<N):Zi N s=some (pF s):=by
 unfold Zi pF;try simp only[clR]
 simp (disch:=omega) only[JZ,VN,Option.isSome_some,Option.getD_some]
def AiO (N:Nat) (s:Bs) (hN:1048578<N):XK N s=some (pF s):=by
 unfold XK pF;try simp only[clR]
 simp (disch:=omega) only[JZ,SL,Option.isSome_some,Option.getD_some]
def sJ:Bs:=[33,35,36,37,38,39,42,43,45,47,61,63,94,95,96,123,124,125,126,46]
def RS (c:UInt8):Bool:=TQ c||sJ.any (· ==c)
def dots:Bs->Bool
 | x::y::r=>(x==46&&y==46)||dots (y::r)
 | _=>false
def AhV: ∀ s:Bs,Lib.contains s [46,46]=dots s:=by
 have key: ∀ s:Bs,(Lib.index s [46,46]= -1/\dots s=false)\/(0<=Lib.index s [46,46]/\dots s=true):=by
  intro s
  induction s with
  | nil=>left;exact⟨rfl,rfl⟩
  | cons x r ih =>
   cases r with
   | nil =>left;refine⟨?_,rfl⟩;show(if List.isPrefixOf [46,46] [x]=true then(0:Int)else _)= -1;rw[Dk (by simp [List.isPrefixOf])];rfl
   | cons y r =>
    have e:Lib.index (x::y::r) [46,46]=if List.isPrefixOf [46,46] (x::y::r)=true then(0:Int)else if Lib.index (y::r) [46,46]== -1 then -1 else Lib.index (y::r) [46,46]+1:=rfl;have d:dots (x::y::r)=((x==46&&y==46)||dots (y::r)):=rfl;have p:List.isPrefixOf [46,46] (x::y::r)=(x==46&&y==46):=by simp only[List.isPrefixOf,FK];rw[IK (a:=(46:UInt8)),IK (a:=(46:UInt8))]
    rw[e,d,p];cases (x==46&&y==46)with
    | true=>right;exact⟨by rw[Dp rfl];exact FH 0,rfl⟩
    | false =>
     rcases ih with ⟨h1,h2⟩ | ⟨h1,h2⟩
     .left;rw[h1,h2];exact⟨rfl,rfl⟩
     .right;rw[h2];refine⟨?_,rfl⟩;rw[Dk (by decide),Dk (by simp;omega)];omega
 intro s;unfold Lib.contains;rcases key s with ⟨h1,h2⟩ | ⟨h1,h2⟩
 .rw[h1,h2];rfl
 .rw[h2];exact Di h1
def zG (s:Bs):Bool:= !(decide (s.length<1)||decide (64<s.length)||(s.getD 0 0==46)||(s.getD (s.length - 1) 0==46)||dots s)&&s.all RS
def Aio (c:UInt8): ∀ l:Bs,decide (Lib.indexByte l c>=0)=l.any (· ==c):=by
 intro l
 induction l with
 | nil=>rfl
 | cons b r ih =>
  show decide ((if(b==c)=true then(0:Int)else if Lib.indexByte r c== -1 then -1 else Lib.indexByte r c+1)>=0)=(b==c||r.any (· ==c));cases b==c with
  | true=>rfl
  | false =>
   rw[Dk (by decide),EN,<- ih];have:=Lib.indexByte_ge r c;by_cases h:Lib.indexByte r c= -1
   .rw[h];rfl
   .rw[Dk (by simpa using h)];congr 1;apply propext;omega
def Axh (c:UInt8):c.toNat.toUInt8=c:=Il
def Ail (N:Nat) (s:Bs) (hN:1048578<N) (hs:s.length<=1048576):Xx N s=some (zG s):=by
 unfold Xx zG;try simp only[clR]
 unfold strings_Contains;rw[Di (show s.length<4294967281 by omega),cond_true,AhV];by_cases h1:s.length<1
 .have:s=[]:=Hy.1 (by omega);subst this;rfl
 .by_cases h2:64<s.length
  .simp (disch:=omega) only[JZ,Option.isSome_some]
  .simp (disch:=omega) only[JZ,Option.isSome_some,Option.getD_some,beq46];cases s.getD 0 0==46<;>cases s.getD (s.length - 1) 0==46<;>cases dots s<;>first | rfl | skip
   simp only[EN,ET,cond_false,DY,EE];have hml:((s.map fun b=>((b.toNat:Nat):Int)).length)=s.length:=D5 ..;refine E5 (Rh (S:=Unit) (R:=Bool) (mk:=fun i _=>((i:Int),s.map fun b=>((b.toNat:Nat):Int))) s 0 (fun c _=>bif RS c then .inr ()else .inl false) some (fun _=>some true) ?_ ?_ N ()) ?_
   .intro i _ hi k;obtain⟨x,y,hx,hy,hxy⟩:=nH N (s.getD i 0);have hg:(s.map fun b=>((b.toNat:Nat):Int)).getD i 0=(((s.getD i 0).toNat:Nat):Int):=by rw[getD_lt _ i 0,getD_lt s i 0 hi,FX]
    simp (disch:=omega) only[JZ,hml,hg,hx,hy,KU,strings_IndexByte,Axh,Aio];unfold RS;rw[<- hxy];show _=bif _||sJ.any (· ==s.getD i 0)then _ else _;rw[show([33,35,36,37,38,39,42,43,45,47,61,63,94,95,96,123,124,125,126,46]:Bs)=sJ from rfl];cases x<;>cases y<;>cases sJ.any (· ==s.getD i 0)<;>rfl
   .intro _ k;simp (disch:=omega) only[JZ,hml]
   .rw[zI];cases s.all RS<;>rfl
end Go.Proofs.YtehkhflpjkokeaaGreatDoor.Pl
