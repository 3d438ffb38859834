import Derived.Test.YtmgpaalplkkpnaaGreatDoorA16
import Derived.Lib.TrimUEq
set_option linter.all false
namespace Go.Proofs.YtmgpaalplkkpnaaGreatDoor.Pl
open IntKind (i64 u8 u32 u64)
open Go Vm
def hi (m:Nat):List Nat:=if m=0 then []else hi (m / 128)++[m % 128+128]
termination_by m
decreasing_by omega
def Ap7:hi 0=[]:=by rw[hi];rfl
def Azj {m:Nat} (h:m≠0):hi m=hi (m / 128)++[m % 128+128]:=by rw[hi,Dk h]
def sJ (n:Nat):List Nat:=hi (n / 128)++[n % 128]
def cnt (m:Nat):Nat:=(hi m).length
def AiA:cnt 0=0:=by unfold cnt;rw[Ap7];rfl
def AtV {m:Nat} (h:m≠0):cnt m=cnt (m / 128)+1:=by unfold cnt;rw[Azj h];simp
def cnt_le: ∀(k m:Nat),m<128 ^ k->cnt m<=k:=by
 intro k
 induction k with
 | zero=>intro m h;have:m=0:=by rw[Nat.pow_zero]at h;omega
         rw[this,AiA];omega
 | succ k ih =>
  intro m h;by_cases h0:m=0
  .rw[h0,AiA];omega
  .rw[AtV h0];have:=ih (m / 128) (by rw[Nat.pow_succ]at h;omega);omega
def yU (m:Nat):Nat->List Nat
 | 0=>[]
 | t+1=>(m / 128 ^ t % 128+128)::yU m t
def div_pow (m t:Nat):m / 128 ^ (t+1)=m / 128 / 128 ^ t:=by rw[Nat.pow_succ,I7,H5]
def Ayd: ∀(t m:Nat),yU m (t+1)=yU (m / 128) t++[m % 128+128]:=by
 intro t
 induction t with
 | zero=>intro m;show [m / 128 ^ 0 % 128+128]=_;rw[Nat.pow_zero,Nat.div_one];rfl
 | succ t ih =>intro m;show(m / 128 ^ (t+1) % 128+128)::yU m (t+1)=_;rw[ih,div_pow];rfl
def A2n: ∀(k m:Nat),m<128 ^ k->yU m (cnt m)=hi m:=by
 intro k
 induction k with
 | zero=>intro m h;have:m=0:=by rw[Nat.pow_zero]at h;omega
         rw[this,AiA,Ap7];rfl
 | succ k ih =>
  intro m h;by_cases h0:m=0
  .rw[h0,AiA,Ap7];rfl
  .rw[AtV h0,Ayd,ih _ (by rw[Nat.pow_succ]at h;omega),<- Azj h0]
def sh7 (n t:Nat) (ht:t<=9):(n:Int).fdiv (2 ^ min (u64.wrap (7*u64.wrap (t:Int))).toNat 64)=((n / 128 ^ t:Nat):Int):=by
 rw[wu64 (x:=(t:Int)) (by omega),wu64 (by omega),show min ((7:Int)*(t:Int)).toNat 64=7*t by omega];have h:(2:Nat) ^ (7*t)=128 ^ t:=by rw[Nat.pow_mul]
 have e:(2:Int) ^ (7*t)=((128 ^ t:Nat):Int):=by rw[<- h];push_cast;rfl
 rw[e];exact(Int.ofNat_fdiv _ _).symm
def AoL (n:Nat) (h:n<9223372036854775808:=by omega):JF .and .i64 (n:Int) 127=((n % 128:Nat):Int):=by show i64.wrap (((BitVec.ofInt 64 (n:Int)) &&& (BitVec.ofInt 64 ((127:Nat):Int))).toNat:Int)=_;rw[show(BitVec.ofInt 64 (n:Int))=BitVec.ofNat 64 n by simp,show(BitVec.ofInt 64 ((127:Nat):Int))=BitVec.ofNat 64 127 by simp];rw[BitVec.toNat_and,Gf,Gf,F6 (by omega),F6 (by omega)];rw[show(127:Nat)=2 ^ 7 - 1 by decide,Nat.and_two_pow_sub_one_eq_mod];exact w64
def A4o (a:Nat) (h:a<128):JF .or .i64 (a:Int) 128=((a+128:Nat):Int):=by
 have: ∀ a:Fin 128,JF .or .i64 ((a.val:Nat):Int) 128=((a.val+128:Nat):Int):=by decide +kernel
 exact this ⟨a,h⟩
def A2t {ρ :Type} (N n:Nat) (l:List Int) (hn:n<34359738368) (hN:16<N) (fin:Int×List Int->Option ρ) :
 JB (X:=Int×List Int) (Y:=Int×List Int) (U2 fun t5a l0a k1 x2 =>
  Vm.chk (decide (0<=u64.wrap (7*u64.wrap t5a)))
   (bif decide ((n:Int).fdiv (2 ^ min (u64.wrap (7*u64.wrap t5a)).toNat 64)>0)then
     k1 (i64.wrap (t5a+1),l0a)
   else x2 (t5a,l0a))) N (1,l) fin=fin (((1+cnt (n / 128):Nat):Int),l):=by
 refine ER (NU (I:=fun x:Int×List Int=> ∃ t:Nat,x=((t:Int),l)/\1<=t/\t<=5) (μ :=fun x=>5 - x.1.toNat) (F:=fun x=>fin (((x.1.toNat+cnt (n / 128 ^ x.1.toNat):Nat):Int),l)) ?_ N (1,l) ⟨1,rfl,by omega,by omega⟩ (by show 5 - 1<N;omega)) rfl;rintro x ⟨t,rfl,h1,h2⟩ k hk;dsimp only[U2];rw[sh7 n t (by omega),Di (show(0:Int)<=u64.wrap (7*u64.wrap (t:Int)) by rw[wu64 (x:=(t:Int)) (by omega),wu64 (by omega)];omega),JI];have ht:((t:Int)).toNat=t:=by omega
 rw[ht];generalize hm:n / 128 ^ t=m;by_cases h0:m=0
 .rw[h0,A50,cond_false,AiA];rfl
 .rw[Di,cond_true,w64];have h5:t<5:=by refine Nat.lt_of_le_of_ne h2 fun e=>h0 ?_;rw[<- hm,e];exact Nat.div_eq_of_lt hn
  have e1:((t:Int)+1).toNat=t+1:=by omega
  rw[hk _ ⟨t+1,by push_cast;rfl,by omega,by omega⟩ (by show 5 - ((t:Int)+1).toNat<5 - (t:Int).toNat;omega)];show fin (((((t:Int)+1).toNat+cnt (n / 128 ^ ((t:Int)+1).toNat):Nat):Int),l)=_;rw[e1,Nat.pow_succ,<- I7,hm,AtV h0];congr 2;omega
def Aw0 {ρ :Type} (N n:Nat) (hn:n<34359738368) (hN:16<N) (fin:List Int->Option ρ) (t:Nat) (l:List Int) (ht:t<=5) (hl:l.length<=2000000) :
 JB (X:=Int×List Int) (Y:=List Int) (U2 fun t6c l1008192c k3 x4 =>
      bif decide (t6c>0)then
       Vm.chk (decide (0<=u64.wrap (7*u64.wrap t6c)))
        (Vm.chk (decide ((l1008192c.length+1)*2<=140737488355328))
          (k3
            (i64.wrap (t6c - 1),
              l1008192c ++
               [u8.wrap
                (JF BinOp.or i64
                  (JF BinOp.and i64
                    ((n:Int).fdiv (2 ^ min (u64.wrap (7*u64.wrap t6c)).toNat 64)) 127)
                  128)])))
      else x4 l1008192c) N ((t:Int),l) fin=fin (l++ints (yU (n / 128) t)):=by
 refine ER (NU (I:=fun x:Int×List Int=> ∃(t:Nat) (l:List Int),x=((t:Int),l)/\t<=5/\l.length+t<=2000005) (μ :=fun x=>x.1.toNat) (F:=fun x=>fin (x.2++ints (yU (n / 128) x.1.toNat))) ?_ N ((t:Int),l) ⟨t,l,rfl,ht,by omega⟩ (by show(t:Int).toNat<N;omega)) rfl;rintro x ⟨t,l,rfl,h2,h3⟩ k hk;have ht:((t:Int)).toNat=t:=by omega
 cases t with
 | zero =>dsimp only[U2];rw[A50,cond_false];show _=fin (l++[]);rw[DX]
 | succ t =>
  dsimp only[U2];rw[sh7 n (t+1) (by omega),Di (show(0:Int)<=u64.wrap (7*u64.wrap ((t+1:Nat):Int)) by rw[wu64 (x:=((t+1:Nat):Int)) (by omega),wu64 (by omega)];omega),JI,Di (show((t+1:Nat):Int)>0 by omega),cond_true,Di,JI];have hd:n / 128 ^ (t+1)<=n:=Nat.div_le_self _ _;rw[AoL _,A4o _ (by omega),w8,w64,ht];have e1:(((t+1:Nat):Int) - 1).toNat=t:=by omega
  rw[hk _ ⟨t,_,by congr 1;omega,by omega,by rw[Dp,List.length_singleton];omega⟩ (by show(((t+1:Nat):Int) - 1).toNat<((t+1:Nat):Int).toNat;omega)];show fin ((l++_)++ints (yU (n / 128) (((t+1:Nat):Int) - 1).toNat))=fin (l++ints ((n / 128 / 128 ^ t % 128+128)::yU (n / 128) t));rw[e1,div_pow,DZ];congr 2;show _=((n / 128 / 128 ^ t % 128+128:Nat):Int)::ints (yU (n / 128) t);rw[show(((n / 128 / 128 ^ t % 128+128:Nat):Int)) % 256=((n / 128 / 128 ^ t % 128+128:Nat):Int) by omega];rfl
def AjI (N:Nat) (l:List Int) (n:Nat) (hn:n<34359738368) (hN:16<N) (hl:l.length<=1000000):Aaz N l (n:Int)=some (l++ints (sJ n)):=by
 unfold Aaz;try simp -zeta only[Ap]
 have hc:cnt (n / 128)<=4:=cnt_le 4 _ (by omega);have h1:=A2n 4 (n / 128) (by omega);rw[A2t N n l hn hN];dsimp only[U2];rw[w64,show((1+cnt (n / 128):Nat):Int) - 1=((cnt (n / 128):Nat):Int) by omega,Aw0 N n hn hN _ _ _ (by omega) (by omega),h1];have hlen:(l++ints (hi (n / 128))).length<=1000004:=by rw[Dp,ND];show l.length+cnt (n / 128)<=_;omega
 rw[Di,JI,AoL _,w8,show(((n % 128:Nat):Int)) % 256=((n % 128:Nat):Int) by omega,DZ];unfold sJ ints;rw[EX];rfl
def A4i: ∀(k m:Nat),m<128 ^ k-> ∀ x∈hi m,x<256:=by
 intro k
 induction k with
 | zero =>intro m h x hx;rw[Nat.pow_zero]at h;rw[show m=0 by omega,Ap7]at hx;cases hx
 | succ k ih =>
  intro m h x hx;by_cases h0:m=0
  .rw[h0,Ap7]at hx;cases hx
  .rw[Azj h0,DK,DR]at hx;rcases hx with hx | rfl
   .exact ih _ (by rw[Nat.pow_succ]at h;omega) x hx
   .omega
def Ati (n:Nat) (h:n<34359738368): ∀ x∈sJ n,x<256:=by
 intro x hx;unfold sJ at hx;rw[DK,DR]at hx;rcases hx with hx | rfl
 .exact A4i 5 _ (by omega) x hx
 .omega
def AbZ (n:Nat) (h:n<34359738368):(sJ n).length<=5:=by unfold sJ;rw[Dp];have:=cnt_le 4 (n / 128) (by omega);unfold cnt at this;simp only[List.length_singleton];omega
def AdL (l:List Nat):List Nat:=sJ (40*l.getD 0 0+l.getD 1 0)++(l.drop 2).flatMap sJ
def encR:Option (List Nat)->Bs×Int
 | none=>([],11)
 | some l=>((AdL l).map UInt8.ofNat,0)
def AaR {s:Bs} {l:List Nat} (h:Oq s=some l):2<=l.length/\l.length<=12/\(∀ x∈l,x<=2147483647)/\Wj l=true:=by
 unfold Oq at h;split at h
 .cases h
 .cases hm:Rj TJ (KL 46 s)with
  | none=>rw[hm]at h;cases h
  | some r =>
   rw[hm]at h;dsimp only at h;split at h
   .rename_i hr;injection h with h;subst h;have hl:=Ah9 hm;refine⟨by omega,by omega,fun x hx=> ?_,hr⟩;obtain⟨a,_,ha⟩:=Az5 hm x hx;exact A1d ha
   .cases h
def Ahq {l:List Nat} (h1:2<=l.length) (h2: ∀ x∈l,x<=2147483647) (h3:Wj l=true):40*l.getD 0 0+l.getD 1 0<34359738368/\l.getD 0 0<=2/\l.getD 1 0<=2147483647:=by have:=h2 (l.getD 1 0) (by rw[getD_lt l 1 0];exact Eo _);unfold Wj at h3;simp only[EE,Dq,D5]at h3;omega
def AwX {l:List Nat} (h: ∀ x∈l,x<256):(ints l).all Vm.isByte=true/\(ints l).map Vm.byteOf=l.map UInt8.ofNat:=by
 constructor
 .rw[D8];intro x hx;obtain⟨n,hn,rfl⟩:=DI.1 hx;have:=h n hn;unfold Vm.isByte;simp only[Dq,D5];omega
 .unfold ints;rw[Fh];rfl
def A1t {l:List Nat} (h1:2<=l.length) (h2: ∀ x∈l,x<=2147483647) (h3:Wj l=true): ∀ x∈AdL l,x<256:=by
 intro x hx;unfold AdL at hx;rw[DK]at hx;rcases hx with hx | hx
 .exact Ati _ (Ahq h1 h2 h3).1 x hx
 .obtain⟨n,hn,hx⟩:=Ep.1 hx;have:=h2 n (GI hn);exact Ati n (by omega) x hx
def vI (l:List Nat) (i:Nat):(ints l).getD i 0=((l.getD i 0:Nat):Int):=by
 unfold ints;by_cases h:i<l.length
 .rw[getD_lt _ _ _ (by rw[Dz];exact h),getD_lt _ _ _ h,FV]
 .rw[Dj,Dj,Ed (by rw[Dz];omega),Ed (by omega)];rfl
def Azr (l:List Nat):JD (ints l) 2 (ints l).length=ints (l.drop 2):=by unfold JD ints;rw[ED,List.map_drop]
def Ah2 (a b:List Nat):ints (a++b)=ints a++ints b:=by unfold ints;rw[EX]
def AwJ (f:Nat->List Nat): ∀(l:List Nat) (a:List Int),l.foldl (fun a n=>a++ints (f n)) a=a++ints (l.flatMap f):=by
 intro l
 induction l with
 | nil=>intro a;show a=a++[];rw[DX]
 | cons x r ih =>intro a;rw[List.foldl_cons,ih,Ho,Ah2,DZ]
def Azf (f:Nat->List Nat) (k:Nat): ∀(l:List Nat),(∀ x∈l,(f x).length<=k)->(l.flatMap f).length<=k*l.length:=by
 intro l
 induction l with
 | nil=>intro _;exact DN _
 | cons x r ih =>intro h;rw[Ho,Dp,List.length_cons,Nat.mul_succ];have:=ih (fun y hy=>h y (Dx _ hy));have:=h x Dv;omega
def A0g {X E S ρ :Type} {g:S->E->S} {e:E} {s:S} {b:(X->Option ρ)->Option ρ} {nx:S->X} {I:S->Prop} (h:(∀ k,b k=k (nx (g s e)))/\I (g s e)):AaK b nx I (nV some g (none:Option ρ) e s):=h
def Axt {α :Type}: ∀ l:List α,Rj some l=some l:=by
 intro l
 induction l with
 | nil=>rfl
 | cons a r ih=>rw[iD,ih];rfl
def Acz (N:Nat) (s:Bs) (hN:16<N) (hs:s.length<=1048576):QH N s=some (encR (Oq s)):=by
 unfold QH;try simp -zeta only[Ap]
 rw[AgH N s hN hs,Jt];cases ha:Oq s with
 | none=>rfl
 | some l =>
  obtain⟨h1,h2,h3,h4⟩:=AaR ha;have hf:=Ahq h1 h3 h4;show(bif (ints l).isEmpty then _ else _)=_;rw[show A3p (some l)=ints l from rfl,show(ints l).isEmpty=false by rw[GZ];exact⟨_,DI.2 ⟨l.getD 0 0,by rw[getD_lt l 0 0];exact Eo _,rfl⟩⟩,cond_false,ND,Di,JI,Di,JI,vI,vI];rw[w64 (x:=40*((l.getD 0 0:Nat):Int)),w64,show(40:Int)*((l.getD 0 0:Nat):Int)+((l.getD 1 0:Nat):Int)=((40*l.getD 0 0+l.getD 1 0:Nat):Int) by omega];dsimp only;rw[AjI N [] _ hf.1 hN (DN _),Jt];rw[Di,JI,<- ND l,Azr];generalize hd:l.drop 2=d;have hdl:d.length<=10:=by rw[<- hd,Ew];omega
  have hdm: ∀ x∈d,x<=2147483647:=fun x hx=>h3 x (GI (hd▸hx));refine ER (Uw (S:=List Int) (mk:=fun i a=>(i,a)) (out:=fun a=>a) d 0 (fun i a=>a.length<=5*(i+1)) (nV some (fun a n=>a++ints (sJ n)) none) ?_ ?_ N _ (by rw[List.nil_append,ND];have:=AbZ _ hf.1;omega)) ?_
  .intro i a hi ha;rw[getD_lt d i 0 hi];have hn:=hdm d[i] (Eo hi);refine A0g ⟨fun k=> ?_,?_⟩
   .dsimp only[U2];rw[ND,Di,cond_true,Di,JI,JI,show((i:Int)).toNat=i by omega,vI,getD_lt d i 0 hi,AjI N a _ (by omega) hN (by omega),Jt,w64]
   .have:=AbZ d[i] (by omega);rw[Dp,ND];omega
  .intro a k ha;dsimp only[U2];rw[ND,A50,cond_false]
  .rw[AqG,Axt];dsimp only[Option.elim];rw[AwJ,List.nil_append,<- Ah2];have hb:=AwX (A1t h1 h3 h4);unfold AdL at hb;rw[hd]at hb;rw[hb.1,hb.2,JI];show _=some ((AdL l).map UInt8.ofNat,0);unfold AdL;rw[hd]
def Aku (N:Nat) (s:Bs) (hN:16<N) (hs:s.length<=1048576) (hl:s.length+1<N):Uh N s=some (Oq s).isSome/\PQ N s=some (Oq s).isSome:=by
 unfold Uh PQ;rw[AgH N s hN hs,AlQ N s hN hs hl,Jt,Jt];cases ha:Oq s with
 | none=>exact⟨rfl,rfl⟩
 | some l =>obtain⟨h1,h2,h3,h4⟩:=AaR ha;refine⟨?_,rfl⟩;show some (!(ints l).isEmpty)=_;rw[show(ints l).isEmpty=false by rw[GZ];exact⟨_,DI.2 ⟨l.getD 0 0,by rw[getD_lt l 0 0];exact Eo _,rfl⟩⟩];rfl
abbrev dd (n:Nat):Bs:=Lib.decDigits n
def pM {n:Nat} (h:n<10):dd n=[UInt8.ofNat (48+n)]:=Lib.decDigits_one h
def zW {n:Nat} (h: ¬ n<10):dd n=dd (n / 10)++[UInt8.ofNat (48+n % 10)]:=by show Lib.decDigits n=_;rw[Lib.decDigits,Jg h]
def Afx {k:Nat} (h:k<10):(UInt8.ofNat (48+k)).toNat=48+k:=by rw[F5];omega
def AsE {k:Nat} (h:k<10):Md (UInt8.ofNat (48+k))=true:=by unfold Md;rw[Afx h];simp only[Dq,D5];omega
def Ape (n:Nat):(dd n).all Md=true:=by
 induction n using Nat.strongRecOn with
 | _ n ih =>
  by_cases h:n<10
  .rw[pM h,List.all_cons,AsE h];rfl
  .rw[zW h,H8,ih (n / 10) (by omega),List.all_cons,AsE (by omega)];rfl
def A2M (n:Nat):OT (dd n)=n:=by
 induction n using Nat.strongRecOn with
 | _ n ih =>
  by_cases h:n<10
  .rw[pM h];show 10*0+((UInt8.ofNat (48+n)).toNat - 48)=n;rw[Afx h];omega
  .rw[zW h,AdG,ih (n / 10) (by omega),Afx (by omega)];omega
def A0D (n:Nat):dd n≠ []:=by
 by_cases h:n<10
 .rw[pM h];simp
 .rw[zW h];simp
def Aws (k n:Nat) (h:n<10 ^ (k+1)):1<=(dd n).length/\(dd n).length<=k+1:=by
 constructor
 .exact EO.2 (A0D n)
 .induction k generalizing n with
  | zero=>rw[pM (by simpa using h)];exact DV _
  | succ k ih =>
   by_cases h1:n<10
   .rw[pM h1];simp
   .rw[zW h1,Dp,List.length_singleton];have:=ih (n / 10) (by rw[Nat.pow_succ]at h;omega);omega
def A1m (n:Nat) (h:0<n):((dd n).getD 0 0).toNat≠48:=by
 induction n using Nat.strongRecOn with
 | _ n ih =>
  by_cases h1:n<10
  .rw[pM h1];show(UInt8.ofNat (48+n)).toNat≠48;rw[Afx h1];omega
  .have h2:=ih (n / 10) (by omega) (by omega);have h3:=EO.2 (A0D (n / 10));rw[zW h1,Dj,Es h3,<- Dj];exact h2
def A1c (n:Nat) (h:n<10000000000):TJ (dd n)=if n<=2147483647 then some n else none:=by
 have hl:=Aws 9 n (by omega);rw[AoM (Ape n),A2M]
 have h2: ¬(((dd n).getD 0 0).toNat=48/\1<(dd n).length):=by
  rintro ⟨h3,h4⟩;by_cases h0:n<10
  .rw[pM h0]at h4;simp at h4
  .exact A1m n (by omega) h3
 by_cases h5:n<=2147483647
 .rw[A51,Dn h5]
 .rw[A52,Dk h5]
def A0S (N n:Nat) (h:n<10000000000):strconv_Itoa N (n:Int)=some (dd n):=by unfold strconv_Itoa;rw[Di,Di];show some (Lib.itoa (n:Int))=_;unfold Lib.itoa;rw[A51];rfl
def Ns (lim:Nat):Bs->Nat->Bool->List Nat->Option (List Nat)
 | [],_,mid,acc=>if mid=true then none else some acc
 | b::r,cur,mid,acc =>
  if mid=false/\b.toNat=128 then none
  else if lim<cur*128+b.toNat % 128 then none
  else if 128<=b.toNat then Ns lim r (cur*128+b.toNat % 128) true acc
  else Ns lim r 0 false (acc++[cur*128+b.toNat % 128])
def Nu (lim:Nat) (b:UInt8) (r:Bs) (cur:Nat) (mid:Bool) (acc:List Nat):Ns lim (b::r) cur mid acc=if mid=false/\b.toNat=128 then none
 else if lim<cur*128+b.toNat % 128 then none
 else if 128<=b.toNat then Ns lim r (cur*128+b.toNat % 128) true acc
 else Ns lim r 0 false (acc++[cur*128+b.toNat % 128]):=rfl
def or7 (t b:Nat) (ht:t<36028797018963968) (hb:b<128):JF .or .i64 (((t*128:Nat)):Int) (b:Int)=((t*128+b:Nat):Int):=by
 have e: ∀ n:Nat,n<2 ^ 64->(BitVec.ofInt 64 (n:Int))=BitVec.ofNat 64 n:=fun n _=>by simp
 show i64.wrap _=_;rw[show(BitVec.ofInt (i64).bits ((t*128:Nat):Int))=BitVec.ofNat 64 (t*128)from e _ (by omega),show(BitVec.ofInt (i64).bits ((b:Nat):Int))=BitVec.ofNat 64 b from e _ (by omega)];show i64.wrap (((BitVec.ofNat 64 (t*128)) ||| (BitVec.ofNat 64 b)).toNat:Int)=_;rw[BitVec.toNat_or,Gf,Gf,F6 (by omega),F6 (by omega)];rw[show t*128=t <<< 7 by rw[GL],<- G5 (by omega:b<2 ^ 7),GL];exact w64
def numO:Option (List Nat)->Option (List Int)
 | none=>some []
 | some l=>some (ints l)
def AzD (v:Nat) (hv:v<=4294967294) (b:UInt8):JF BinOp.or i64 (i64.wrap ((v:Int)*128)) (JF BinOp.and i64 (i64.wrap (b.toNat:Int)) 127)=((v*128+b.toNat % 128:Nat):Int):=by have:=o6 b;rw[w64 (x:=(b.toNat:Int)),AoL _,w64,show(v:Int)*128=((v*128:Nat):Int) by omega,or7 _ _ (by omega) (by omega)]
def AzC {ρ :Type} (N:Nat) (s:Bs) (hN:s.length+1<N) (hs:s.length<=1048576) (G:Option (List Nat)->Option ρ) (kx:Int×List Int->Option ρ) (bad:Option ρ) (hbad:G none=bad)
 (i:Nat) (acc:List Nat) (hi:i<=s.length) (ha:acc.length<=i)
 (hk: ∀(j:Nat) (a:List Nat),i<j->j<=s.length->a.length<=j->kx ((j:Int),ints a)=G (Ns 4294967294 (s.drop j) 0 false a)) :
 JB (X:=Int×Int×List Int) (Y:=(Int×List Int) ⊕ Unit) (U3 fun t4b t5b l1004096b k3 x4 =>
         bif decide (t4b< ↑(List.length s))then
          Vm.chk (decide (0<=t4b))
           (Vm.chk (decide (t4b< ↑(List.length s)))
             (bif
               decide
                (JF BinOp.or i64 (i64.wrap (t5b*128))
                  (JF BinOp.and i64 (i64.wrap ↑(List.getD s t4b.toNat 0).toNat)
                    127) >
                  4294967294)then
               bad
             else
              bif decide (i64.wrap ↑(List.getD s t4b.toNat 0).toNat<128)then
               Vm.chk (decide ((l1004096b.length+1)*9<=140737488355328))
                (x4
                  (Sum.inl
                    (i64.wrap (t4b+1),
                      l1004096b ++
                       [JF BinOp.or i64 (i64.wrap (t5b*128))
                        (JF BinOp.and i64
                          (i64.wrap ↑(List.getD s t4b.toNat 0).toNat) 127)])))
              else
               k3
                (i64.wrap (t4b+1),
                  JF BinOp.or i64 (i64.wrap (t5b*128))
                   (JF BinOp.and i64 (i64.wrap ↑(List.getD s t4b.toNat 0).toNat)
                     127),
                  l1004096b)))
         else x4 (Sum.inr ())) N ((i:Int),0,ints acc) (Sum.elim (U2 fun t4c l42240c=>kx (t4c,l42240c)) fun x=>bad)=G (Ns 4294967294 (s.drop i) 0 true acc):=by
 refine ER (NU (I:=fun x:Int×Int×List Int=> ∃(j v:Nat),x=((j:Int),(v:Int),ints acc)/\i<=j/\j<=s.length/\v<=4294967294) (μ :=fun x=>s.length - x.1.toNat) (F:=fun x=>G (Ns 4294967294 (s.drop x.1.toNat) x.2.1.toNat true acc)) ?_ N _ ⟨i,0,rfl,DV _,hi,by omega⟩ (by show s.length - ((i:Int)).toNat<N;omega)) ?_
 .rintro x ⟨j,v,rfl,h1,h2,h3⟩ k hk2;dsimp only[U3];rw[show((j:Int)).toNat=j by omega,show((v:Int)).toNat=v by omega];by_cases hl:j<s.length
  .have hg:s.getD j 0=s[j]:=getD_lt s j 0 hl;have hb:=o6 s[j];rw[hg,AzD v h3,E8 hl,Nu,Dk (fun h=>by cases h.1),Di,cond_true,Di,JI,JI];by_cases hv:4294967294<v*128+s[j].toNat % 128
   .rw[Dn hv,Di,cond_true,hbad]
   .rw[Dk hv,A50,cond_false,w64 (x:=(s[j].toNat:Int)),w64];by_cases hc:128<=s[j].toNat
    .rw[Dn hc,A50,cond_false,show((j:Int)+1)=((j+1:Nat):Int)from rfl,hk2 _ ⟨j+1,_,rfl,by omega,by omega,by omega⟩ (by show s.length - ((j+1:Nat):Int).toNat<s.length - ((j:Int)).toNat;omega)];show G (Ns _ (s.drop ((j+1:Nat):Int).toNat) ((v*128+s[j].toNat % 128:Nat):Int).toNat true acc)=_;rw[show((j+1:Nat):Int).toNat=j+1 by omega,show((v*128+s[j].toNat % 128:Nat):Int).toNat=v*128+s[j].toNat % 128 by omega]
    .rw[Dk hc,Di,cond_true,ND,Di,JI];show kx ((j:Int)+1,ints acc++ints [v*128+s[j].toNat % 128])=_;rw[<- Ah2];exact hk (j+1) _ (by omega) (by omega) (by rw[Dp,List.length_singleton];omega)
  .rw[A50,cond_false,show j=s.length by omega,Gv];show bad=G none;exact hbad.symm
 .show G (Ns _ (s.drop ((i:Int)).toNat) (0:Int).toNat true acc)=_;rw[show((i:Int)).toNat=i by omega];rfl
def Al8 (N:Nat) (s:Bs) (hs:s.length<=1048576) (hN:s.length+1<N):eY N s=numO (Ns 4294967294 s 0 false []):=by
 unfold eY;try simp -zeta only[Ap]
 refine ER (NU (I:=fun x:Int×List Int=> ∃(j:Nat) (a:List Nat),x=((j:Int),ints a)/\j<=s.length/\a.length<=j) (μ :=fun x=>s.length - x.1.toNat) (F:=fun x=>numO (Ns 4294967294 (s.drop x.1.toNat) 0 false (x.2.map Int.toNat))) ?_ N _ ⟨0,[],rfl,DN _,DN _⟩ (by show s.length - 0<N;omega)) rfl;rintro x ⟨j,a,rfl,h1,h2⟩ k hk;dsimp only[U2];have hmap: ∀ a:List Nat,(ints a).map Int.toNat=a:=by intro a;unfold ints;rw[Fh];exact(E5 fun x _=>by rfl).trans (Gp _)
 rw[show((j:Int)).toNat=j by omega,hmap];by_cases hl:j<s.length
 .have hg:s.getD j 0=s[j]:=getD_lt s j 0 hl;have hb:=o6 s[j];rw[hg,Di,cond_true,Di,JI,JI];by_cases h8:s[j].toNat=128
  .rw[E8 hl,Nu,Dn ⟨rfl,h8⟩,h8];rfl
  .have hbe:(((s[j].toNat:Nat):Int)==128)=false:=by
    apply G7.2;intro h;have:=FB h;omega
   rw[hbe,cond_false];have he:Ns 4294967294 (s.drop j) 0 false a=Ns 4294967294 (s.drop j) 0 true a:=by rw[E8 hl,Nu,Nu];simp only[h8,and_false,Gz]
   rw[he];refine AzC N s hN hs numO k (some []) rfl j a h1 h2 ?_;intro i a' hi1 hi2 ha';rw[hk _ ⟨i,a',rfl,hi2,ha'⟩ (by show s.length - ((i:Int)).toNat<s.length - ((j:Int)).toNat;omega)];show numO (Ns _ (s.drop ((i:Int)).toNat) 0 false ((ints a').map Int.toNat))=_;rw[hmap,show((i:Int)).toNat=i by omega]
 .rw[A50,cond_false,show j=s.length by omega,Gv];rfl
def Ug (lim:Nat): ∀(s:Bs) (cur:Nat) (mid:Bool) (acc l:List Nat),Ns lim s cur mid acc=some l-> ∃ t,l=acc++t:=by
 intro s
 induction s with
 | nil =>
  intro cur mid acc l h;cases mid with
  | true=>cases h
  | false=>injection h with h;exact⟨[],by rw[DX];exact h.symm⟩
 | cons b r ih =>
  intro cur mid acc l h;rw[Nu]at h;split at h
  .cases h
  .split at h
   .cases h
   .split at h
    .exact ih _ _ _ _ h
    .obtain⟨t,rfl⟩:=ih _ _ _ _ h;exact⟨_,DZ _ _ _⟩
def Ax1 (lim m:Nat): ∀(s:Bs) (v:Nat) (acc l:List Nat),m<v->Ns lim s v true acc=some l-> ∃ x∈l,m<x:=by
 intro s
 induction s with
 | nil=>intro v acc l _ h;cases h
 | cons b r ih =>
  intro v acc l hv h;rw[Nu]at h;split at h
  .cases h
  .split at h
   .cases h
   .split at h
    .exact ih _ _ _ (by omega) h
    .obtain⟨t,rfl⟩:=Ug _ _ _ _ _ _ h;exact⟨_,D9 _ (DF _ Dv),by omega⟩
def upTo (m:Nat) (l:List Nat):Option (List Nat):=if ∀ x∈l,x<=m then some l else none
def Ax2 (lim m:Nat) (hm:m<=lim): ∀(s:Bs) (cur:Nat) (mid:Bool) (acc:List Nat),(∀ x∈acc,x<=m)->Ns m s cur mid acc=(Ns lim s cur mid acc).bind (upTo m):=by
 intro s
 induction s with
 | nil =>
  intro cur mid acc ha;cases mid with
  | true=>rfl
  | false=>show some acc=upTo m acc;unfold upTo;rw[Dn ha]
 | cons b r ih =>
  intro cur mid acc ha;rw[Nu,Nu];by_cases h1:mid=false/\b.toNat=128
  .rw[Dn h1,Dn h1];rfl
  .rw[Dk h1,Dk h1];by_cases h2:lim<cur*128+b.toNat % 128
   .rw[Dn h2,A52];rfl
   .rw[Dk h2];by_cases h3:m<cur*128+b.toNat % 128
    .rw[Dn h3]
     have key: ∀ q:Option (List Nat),(∀ l,q=some l-> ∃ x∈l,m<x)->none=q.bind (upTo m):=by
      intro q hq;cases q with
      | none=>rfl
      | some l =>obtain⟨x,h4,h5⟩:=hq l rfl;show none=upTo m l;unfold upTo;rw[Dk (fun h=>by have:=h x h4;omega)]
     refine key _ fun l hl=> ?_;split at hl
     .exact Ax1 _ _ _ _ _ _ h3 hl
     .obtain⟨t,rfl⟩:=Ug _ _ _ _ _ _ hl;exact⟨_,D9 _ (DF _ Dv),h3⟩
    .rw[Dk h3];split
     .exact ih _ _ _ ha
     .refine ih _ _ _ fun x hx=> ?_;rcases DK.1 hx with hx | hx
      .exact ha x hx
      .rw[DR]at hx;omega
def two (l:List Nat):List Nat:=match l with
 | []=>[]
 | n::t=>(if 2<n / 40 then 2 else n / 40)::(n - 40*(if 2<n / 40 then 2 else n / 40))::t
def nZ (a:List Nat):Bs:=([46]:Bs).intercalate (a.map dd)
def Ajw (x y:Bs) (r:List Bs):([46]:Bs).intercalate (x::y::r)=x++46::([46]:Bs).intercalate (y::r):=by simp [List.intercalate]
def Av7: ∀(a:List Nat),a≠ []->KL 46 (nZ a)=a.map dd:=by
 intro a
 induction a with
 | nil=>intro h;exact absurd rfl h
 | cons n r ih =>
  intro _;cases r with
  | nil =>show KL 46 (([46]:Bs).intercalate [dd n])=_;rw[show([46]:Bs).intercalate [dd n]=dd n by simp [List.intercalate],yQ _ _ (mO (Ape n))];rfl
  | cons m r =>show KL 46 (([46]:Bs).intercalate (dd n::dd m::r.map dd))=_;rw[Ajw,Afh _ _ _ (mO (Ape n))];have:=ih (by simp);unfold nZ at this;rw[Ee]at this;rw[this];rfl
def A1J: ∀(a:List Nat),(∀ x∈a,x<10000000000)->Rj TJ (a.map dd)=upTo 2147483647 a:=by
 intro a
 induction a with
 | nil=>intro _;rfl
 | cons n r ih =>
  intro h;rw[Ee,iD,A1c n (h n Dv),ih (fun x hx=>h x (Dx _ hx))];unfold upTo;by_cases h1:n<=2147483647
  .rw[Dn h1];by_cases h2: ∀ x∈r,x<=2147483647
   .rw[Dn h2,Dn (fun x hx=>(D7.1 hx).elim (fun e=>e▸h1) (h2 x))];rfl
   .rw[Dk h2,Dk (fun h=>h2 fun x hx=>h x (Dx _ hx))];rfl
  .rw[Dk h1,Dk (show ¬ ∀ x∈n::r,x<=2147483647 from fun h=>h1 (h n Dv))];rfl
def Atl {l:List Nat} (h:l≠ []):(two l).length=l.length+1:=by
 cases l with
 | nil=>exact absurd rfl h
 | cons n t=>rfl
def A0s {l:List Nat} (h:l≠ []):Wj (two l)=true:=by
 cases l with
 | nil=>exact absurd rfl h
 | cons n t =>show(decide ((if 2<n / 40 then 2 else n / 40)<=1)&&decide (n - 40*(if 2<n / 40 then 2 else n / 40)<=39)||decide ((if 2<n / 40 then 2 else n / 40)=2))=true;simp only[EE,Dq,D5];split<;>omega
def Aye {l:List Nat} {m:Nat} (hm:2<=m) (h: ∀ x∈l,x<m): ∀ x∈two l,x<m+1:=by
 cases l with
 | nil=>intro x hx;cases hx
 | cons n t =>
  intro x hx;have hn:=h n Dv;rcases D7.1 hx with rfl | hx
  .split<;>omega
  .rcases D7.1 hx with rfl | hx
   .omega
   .have:=h x (Dx _ hx);omega
def Awa {l:List Nat} (h:l≠ []) (h1:l.length<=11) (h2: ∀ x∈l,x<9999999999):Oq (nZ (two l))=upTo 2147483647 (two l):=by
 have hl:=Atl h;unfold Oq;rw[Av7 _ (by intro e;rw[e]at hl;simp at hl),Dz,Dk (by have:=EO.2 h;omega),A1J _ (Aye (by omega) h2)];unfold upTo;by_cases h3: ∀ x∈two l,x<=2147483647
 .rw[Dn h3];dsimp only;rw[Dn (A0s h)]
 .rw[Dk h3]
def Vp (s:Bs):Option (List Nat):=(Ns 4294967294 s 0 false []).bind fun l=>if l.length=0\/11<l.length then none else upTo 2147483647 (two l)
def SI:Option (List Nat)->Bs×Int
 | none=>([],11)
 | some a=>(nZ a,0)
def ApZ {lim:Nat} {s:Bs} {l:List Nat} (h:Ns lim s 0 false []=some l): ∀ x∈l,x<=lim:=by
 have h1:=Ax2 lim lim (DV _) s 0 false [] (fun x hx=>by cases hx);rw[h]at h1;have h2:some l=upTo lim l:=h1;unfold upTo at h2;split at h2
 .assumption
 .cases h2
def AqV: ∀(a:List Nat),(∀ x∈a,x<10000000000)->(nZ a).length<=11*a.length:=by
 intro a
 induction a with
 | nil=>intro _;exact DV _
 | cons n r ih =>
  intro h;have h1:=Aws 9 n (by have:=h n Dv;omega);cases r with
  | nil =>show(([46]:Bs).intercalate [dd n]).length<=_;rw[show([46]:Bs).intercalate [dd n]=dd n by simp [List.intercalate]];simp only[List.length_singleton];omega
  | cons m r =>have h2:=ih (fun x hx=>h x (Dx _ hx));show(([46]:Bs).intercalate (dd n::dd m::r.map dd)).length<=_;rw[Ajw,Dp,List.length_cons];unfold nZ at h2;rw[Ee]at h2;simp only[List.length_cons]at h2 ⊢;omega
def AwY (l:List Nat) (k:Nat):JD (ints l) k (ints l).length=ints (l.drop k):=by unfold JD ints;rw[ED,List.map_drop]
def ApI (n:Nat):Option Bs:=if n<=2147483647 then some (dd n)else none
def Az4: ∀ a:List Nat,Rj ApI a=(upTo 2147483647 a).map (List.map dd):=by
 intro a
 induction a with
 | nil=>rfl
 | cons n r ih =>
  rw[iD,ih];unfold ApI upTo;by_cases h1:n<=2147483647
  .rw[Dn h1];by_cases h2: ∀ x∈r,x<=2147483647
   .rw[Dn h2,Dn (fun x hx=>(D7.1 hx).elim (fun e=>e▸h1) (h2 x))];rfl
   .rw[Dk h2,Dk (fun h=>h2 fun x hx=>h x (Dx _ hx))];rfl
  .rw[Dk h1,Dk (show ¬ ∀ x∈n::r,x<=2147483647 from fun h=>h1 (h n Dv))];rfl
def A2o (n:Nat) (hn:n<=4294967294):(bif decide ((2:Int)<i64.wrap (((n:Nat):Int).tdiv 40))then(2:Int)else i64.wrap (((n:Nat):Int).tdiv 40))=(((if 2<n / 40 then 2 else n / 40:Nat)):Int):=by
 rw[show((n:Int)).tdiv 40=((n / 40:Nat):Int)from rfl,w64];by_cases h:2<n / 40
 .rw[Di,Dn h];rfl
 .rw[A50,Dk h];rfl
def A0r (n:Nat) (hn:n<=4294967294):i64.wrap (((n:Nat):Int) - i64.wrap (40*(((if 2<n / 40 then 2 else n / 40:Nat)):Int)))=((n - 40*(if 2<n / 40 then 2 else n / 40):Nat):Int):=by
 have h:40*(if 2<n / 40 then 2 else n / 40)<=n:=by split<;>omega
 have h2:(if 2<n / 40 then 2 else n / 40)<=2:=by split<;>omega
 generalize (if 2<n / 40 then 2 else n / 40)=q at *
 rw[w64 (x:=40*(q:Int)),w64];omega
def Su (N:Nat) (s:Bs) (hs:s.length<=1048576) (hN:s.length+1<N:=by omega) (hN2:16<N:=by omega):SS N s=some (SI (Vp s)):=by
 unfold SS;try simp only[clR]
 rw[Al8 N s hs hN];unfold Vp;cases hsc:Ns 4294967294 s 0 false []with
 | none=>rfl
 | some l =>
  have hle:=ApZ hsc;rw[show numO (some l)=some (ints l)from rfl,Jt,ND];show _=some (SI (if l.length=0\/11<l.length then none else upTo 2147483647 (two l)));by_cases h0:l.length=0\/11<l.length
  .rw[Dn h0,show(((l.length:Nat):Int)==0||decide ((l.length:Int)>11))=true by
    rcases h0 with h0 | h0
    .rw[h0];rfl
    .rw[Di,EF]]
   rfl
  .have hb:(((l.length:Nat):Int)==0||decide ((l.length:Int)>11))=false:=by
    rw[A50,FP];apply G7.2;intro h;have:=FB h;omega
   rw[Dk h0,hb,cond_false]
   obtain⟨n,t,rfl⟩: ∃ n t,l=n::t:=by
    cases l with
    | nil=>exact absurd (Or.inl rfl) h0
    | cons n t=>exact⟨n,t,rfl⟩
   have hn:=hle n Dv;simp only[List.length_cons]at h0;have hc:JD (ints (n::t)) 1 (n::t).length=ints t:=by rw[<- ND (n::t),AwY];rfl
   rw[hc,show(ints (n::t)).getD 0 0=(n:Int)from rfl,A2o n hn,A0r n hn];have he: [(((if 2<n / 40 then 2 else n / 40:Nat)):Int),((n - 40*(if 2<n / 40 then 2 else n / 40):Nat):Int)]++ints t=ints (two (n::t)):=rfl;rw[he];have h2l:=Atl (l:=n::t) (by simp);have h2m:=Aye (m:=4294967295) (by omega) (fun x hx=>by have:=hle x hx;omega) (l:=n::t);simp only[List.length_cons]at h2l;rw[Di (by simp only[List.length_cons];omega),JI,JI,Di (by simp only[List.length_cons];omega),JI,Di (by rw[ND];omega),JI];generalize two (n::t)=e at *
   refine ER (Uw (S:=List Bs) (mk:=fun i a=>(i,ints e,a)) (out:=fun a=>a) e 0 (fun i a=>a.length=i) (nV ApI (fun a v=>a++[v]) (some ([],11))) ?_ ?_ N [] rfl) ?_
   .intro i a hi ha;rw[getD_lt e i 0 hi];have hx:=h2m e[i] (Eo hi);have key: ∀(A:Option (Bs×Int)) (K:Int->Option (Bs×Int)),(bif decide ((i:Int)<((ints e).length:Int))then Vm.chk (decide (0<=(i:Int))) (Vm.chk (decide ((i:Int)<((ints e).length:Int))) (Vm.chk (decide ((i:Int).toNat<(ints e).length)) (K ((ints e).getD (i:Int).toNat 0))))else A)=K ((e[i]:Nat):Int):=by intro A K;rw[ND,Di,cond_true,Di,JI,JI,show((i:Int)).toNat=i by omega,Di,JI,vI,getD_lt e i 0 hi]
    refine AqN (fun hv k=> ?_) (fun v hv=>⟨fun k=> ?_,by simp [ha]⟩)
    .unfold ApI at hv;split at hv
     .cases hv
     .dsimp only[U3];refine(key _ (fun y=>bif decide (y>2147483647)then some ([],11)else _)).trans ?_;rw[Di,cond_true]
    .unfold ApI at hv;split at hv
     .injection hv with hv;subst hv;dsimp only[U3];refine(key _ (fun y=>bif decide (y>2147483647)then some ([],11)else Jr (strconv_Itoa N y) _)).trans ?_;rw[A50,cond_false,A0S N _ (by omega),Jt,Di,JI,w64]
     .cases hv
   .intro a k ha;show(bif decide ((e.length:Int)<((ints e).length:Int))then _ else _)=_;rw[ND,A50,cond_false]
   .rw[AqG,Az4];have hf: ∀ l:List Bs,l.foldl (fun(a:List Bs) (v:Bs)=>a++[v]) []=l:=by intro l;rw[Am5 (fun x=>x),List.nil_append,List.map_id']
    unfold upTo;by_cases hu: ∀ x∈e,x<=2147483647
    .rw[Dn hu];dsimp only[Option.map,Option.elim];rw[hf];have htl:=AqV e (fun x hx=>by have:=hu x hx;omega);unfold nZ at htl;unfold strings_Join;rw[Dz,Di,Di];rfl
    .rw[Dk hu];rfl
def cc (acc:List Nat):Nat:=if acc=[]then 0 else acc.length+1
def AfF {E ρ :Type} (p:E->Bool) (bad:Option ρ) (fin:Unit->Option ρ): ∀ l:List E,RV (fun e (_:Unit)=>if p e=true then .inr ()else .inl bad) fin l ()=if l.all p=true then fin ()else bad:=by
 intro l
 induction l with
 | nil=>rfl
 | cons e r ih =>
  rw[List.all_cons];unfold RV;by_cases h:p e=true
  .rw[Dn h,h,FD];exact ih
  .rw[Dk h,Dk (by simp [h])]
def nX {X E ρ :Type} {p:E->Bool} {bad:Option ρ} {e:E} {b:(X->Option ρ)->Option ρ} {nx:Unit->X} {I:Unit->Prop} (h0:p e=false-> ∀ k,b k=bad) (h1:p e=true->(∀ k,b k=k (nx ()))/\I ()):AaK b nx I (if p e=true then .inr ()else .inl bad):=by
 cases h:p e with
 | true=>rw[Dn rfl];exact h1 h
 | false=>rw[Dk (by decide)];exact h0 h
def A4r:Bs:=[32,39,40,41,43,44,45,46,47,58,61,63]
def Adl (c:UInt8):Bool:=(decide (97<=c.toNat)&&decide (c.toNat<=122))||(decide (65<=c.toNat)&&decide (c.toNat<=90))||(decide (48<=c.toNat)&&decide (c.toNat<=57))
def prC (c:UInt8):Bool:=Adl c||A4r.any (· ==c)
def iaC (c:UInt8):Bool:=decide (32<=c.toNat)&&decide (c.toNat<=126)
def Aks {P:UInt8->Prop} (h: ∀ n:Fin 256,P (UInt8.ofNat n.val)) (c:UInt8):P c:=by have:=h ⟨c.toNat,Ib c⟩;rwa [Hq]at this
def Atu (N:Nat) (c:UInt8):Ub N (c.toNat:Int)=some (prC c):=by refine Aks (P:=fun c=>Ub N (c.toNat:Int)=some (prC c)) ?_ c;show ∀ n:Fin 256,Ub 0 ((UInt8.ofNat n.val).toNat:Int)=some (prC (UInt8.ofNat n.val));decide +kernel
def Atv (N:Nat) (c:UInt8):Uc N (c.toNat:Int)=some (iaC c):=by refine Aks (P:=fun c=>Uc N (c.toNat:Int)=some (iaC c)) ?_ c;show ∀ n:Fin 256,Uc 0 ((UInt8.ofNat n.val).toNat:Int)=some (iaC (UInt8.ofNat n.val));decide +kernel
def all_eq (N f:Nat) (s:Bs) (p:UInt8->Bool) (hf: ∀ c:UInt8,Afz N f (c.toNat:Int)=some (p c)) (hl:s.length<N) (hs:s.length<=1048576):Yt N s f=some (s.all p):=by
 unfold Yt;try simp -zeta only[Ap]
 refine ER (Uw (S:=Unit) (mk:=fun i _=>i) (out:=fun a=>a) s 0 (fun _ _=>True) (fun e (_:Unit)=>if p e=true then .inr ()else .inl (some false)) ?_ ?_ N () trivial hl) ?_
 .intro i a hi _;have key: ∀(A:Option Bool) (K:Bool->Option Bool),(bif decide ((i:Int)<(s.length:Int))then Vm.chk (decide (0<=(i:Int))) (Vm.chk (decide ((i:Int)<(s.length:Int))) (Jr (Afz N f ((s.getD (i:Int).toNat 0).toNat:Int)) K))else A)=K (p (s.getD i 0)):=by intro A K;rw[show((i:Int)).toNat=i by omega,Di,cond_true,Di,JI,JI,hf,Jt]
  refine nX (p:=p) (fun h k=> ?_) (fun h=>⟨fun k=> ?_,trivial⟩)
  .rw[key,h];rfl
  .rw[key,h,w64];rfl
 .intro a k _;rw[A50,cond_false]
 .rw[AfF];cases s.all p<;>rfl
def Ays (N:Nat) (s:Bs) (hl:s.length<N) (hs:s.length<=1048576):UO N 19 s=some (s.all prC):=by show Jr (Yt N s 246) (fun r=>some r)=_;rw[all_eq N 246 s prC (fun c=>Atu N c) hl hs];rfl
def Ayt (N:Nat) (s:Bs) (hl:s.length<N) (hs:s.length<=1048576):UO N 22 s=some (s.all iaC):=by show Jr (Yt N s 249) (fun r=>some r)=_;rw[all_eq N 249 s iaC (fun c=>Atv N c) hl hs];rfl
def chR (n b0 b1 b2 b3:Nat):Option Nat :=
 if b0<32\/b0=127 then none
 else if b0<128 then some 1
 else if 192<=b0/\b0<224 then
  (if n<=1\/b1 / 64≠2 then none
   else if b0 % 32*64+b1 % 64<128 then none else some 2)
 else if 224<=b0/\b0<240 then
  (if n<=2\/b1 / 64≠2\/b2 / 64≠2 then none
   else if b0 % 16*4096+b1 % 64*64+b2 % 64<2048\/(55296<=b0 % 16*4096+b1 % 64*64+b2 % 64/\b0 % 16*4096+b1 % 64*64+b2 % 64<57344)then none else some 3)
 else if 240<=b0/\b0<248 then
  (if n<=3\/b1 / 64≠2\/b2 / 64≠2\/b3 / 64≠2 then none
   else if b0 % 8*262144+b1 % 64*4096+b2 % 64*64+b3 % 64<65536\/1114111<b0 % 8*262144+b1 % 64*4096+b2 % 64*64+b3 % 64 then none else some 4)
 else none
set_option maxHeartbeats 4000000 in
def A2K (n b0 b1 b2 b3:Nat) (h0:b0<256) (h1:b1<256) (h2:b2<256) (h3:b3<256) :
 chR n b0 b1 b2 b3=if(Lib.decodeN n b0 b1 b2 b3).1<32\/(Lib.decodeN n b0 b1 b2 b3).1=127\/((Lib.decodeN n b0 b1 b2 b3).1=65533/\ ¬(3<=n/\b0=239/\b1=191/\b2=189))then none else some (Lib.decodeN n b0 b1 b2 b3).2:=by
 by_cases c1:b0<128
 .have hd:Lib.decodeN n b0 b1 b2 b3=(b0,1):=by unfold Lib.decodeN;rw[Dn c1]
  rw[hd];unfold chR;dsimp only;by_cases c2:b0<32\/b0=127
  .rw[Dn c2,A52]
  .rw[Dk c2,Dn c1,A51]
 .unfold chR Lib.decodeN;rw[Dk c1,A51,Dk c1];by_cases c2:192<=b0/\b0<224
  .rw[Dn c2];repeat' split
   all_goals first | rfl | (exfalso;dsimp only at *;omega)
  .rw[Dk c2,Dk (show ¬(b0 / 32=6/\(1<n/\b1 / 64=2)) by omega)];by_cases c3:224<=b0/\b0<240
   .rw[Dn c3];repeat' split
    all_goals first | rfl | (exfalso;dsimp only at *;omega)
   .rw[Dk c3,Dk (show ¬(b0 / 16=14/\(1<n/\b1 / 64=2)/\(2<n/\b2 / 64=2)) by omega)];repeat' split
    all_goals first | rfl | (exfalso;dsimp only at *;omega)
def A2J (s:Bs) (i:Nat):Option Nat:=chR (s.length - i) (s.getD i 0).toNat (s.getD (i+1) 0).toNat (s.getD (i+2) 0).toNat (s.getD (i+3) 0).toNat
def AjK (s:Bs):Nat->Nat->Bool
 | 0,_=>true
 | n+1,i=>if i<s.length then(match A2J s i with
  | none=>false
  | some w=>AjK s n (i+w))else true
def Aqn (l:Bs):Lib.hasPrefix l [239,191,189]=true↔3<=l.length/\(l.getD 0 0).toNat=239/\(l.getD 1 0).toNat=191/\(l.getD 2 0).toNat=189:=by
 have hb: ∀(x:UInt8) (k:Nat),k<256->((UInt8.ofNat k==x)=true↔x.toNat=k):=by
  intro x k hk;rw[EN];constructor
  .intro h;rw[<- h,F5];omega
  .intro h;rw[<- h,Hq]
 match l with
 | []=>simp [Lib.hasPrefix,List.isPrefixOf]
 | [x]=>simp [Lib.hasPrefix,List.isPrefixOf]
 | [x,y]=>simp [Lib.hasPrefix,List.isPrefixOf]
 | x::y::z::r =>show((UInt8.ofNat 239==x)&&((UInt8.ofNat 191==y)&&((UInt8.ofNat 189==z)&&true)))=true↔3<=r.length+1+1+1/\x.toNat=239/\y.toNat=191/\z.toNat=189;rw[Dq,Dq,GN,hb _ _ (by decide),hb _ _ (by decide),hb _ _ (by decide)];exact⟨fun h=>⟨by omega,h⟩,fun h=>h.2⟩
def A3W (s:Bs): ∀(n i:Nat),Ud ⟨s.toArray⟩ n i=AjK s n i:=by
 intro n
 induction n with
 | zero=>intro i;rfl
 | succ n ih =>
  intro i;have hd:=Lib.decode_N ⟨s.toArray⟩ i;have hc:=A2K (s.length - i) (s.getD i 0).toNat (s.getD (i+1) 0).toNat (s.getD (i+2) 0).toNat (s.getD (i+3) 0).toNat (o6 _) (o6 _) (o6 _) (o6 _)
  have hp:=Aqn (s.drop i);rw[Ew,Lib.getD_dropU,Lib.getD_dropU,Lib.getD_dropU,Nat.add_zero]at hp;unfold Ud AjK;show(if i<s.length then _ else _)=_;by_cases hl:i<s.length
  .rw[Dn hl,Dn hl];show(let d:=Utf8.decode ⟨s.toArray⟩ i;if d.1<32\/d.1=127 then false else if d.1=65533/\Lib.hasPrefix (s.drop i) [239,191,189]=false then false else Ud ⟨s.toArray⟩ n (i+d.2))=_;unfold A2J;have hd':Utf8.decode ⟨s.toArray⟩ i=Lib.decodeN (s.length - i) (s.getD i 0).toNat (s.getD (i+1) 0).toNat (s.getD (i+2) 0).toNat (s.getD (i+3) 0).toNat:=hd;rw[hc,hd'];generalize Lib.decodeN (s.length - i) (s.getD i 0).toNat (s.getD (i+1) 0).toNat (s.getD (i+2) 0).toNat (s.getD (i+3) 0).toNat=d;dsimp only;by_cases h1:d.1<32\/d.1=127
   .rw[Dn h1,A52]
   .rw[Dk h1];by_cases h2:d.1=65533/\Lib.hasPrefix (s.drop i) [239,191,189]=false
    .have h3: ¬(3<=s.length - i/\(s.getD i 0).toNat=239/\(s.getD (i+1) 0).toNat=191/\(s.getD (i+2) 0).toNat=189):=fun h=>by
      have:=hp.2 h;rw[h2.2]at this;cases this
     rw[Dn h2,Dn (Or.inr (Or.inr ⟨h2.1,h3⟩))]
    .have h3: ¬(d.1<32\/d.1=127\/(d.1=65533/\ ¬(3<=s.length - i/\(s.getD i 0).toNat=239/\(s.getD (i+1) 0).toNat=191/\(s.getD (i+2) 0).toNat=189))):=by
      rintro (h | h | ⟨h,h4⟩)
      .exact h1 (Or.inl h)
      .exact h1 (Or.inr h)
      .refine h2 ⟨h,?_⟩;apply G7.2;intro h5;exact h4 (hp.1 h5)
     rw[Dk h2,Dk h3];exact ih _
  .rw[Dk hl,Dk hl]
def kP (t:Int) (s:Bs):Bool:=if t=12 then AjK s s.length 0 else if t=19 then s.all prC else if t=22 then s.all iaC else false
def Aog (N:Nat) (t:Int) (s:Bs) (hl:s.length<N) (hs:s.length<=1048576):UO N t s=some (kP t s):=by
 unfold kP;by_cases h1:t=12
 .subst h1;rw[Dn rfl];show Jr (Aci N s) (fun r=>some r)=_;unfold Aci;rw[Di];show some (AvL s)=_;unfold AvL;rw[A3W]
 .rw[Dk h1];by_cases h2:t=19
  .subst h2;rw[Dn rfl];exact Ays N s hl hs
  .rw[Dk h2];by_cases h3:t=22
   .subst h3;rw[Dn rfl];exact Ayt N s hl hs
   .rw[Dk h3];unfold UO;rw[show(t==12)=false from EP h1,show(t==19)=false from EP h2,show(t==22)=false from EP h3];rfl
abbrev Att:Type:=Bs×Int×Bs
def YO (e:Att) (seen:List Att):Int :=
 if Oq e.1=none then 11
 else if e.2.2=[]\/kP e.2.1 e.2.2=false then 13
 else if 64<e.2.2.length then 2
 else if seen.any (fun x=>x.1==e.1)=true then 10 else 0
def AxS (N:Nat) (q:List Att) (e:Att) (hl:q.length<N) (hs:q.length<=1048576) (fin:Unit->Option Int) :
 JB (X:=Int×Bs×Int×Bs) (Y:=Unit) (U4 fun t43b b33792_0b b33792_1b b33792_2b k3 x4 =>
         bif decide (t43b< ↑q.length)then
          Vm.chk (decide (0<=t43b))
           (Vm.chk (decide (t43b< ↑q.length))
             (bif (q.getD t43b.toNat ([],0,[])).1==b33792_0b then
               some 10
             else k3 (i64.wrap (t43b+1),b33792_0b,b33792_1b,b33792_2b)))
         else x4 ()) N (0,e.1,e.2.1,e.2.2) fin=if q.any (fun x=>x.1==e.1)=true then some 10 else fin ():=by
 refine ER (Uw (S:=Unit) (mk:=fun i _=>(i,e.1,e.2.1,e.2.2)) (out:=fun a=>a) q ([],0,[]) (fun _ _=>True) (fun x (_:Unit)=>if(!(x.1==e.1))=true then .inr ()else .inl (some 10)) ?_ ?_ N () trivial hl) ?_
 .intro i a hi _;refine nX (p:=fun x:Att=> !(x.1==e.1)) (fun h k=> ?_) (fun h=>⟨fun k=> ?_,trivial⟩)
  .dsimp only[U4];have h':((q.getD i ([],0,[])).1==e.1)=true:=by simpa using h
   rw[show((i:Int)).toNat=i by omega,Di,cond_true,Di,JI,JI,h',cond_true]
  .dsimp only[U4];have h':((q.getD i ([],0,[])).1==e.1)=false:=by simpa using h
   rw[show((i:Int)).toNat=i by omega,Di,cond_true,Di,JI,JI,h',cond_false,w64]
 .intro a k _;dsimp only[U4];rw[A50,cond_false]
 .rw[AfF (p:=fun x:Att=> !(x.1==e.1))];rw[show q.any (fun x=>x.1==e.1)= !(q.all fun x=> !(x.1==e.1)) by rw[List.not_all_eq_any_not];simp];cases q.all fun x=> !(x.1==e.1)<;>rfl
def XI (e:Att):Prop:=e.1.length<=1048576/\e.2.2.length<=1048576
def bF (e:Att) (seen:List Att):Option Int ⊕ List Att:=if YO e seen=0 then .inr (seen++[e])else .inl (some (YO e seen))
def Avs (p:List Att):Option Int:=RV bF (fun _=>some 0) p []
def Af8 (v:Bs):(v==[])=decide (v=[]):=by cases v<;>rfl
def Asl (N:Nat) (p:List Att) (hN:1048578<N) (hp: ∀ e∈p,XI e):Np N p=if p=[]then some 14 else if 4<p.length then some 2 else Avs p:=by
 unfold Np;try simp only[clR]
 by_cases h0:p=[]
 .subst h0;rfl
 .have hpos:=EO.2 h0;have hb:(((p.length:Nat):Int)==0)=false:=EP (by omega);rw[hb,cond_false,Dk h0];by_cases h4:4<p.length
  .rw[Dn h4,Di,cond_true]
  .rw[Dk h4,A50,cond_false];refine vJ (S:=List Att) (mk:=fun i _=>i) p ([],0,[]) (fun i s=>s=p.take i) bF (fun _=>some 0) ?_ ?_ N [] rfl (by omega)
   .intro i s hi hs;subst hs;have hm:=hp p[i] (Eo hi);have hcut:JD p 0 i=p.take i:=rfl;have htk:p.take i++[p[i]]=p.take (i+1):=by rw[FO,DD hi];rfl
    have hlt:(p.take i).length<=4:=by rw[Eb];omega
    rw[getD_lt p i _ hi];generalize he:p[i]=e at hm htk;have ho:=(Aku N e.1 (by omega) hm.1 (by have:=hm.1;omega)).1;have ht:=Aog N e.2.1 e.2.2 (by have:=hm.2;omega) hm.2;have hsl:=fun fin=>AxS N (p.take i) e (by omega) (by omega) fin;unfold bF;by_cases a1:Oq e.1=none
    .have hat:YO e (p.take i)=11:=by unfold YO;rw[Dn a1]
     rw[hat,Dk (by decide)];intro k;dsimp only;rw[show((i:Int)).toNat=i by omega,getD_lt p i _ hi,he,Di (show(i:Int)<(p.length:Int) by omega),cond_true,Di (show(0:Int)<=(i:Int) by omega),JI,JI,ho,Jt,a1];rfl
    .have hsome:(Oq e.1).isSome=true:=by cases hq:Oq e.1 with
      | none=>exact absurd hq a1
      | some l=>rfl
     rw[hsome]at ho;by_cases a2:e.2.2=[]\/kP e.2.1 e.2.2=false
     .have hat:YO e (p.take i)=13:=by unfold YO;rw[Dk a1,Dn a2]
      rw[hat,Dk (by decide)];intro k;dsimp only;rw[show((i:Int)).toNat=i by omega,getD_lt p i _ hi,he,Di (show(i:Int)<(p.length:Int) by omega),cond_true,Di (show(0:Int)<=(i:Int) by omega),JI,JI,ho,Jt,ht,Af8];rcases a2 with a2 | a2
      .rw[Di a2];rfl
      .rw[a2];cases decide (e.2.2=[])<;>rfl
     .have a3: ¬ e.2.2=[]:=fun h=>a2 (Or.inl h)
      have a4:kP e.2.1 e.2.2=true:=by
       cases hq:kP e.2.1 e.2.2 with
       | true=>rfl
       | false=>exact absurd (Or.inr hq) a2
      by_cases a5:64<e.2.2.length
      .have hat:YO e (p.take i)=2:=by unfold YO;rw[Dk a1,Dk a2,Dn a5]
       rw[hat,Dk (by decide)];intro k;dsimp only;rw[show((i:Int)).toNat=i by omega,getD_lt p i _ hi,he,Di (show(i:Int)<(p.length:Int) by omega),cond_true,Di (show(0:Int)<=(i:Int) by omega),JI,JI,ho,Jt,ht,Af8,Dw a3,a4];rw[Di (show(e.2.2.length:Int)>64 by omega)];rfl
      .have hat:YO e (p.take i)=if(p.take i).any (fun x=>x.1==e.1)=true then 10 else 0:=by unfold YO;rw[Dk a1,Dk a2,Dk a5]
       have go: ∀ k:Int->Option Int,(bif decide ((i:Int)<(p.length:Int))then k (i64.wrap ((i:Int)+1))else none)=k ((i:Int)+1):=fun k=>by rw[Di,cond_true,w64]
       have hw:i64.wrap ((i:Int)+1)=(i:Int)+1:=w64;rw[hat];by_cases a6:(p.take i).any (fun x=>x.1==e.1)=true
       .rw[Dn a6,Dk (by decide)];intro k;dsimp only;rw[show((i:Int)).toNat=i by omega,getD_lt p i _ hi,he,Di (show(i:Int)<(p.length:Int) by omega),cond_true,Di (show(0:Int)<=(i:Int) by omega),JI,JI,ho,Jt,ht,Af8,Dw a3,a4,Dw (show ¬(e.2.2.length:Int)>64 by omega),Di (show(i:Int)<=(p.length:Int) by omega),hcut,hsl,Dn a6];rfl
       .rw[Dk a6,Dn rfl];refine⟨fun k=> ?_,htk⟩;dsimp only;rw[show((i:Int)).toNat=i by omega,getD_lt p i _ hi,he,Di (show(i:Int)<(p.length:Int) by omega),cond_true,Di (show(0:Int)<=(i:Int) by omega),JI,JI,ho,Jt,ht,Af8,Dw a3,a4,Dw (show ¬(e.2.2.length:Int)>64 by omega),Di (show(i:Int)<=(p.length:Int) by omega),hcut,hsl,Dk a6,hw];rfl
   .intro s k _;rw[A50,cond_false]
def AxL (p:List Att): ∃ v,Avs p=some v:=by
 have: ∀(l s:List Att),∃ v,RV bF (fun _=>some 0) l s=some v:=by
  intro l
  induction l with
  | nil=>intro s;exact⟨0,rfl⟩
  | cons e r ih =>
   intro s;unfold RV bF;by_cases h:YO e s=0
   .rw[Dn h];exact ih _
   .rw[Dk h];exact⟨_,rfl⟩
 exact this p []
def dN (p:List Att):Int:=if p=[]then 14 else if 4<p.length then 2 else(Avs p).getD 0
def A2b (N:Nat) (p:List Att) (hN:1048578<N) (hp: ∀ e∈p,XI e):Np N p=some (dN p):=by
 rw[Asl N p hN hp];unfold dN;obtain⟨v,hv⟩:=AxL p;rw[hv];split
 .rfl
 .split<;>rfl
def qQ (p:List Att) (_:Unit):Option Int ⊕ Unit:=if dN p=0 then .inr ()else .inl (some (dN p))
def Ab7 (n:List (List Att)):Option Int:=if 8<n.length then some 2 else RV qQ (fun _=>some 0) n ()
def Ua (n:List (List Att)):Prop:= ∀ p∈n,∀ e∈p,XI e
def AkQ (N:Nat) (n:List (List Att)) (hN:1048578<N) (hn:Ua n):MC N n=Ab7 n:=by
 unfold MC Ab7;try simp -zeta only[Ap]
 by_cases h8:8<n.length
 .rw[Dn h8,Di,cond_true]
 .rw[Dk h8,A50,cond_false];refine vJ (S:=Unit) (mk:=fun i _=>i) n [] (fun _ _=>True) qQ (fun _=>some 0) ?_ ?_ N () trivial (by omega)
  .intro i s hi _;rw[getD_lt n i [] hi];have hr:=A2b N n[i] hN (hn _ (Eo hi));unfold qQ;by_cases h:dN n[i]=0
   .rw[Dn h];refine⟨fun k=> ?_,trivial⟩;dsimp only;rw[show((i:Int)).toNat=i by omega,getD_lt n i [] hi,Di,cond_true,Di,JI,JI,hr,Jt,h,w64];rfl
   .rw[Dk h];intro k;dsimp only;rw[show((i:Int)).toNat=i by omega,getD_lt n i [] hi,Di,cond_true,Di,JI,JI,hr,Jt,show(dN n[i] != 0)=true from FK.2 h,cond_true]
  .intro s k _;rw[A50,cond_false]
def zA:Att:=([],0,[])
def oI (e:El):Att×Int :=
 bif e.1 != 48 then(zA,5)else bif (JQ e.2.1).2 != 0 then(zA,(JQ e.2.1).2)else
 match (JQ e.2.1).1 with
 | []=>(zA,3)
 | a::l=>bif a.1 != 6 then(zA,5)else bif (SI (Vp a.2.1)).2 != 0 then(zA,(SI (Vp a.2.1)).2)else
  match l with
  | []=>(zA,3)
  | b::m=>bif b.1 != 12&&b.1 != 19&&b.1 != 22 then(zA,5)else
   match m with
   | []=>(((SI (Vp a.2.1)).1,b.1,b.2.1),0)
   | _::_=>(zA,4)
def A1k (N:Nat) (e:El) (hN:1048578<N) (he:e.2.1.length<=1048576):Qk N e=some (oI e):=by
 unfold Qk;try simp only[clR]
 rw[MK N e.2.1];unfold oI;have hg:Good 1048576 (JQ e.2.1).1:=(KR e.2.1).mono he;generalize JQ e.2.1=r at hg ⊢;obtain⟨l,er⟩:=r;rw[<- Lr];refine OQ fun h0=> ?_;rw[Jt,<- Lr];refine OQ fun h1=> ?_
 match l,hg with
 | [],_=>rfl
 | [a],hg =>have ha:=(hg.all a (by simp)).content;have hlen: [a].length=1:=rfl;simp (disch:=omega) only[JH,hlen,Eh];rw[Su N _ (by omega)];simp (disch:=omega) only[JH,hlen,Eh];simp only[bne];cases a.1==6<;>cases (SI (Vp a.2.1)).2==0<;>rfl
 | [a,b],hg =>have ha:=(hg.all a (by simp)).content;have hlen: [a,b].length=2:=rfl;simp (disch:=omega) only[JH,hlen,Eh,FT];rw[Su N _ (by omega)];simp (disch:=omega) only[JH,hlen];simp only[bne];cases a.1==6<;>cases (SI (Vp a.2.1)).2==0<;>cases b.1==12<;>cases b.1==19<;>cases b.1==22<;>rfl
 | a::b::c::m,hg =>have ha:=(hg.all a (by simp)).content;have hlen:(a::b::c::m).length=m.length+3:=rfl;simp (disch:=omega) only[JH,hlen,Eh,FT];rw[Su N _ (by omega)];simp (disch:=omega) only[JH,hlen];simp only[bne];cases a.1==6<;>cases (SI (Vp a.2.1)).2==0<;>cases b.1==12<;>cases b.1==19<;>cases b.1==22<;>rfl
def Alp (c:UInt8):Bool:=Adl c||decide (c.toNat=45)
def Alq (s:Bs):Bool:= !(decide (s.length<1)||decide (63<s.length)||decide ((s.getD 0 0).toNat=45)||decide ((s.getD (s.length - 1) 0).toNat=45))&&s.all Alp
def Aam (N:Nat) (c:UInt8): ∃ a b,Tq N (c.toNat:Int)=some a/\SN N (c.toNat:Int)=some b/\(a||b)=Adl c:=by refine Aks (P:=fun c=> ∃ a b,Tq N (c.toNat:Int)=some a/\SN N (c.toNat:Int)=some b/\(a||b)=Adl c) ?_ c;intro n;refine⟨(Tq 0 ((UInt8.ofNat n.val).toNat:Int)).getD false,(SN 0 ((UInt8.ofNat n.val).toNat:Int)).getD false,?_⟩;show Tq 0 _=_/\SN 0 _=_/\_;revert n;decide +kernel
def Ant (N:Nat) (s:Bs) (hN:70<N) (hs:s.length<=1048576):mX N s=some (Alq s):=by
 unfold mX Alq;try simp only[clR]
 by_cases h1:s.length<1
 .have:s=[]:=Gy.1 (by omega);subst this;rfl
 .rw[Dw h1,Dw (show ¬(s.length:Int)<1 by omega),Di (show(0:Int)<(s.length:Int) by omega),w64,Di (show(0:Int)<=(s.length:Int) - 1 by omega),Di (show(s.length:Int) - 1<(s.length:Int) by omega),show((s.length:Int) - 1).toNat=s.length - 1 by omega];simp only[DU,JI,F7]
  have e1: ∀ c:UInt8,(((c.toNat:Nat):Int)==45)=decide (c.toNat=45):=fun c=>by
   by_cases h:c.toNat=45
   .rw[h];rfl
   .rw[Dw h];exact EP (by omega)
  rw[e1,e1,show decide ((s.length:Int)>63)=decide (63<s.length) by congr 1;apply propext;omega];generalize decide ((s.getD 0 0).toNat=45)=q1;generalize decide ((s.getD (s.length - 1) 0).toNat=45)=q2;by_cases h2:63<s.length
  .rw[Di h2];rfl
  .rw[Dw h2];cases q1<;>cases q2<;>first | rfl | skip
   rw[show(false||false||false)=false from rfl,cond_false,Di,JI];have hml:((s.map fun b=>((b.toNat:Nat):Int)).length)=s.length:=Dz ..;refine ER (Uw (S:=Unit) (mk:=fun i _=>(i,s.map fun b=>((b.toNat:Nat):Int))) (out:=fun a=>a) s 0 (fun _ _=>True) (fun e (_:Unit)=>if Alp e=true then .inr ()else .inl (some false)) ?_ ?_ N () trivial) ?_
   .intro i a hi _;obtain⟨x,y,hx,hy,hxy⟩:=Aam N (s.getD i 0);have hg:(s.map fun b=>((b.toNat:Nat):Int)).getD i 0=(((s.getD i 0).toNat:Nat):Int):=by rw[getD_lt _ i 0,getD_lt s i 0 hi,FV]
    have hne:((((s.getD i 0).toNat:Nat):Int) != 45)= !decide ((s.getD i 0).toNat=45):=by rw[bne,e1]
    refine nX (p:=Alp) (fun h k=> ?_) (fun h=>⟨fun k=> ?_,trivial⟩)
    .dsimp only[U2];unfold Alp at h;rw[hml,show((i:Int)).toNat=i by omega,Di,cond_true,Di,JI,Di,JI,hg,hx,Jt,hy,hne];rw[<- hxy]at h;generalize decide ((s.getD i 0).toNat=45)=z at h;cases x<;>cases y<;>cases z<;>first | rfl | (exact absurd h (by decide))
    .dsimp only[U2];unfold Alp at h;rw[hml,show((i:Int)).toNat=i by omega,Di,cond_true,Di,JI,Di,JI,hg,hx,Jt,hy,hne,w64];rw[<- hxy]at h;generalize decide ((s.getD i 0).toNat=45)=z at h;cases x<;>cases y<;>cases z<;>first | rfl | (exact absurd h (by decide))
   .intro a k _;dsimp only[U2];rw[hml,A50,cond_false]
   .rw[AfF];cases s.all Alp<;>rfl
def xP (s:Bs):Bool:= !decide (128<s.length)&&(KL 46 s).all Alq
def X4 (N:Nat) (s:Bs) (hN:200<N:=by omega):Qx N s=some (xP s):=by
 unfold Qx xP;try simp -zeta only[Ap]
 by_cases h:128<s.length
 .rw[Di h,Di (show(s.length:Int)>128 by omega),cond_true];rfl
 .rw[Dw h,Dw (show ¬(s.length:Int)>128 by omega),cond_false];have hsp:strings_Split N s [46]=some (KL 46 s):=by unfold strings_Split;rw[Di,AqM];rfl
  rw[hsp,Jt];have hlen:=Ace 46 s;generalize KL 46 s=p at hlen ⊢;refine ER (Uw (S:=Unit) (mk:=fun i _=>i) (out:=fun a=>a) p [] (fun _ _=>True) (fun e (_:Unit)=>if Alq e=true then .inr ()else .inl (some false)) ?_ ?_ N () trivial) ?_
  .intro i a hi _;have hm:=hlen.2.2 (p.getD i []) (by rw[getD_lt p i [] hi];exact Eo hi);have hlab:=Ant N (p.getD i []) (by omega) (by omega);refine nX (p:=Alq) (fun h k=> ?_) (fun h=>⟨fun k=> ?_,trivial⟩)
   .dsimp only;rw[show((i:Int)).toNat=i by omega,Di,cond_true,Di,JI,JI,hlab,Jt,h];rfl
   .dsimp only;rw[show((i:Int)).toNat=i by omega,Di,cond_true,Di,JI,JI,hlab,Jt,h,w64];rfl
  .intro a k _;dsimp only;rw[A50,cond_false]
  .rw[AfF];cases p.all Alq<;>rfl
def A47 (c:UInt8) (n:Nat) (hn:n<256):(((c.toNat:Nat):Int)==(n:Int))=(c==UInt8.ofNat n):=by
 by_cases h:c=UInt8.ofNat n
 .subst h;rw[ET,F5,show n % 2 ^ 8=n from F6 hn];exact ET _
 .rw[EP h];refine EP fun h2=>h ?_;apply GX.1;rw[F5,show n % 2 ^ 8=n from F6 hn];omega
def beq46 (c:UInt8):(((c.toNat:Nat):Int)==46)=(c==46):=A47 c 46 (by omega)
def contains_one (c:UInt8) (s:Bs):Lib.contains s [c]=s.contains c:=by
 unfold Lib.contains;rcases AdC c s with h | ⟨a,r,rfl,ha⟩
 .rw[index_none c s h];have:s.contains c=false:=by simpa using h
  rw[this];rfl
 .rw[Ah1 c a r ha];have:(a++c::r).contains c=true:=by simp
  rw[this];exact Di
def AlE (s:Bs):Bool:=bif Lib.hasPrefix s [42,46]then decide (s.length<=128)&&xP (s.drop 2)&&(s.drop 2).contains 46 else xP s
def A3R {s p:Bs} (h:Lib.hasPrefix s p=true):Lib.trimPrefix s p=s.drop p.length:=by unfold Lib.trimPrefix;rw[Dn h]
def A3Q {s p:Bs} (h:Lib.hasPrefix s p=false):Lib.trimPrefix s p=s:=by unfold Lib.trimPrefix;rw[Dk (by rw[h];decide)]
def Ajp (N:Nat) (s:Bs) (hN:1048578<N):VO N s=some (AlE s):=by
 unfold VO AlE strings_CutPrefix;try simp only[clR]
 rw[Jt];cases hp:Lib.hasPrefix s [42,46]with
 | false=>rw[A3Q hp,X4 N _];rfl
 | true =>
  rw[A3R hp,show s.drop ([42,46]:Bs).length=s.drop 2 from rfl];simp (disch:=omega) only[JH,X4,Azt,Option.getD_some];by_cases h:s.length<=128
  .unfold strings_Contains;rw[Di (show(s.drop 2).length<4294967281 by rw[Ew];omega),cond_true,contains_one,Ab9 h,Abh];rfl
  .rw[AuW (by omega),A0G (by omega)];simp [chk]
def Ak7 (s:Bs):Bool:=(s==[])||xP s
def Ap8 (N:Nat) (s:Bs) (hN:1048578<N):gY N s=some (Ak7 s):=by
 unfold gY Ak7;try simp only[clR]
 simp (disch:=omega) only[JH,X4,Option.isSome_some,Option.getD_some]
def Ao8:Bs:=[33,35,36,37,38,39,42,43,45,47,61,63,94,95,96,123,124,125,126,46]
def AuK (c:UInt8):Bool:=Adl c||Ao8.any (· ==c)
def dots:Bs->Bool
 | x::y::r=>(x==46&&y==46)||dots (y::r)
 | _=>false
def Ana: ∀ s:Bs,Lib.contains s [46,46]=dots s:=by
 have key: ∀ s:Bs,(Lib.index s [46,46]= -1/\dots s=false)\/(0<=Lib.index s [46,46]/\dots s=true):=by
  intro s
  induction s with
  | nil=>left;exact⟨rfl,rfl⟩
  | cons x r ih =>
   cases r with
   | nil =>left;refine⟨?_,rfl⟩;show(if List.isPrefixOf [46,46] [x]=true then(0:Int)else _)= -1;rw[Dk (by simp [List.isPrefixOf])];rfl
   | cons y r =>
    have e:Lib.index (x::y::r) [46,46]=if List.isPrefixOf [46,46] (x::y::r)=true then(0:Int)else if Lib.index (y::r) [46,46]== -1 then -1 else Lib.index (y::r) [46,46]+1:=rfl;have d:dots (x::y::r)=((x==46&&y==46)||dots (y::r)):=rfl;have p:List.isPrefixOf [46,46] (x::y::r)=(x==46&&y==46):=by simp only[List.isPrefixOf,GN];rw[Bool.beq_comm (a:=(46:UInt8)),Bool.beq_comm (a:=(46:UInt8))]
    rw[e,d,p];cases (x==46&&y==46)with
    | true=>right;exact⟨by rw[Dn rfl];exact Gq 0,rfl⟩
    | false =>
     rcases ih with ⟨h1,h2⟩ | ⟨h1,h2⟩
     .left;rw[h1,h2];exact⟨rfl,rfl⟩
     .right;rw[h2];refine⟨?_,rfl⟩;rw[Dk (by decide),Dk (by simp;omega)];omega
 intro s;unfold Lib.contains;rcases key s with ⟨h1,h2⟩ | ⟨h1,h2⟩
 .rw[h1,h2];rfl
 .rw[h2];exact Di h1
def ApN (s:Bs):Bool:= !(decide (s.length<1)||decide (64<s.length)||(s.getD 0 0==46)||(s.getD (s.length - 1) 0==46)||dots s)&&s.all AuK
def Anx (c:UInt8): ∀ l:Bs,decide (Lib.indexByte l c>=0)=l.any (· ==c):=by
 intro l
 induction l with
 | nil=>rfl
 | cons b r ih =>
  show decide ((if(b==c)=true then(0:Int)else if Lib.indexByte r c== -1 then -1 else Lib.indexByte r c+1)>=0)=(b==c||r.any (· ==c));cases b==c with
  | true=>rfl
  | false =>
   rw[Dk (by decide),F7,<- ih];have:=Lib.indexByte_ge r c;by_cases h:Lib.indexByte r c= -1
   .rw[h];rfl
   .rw[Dk (by simpa using h)];congr 1;apply propext;omega
def A3V (c:UInt8):c.toNat.toUInt8=c:=Hq
def Anv (N:Nat) (s:Bs) (hN:1048578<N) (hs:s.length<=1048576):Zp N s=some (ApN s):=by
 unfold Zp ApN;try simp only[clR]
 unfold strings_Contains;rw[Di (show s.length<4294967281 by omega),cond_true,Ana];by_cases h1:s.length<1
 .have:s=[]:=Gy.1 (by omega);subst this;rfl
 .by_cases h2:64<s.length
  .simp (disch:=omega) only[JH,Option.isSome_some]
  .simp (disch:=omega) only[JH,Option.isSome_some,Option.getD_some,beq46];cases s.getD 0 0==46<;>cases s.getD (s.length - 1) 0==46<;>cases dots s<;>first | rfl | skip
   simp only[F7,FP,cond_false,Et,FD];have hml:((s.map fun b=>((b.toNat:Nat):Int)).length)=s.length:=Dz ..;refine ER (iQ (S:=Unit) (R:=Bool) (mk:=fun i _=>((i:Int),s.map fun b=>((b.toNat:Nat):Int))) s 0 (fun c _=>bif AuK c then .inr ()else .inl false) some (fun _=>some true) ?_ ?_ N () (by omega)) ?_
   .intro i _ hi k;obtain⟨x,y,hx,hy,hxy⟩:=Aam N (s.getD i 0);have hg:(s.map fun b=>((b.toNat:Nat):Int)).getD i 0=(((s.getD i 0).toNat:Nat):Int):=by rw[getD_lt _ i 0,getD_lt s i 0 hi,FV]
    simp (disch:=omega) only[JH,hml,hg,hx,hy,KX,strings_IndexByte,A3V,Anx];unfold AuK;rw[<- hxy];show _=bif _||Ao8.any (· ==s.getD i 0)then _ else _;rw[show([33,35,36,37,38,39,42,43,45,47,61,63,94,95,96,123,124,125,126,46]:Bs)=Ao8 from rfl];cases x<;>cases y<;>cases Ao8.any (· ==s.getD i 0)<;>rfl
   .intro _ k;simp (disch:=omega) only[JH,hml]
   .rw[Axo];cases s.all AuK<;>rfl
def AyK {c:UInt8} {s:Bs} (h:c∉s):Lib.cut s [c]=(s,[],false):=by unfold Lib.cut;rw[index_none c s h];rfl
def A2L {c:UInt8} {a r:Bs} (h:c∉a):Lib.cut (a++c::r) [c]=(a,r,true):=by
 unfold Lib.cut;rw[Ah1 c a r h,A52];have e1:((a.length:Int)).toNat=a.length:=by omega
 rw[e1,Ie,<- FU,Hf];rfl
def eQ (s:Bs):Bool:=(Lib.cut s [64]).2.2&&decide (s.length<=128)&&ApN (Lib.cut s [64]).1&&xP (Lib.cut s [64]).2.1
def Aef (N:Nat) (s:Bs) (hN:1048578<N) (hs:s.length<=1048576):VN N s=some (eQ s):=by
 unfold VN eQ strings_Cut;try simp only[clR]
 rw[Di (show s.length<4294967281 by omega),cond_true,Jt]
 have hl:(Lib.cut s [64]).1.length<=s.length:=by
  rcases AdC 64 s with h | ⟨a,r,rfl,ha⟩
  .rw[AyK h];exact DV _
  .rw[A2L ha];simp
 rw[Anv N _ hN (by omega),X4 N _];rw[show decide (((s.length:Nat):Int)<=128)=decide (s.length<=128) by congr 1;apply propext;omega];rfl
def Auw (n i:Nat) (h:i<n):(List.range n).getD i 0=i:=by rw[getD_lt _ _ _ (by rw[Ef];exact h),Jb]
def mbP (s:Bs):Bool:=decide (s.length<=128)&&(eQ s||xP (Lib.trimPrefix s [46]))
def A2N (n:Nat):decide ((n:Int)<=128)=decide (n<=128):=by congr 1;apply propext;omega
def Ahz (N:Nat) (s:Bs) (hN:1048578<N) (hs:s.length<=1048576):UY N s=some (mbP s):=by
 unfold UY mbP strings_TrimPrefix;try simp only[clR]
 rw[Aef N s hN hs];simp only[Option.isSome_some,Option.getD_some,DU,JI];rw[X4 N _,A2N];simp only[Option.isSome_some,Option.getD_some,DU,JI];cases eQ s<;>cases decide (s.length<=128)<;>rfl
def AuP {s:Bs} (h:128<s.length):eQ s=false:=by unfold eQ;rw[AuW h];simp
def Awz {s:Bs} (h:128<s.length):xP s=false:=by unfold xP;rw[Ao3 h];rfl
def Ak1 (s:Bs):Bool:=decide (s.length=4)||decide (s.length=16)
def Au4 (a b:Nat):(((a:Nat):Int)==((b:Nat):Int))=decide (a=b):=by
 by_cases h:a=b
 .rw[h,Di rfl];exact ET _
 .rw[Dw h];exact EP (by omega)
def Ajo (N:Nat) (s:Bs):VM N s=some (Ak1 s):=by
 unfold VM Ak1;try simp only[clR]
 rw[show(((s.length:Nat):Int)==4)=decide (s.length=4)from Au4 _ 4,show(((s.length:Nat):Int)==16)=decide (s.length=16)from Au4 _ 16]
def At9 (c:UInt8) (k:Nat):Bool:=c.toNat / 2 ^ k % 2==1
def Ay9 (c:UInt8) (k:Nat) (hk:k<8):(JF .and .u8 (((c.toNat:Nat):Int).fdiv (2 ^ min k 8)) 1==1)=At9 c k:=by
 have: ∀ k:Fin 8,∀ n:Fin 256,(JF .and .u8 ((((UInt8.ofNat n.val).toNat:Nat):Int).fdiv (2 ^ min k.val 8)) 1==1)=At9 (UInt8.ofNat n.val) k.val:=by decide +kernel
 exact Aks (P:=fun c=>(JF .and .u8 (((c.toNat:Nat):Int).fdiv (2 ^ min k 8)) 1==1)=At9 c k) (this ⟨k,hk⟩) c
def A4u (i:Nat):((i:Int)).tdiv 8=((i / 8:Nat):Int):=rfl
def A4v (i:Nat):((i:Int)).tmod 8=((i % 8:Nat):Int):=rfl
def A4t (i:Nat):((i:Int)).tdiv 2=((i / 2:Nat):Int):=rfl
def AvH (i:Nat):((7:Int) - (i:Int)).toNat=7 - i:=by omega
def oK (s:Bs) (i:Nat):Bool:=At9 (s.getD (i / 8) 0) (7 - i % 8)
def Ag7 (N:Nat) (s:Bs) (i:Nat) (h:i<8*s.length:=by omega) (hs:s.length<=1048576:=by omega):bV N s (i:Int)=some (oK s i):=by
 unfold bV oK;try simp -zeta only[Ap]
 have:i / 8<s.length:=by omega
 have:i % 8<8:=by omega
 simp (disch:=omega) only[JH,A4u,A4v,wu64,AvH];rw[Ay9 _ _ (by omega)]
def rngS (s:Bs) (i:Nat) (z:Bool):Bool ⊕ Bool:=bif (oK (s.drop (s.length / 2)) i&&z)||(!oK (s.drop (s.length / 2)) i&&oK s i)then .inl false else .inr (z|| !oK (s.drop (s.length / 2)) i)
def AlZ (s:Bs):Bool:=bif decide (s.length=8)||decide (s.length=32)then(RG (rngS s) (List.range (8*(s.length / 2))) false).elim id (fun _=>true)else false
def Anp (N:Nat) (s:Bs) (hN:1048578<N):Zo N s=some (AlZ s):=by
 unfold Zo;try simp only[clR]
 unfold AlZ;rw[show(((s.length:Nat):Int) != 8)= !decide (s.length=8)from congrArg _ (Au4 _ 8),show(((s.length:Nat):Int) != 32)= !decide (s.length=32)from congrArg _ (Au4 _ 32)];by_cases h0:s.length=8\/s.length=32
 .have hb:(decide (s.length=8)||decide (s.length=32))=true:=by simpa using h0
  rw[hb,cond_true,show(!decide (s.length=8)&& !decide (s.length=32))=false by rw[<- Bool.not_or,hb];rfl,cond_false];have hd:s.length / 2<=s.length:=by omega
  have hh:eH N s=some (s.take (s.length / 2),s.drop (s.length / 2)):=by
   unfold eH;try simp -zeta only[Ap]
   simp (disch:=omega) only[JH,A4t,wu64];unfold JD;rw[ED];rfl
  rw[hh,Jt];have hl:(s.drop (s.length / 2)).length=s.length / 2:=by rw[Ew];omega
  have hl1:(s.take (s.length / 2)).length=s.length / 2:=by rw[Eb];omega
  refine ER (iQ (S:=Bool) (R:=Bool) (mk:=fun i z=>(z,(i:Int))) (List.range (8*(s.length / 2))) 0 (rngS s) some (fun _=>some true) ?_ ?_ N false (by rw[Ef];omega)) ?_
  .intro i z hi k;rw[Ef]at hi;rw[Auw _ _ hi];have hb1:=Ag7 N (s.drop (s.length / 2)) i;have hb2:=Ag7 N (s.take (s.length / 2)) i;have hb3:oK (s.take (s.length / 2)) i=oK s i:=by unfold oK;congr 1;rw[Dj,FY,A52,<- Dj]
   rw[hb3]at hb2;unfold rngS;simp (disch:=omega) only[JH,hl,hb1,hb2,Option.isSome_some,Option.getD_some,KX];cases oK (s.drop (s.length / 2)) i<;>cases oK s i<;>cases z<;>rfl
  .intro z k;rw[Ef];simp (disch:=omega) only[JH,hl]
  .exact AtX _ id (fun _=>true)
 .have hb:(decide (s.length=8)||decide (s.length=32))=false:=by simpa using h0
  rw[hb,show(!decide (s.length=8)&& !decide (s.length=32))=true by rw[<- Bool.not_or,hb];rfl];rfl
def AuV (n:List (List Att)): ∃ v,Ab7 n=some v:=by
 unfold Ab7;by_cases h:8<n.length
 .rw[Dn h];exact⟨_,rfl⟩
 .rw[Dk h]
  have: ∀(l:List (List Att)) (s:Unit),∃ v,RV qQ (fun _=>some 0) l s=some v:=by
   intro l
   induction l with
   | nil=>intro s;exact⟨0,rfl⟩
   | cons e r ih =>
    intro s;unfold RV qQ;by_cases h:dN e=0
    .rw[Dn h];exact ih _
    .rw[Dk h];exact⟨_,rfl⟩
  exact this n ()
def RI (n:List (List Att)):Int:=(Ab7 n).getD 0
def A1K (n:List (List Att)):Ab7 n=some (RI n):=by obtain⟨v,h⟩:=AuV n;unfold RI;rw[h];rfl
def Sj (N:Nat) (n:List (List Att)) (hN:1048578<N) (hn:Ua n):MC N n=some (RI n):=(AkQ N n hN hn).trans (A1K n)
abbrev Gn:Type:=Int×Bs×List (List Att)
def aN (g:Gn):Prop:=g.2.1.length<=1048576/\Ua g.2.2
def Alg (k:Int) (s:Bs) (c:Bool):Bool:=bif k==1 then(bif c then mbP s else eQ s)else bif k==2 then(bif c then Ak7 s else AlE s)else bif k==7 then(bif c then AlZ s else Ak1 s)else false
def P6 (g:Gn) (c:Bool):Int:=bif g.1==4 then(bif g.2.1==[]then RI g.2.2 else 14)else bif Alg g.1 g.2.1 c&&g.2.2.isEmpty then 0 else 14
def Alr {α :Type} (l:List α):decide (((l.length:Nat):Int)>0)= !l.isEmpty:=by
 cases l with
 | nil=>rfl
 | cons a r=>rw[Di (by rw[List.length_cons];omega)];rfl
def Anz (N:Nat) (k:Int) (s:Bs) (c:Bool) (hN:1048578<N) (hs:s.length<=1048576):PM N k s c=some (bif k==0 then(bif c then mbP s else eQ s)else bif k==1 then(bif c then Ak7 s else AlE s)else bif k==3 then(bif c then AlZ s else Ak1 s)else false):=by
 unfold PM;try simp only[clR]
 simp only[Ahz N s hN hs,Aef N s hN hs,Ap8 N s hN,Ajp N s hN,Anp N s hN,Ajo N s,Option.isSome_some,Option.getD_some,DU,JI];cases k==0<;>cases k==1<;>cases k==3<;>cases c<;>simp [chk]
def TQ (N:Nat) (g:Gn) (c:Bool) (hN:1048578<N) (hg:aN g):NI N g c=some (P6 g c):=by
 obtain⟨k,s,n⟩:=g;unfold NI;try simp only[clR]
 have hg:s.length<=1048576/\Ua n:=hg;have hd:=Sj N n hN hg.2;have hk: ∀ k:Int,PM N k s c=_:=fun k=>Anz N k s c hN hg.1;have h1:=hg.1;unfold P6 Alg Abq;by_cases e1:k=1
 .subst e1;simp (disch:=omega) only[JH,hk,Option.isSome_some,Option.getD_some,Alr];cases n.isEmpty<;>cases c<;>cases mbP s<;>cases eQ s<;>rfl
 .by_cases e2:k=2
  .subst e2;simp (disch:=omega) only[JH,hk,Option.isSome_some,Option.getD_some,Alr];cases n.isEmpty<;>cases c<;>cases Ak7 s<;>cases AlE s<;>rfl
  .by_cases e4:k=4
   .subst e4;simp (disch:=omega) only[JH,hd,Option.isSome_some,Option.getD_some,Alr];cases s==[]<;>rfl
   .by_cases e7:k=7
    .subst e7;simp (disch:=omega) only[JH,hk,Option.isSome_some,Option.getD_some,Alr];cases n.isEmpty<;>cases c<;>cases AlZ s<;>cases Ak1 s<;>rfl
    .simp (disch:=omega) only[JH]
def Aor (l:List El):Bool:=(List.range (l.length - 1)).any fun i=>bytesLess (l.getD (i+1) (0,[],[])).2.2 (l.getD i (0,[],[])).2.2
def A2w (N:Nat) (l:List El) (hN:1048578<N) (hl:l.length<=1048576):Yb N l=some (!Aor l):=by
 unfold Yb Aor;try simp only[clR]
 refine(A1b (fun i=>((i+1:Nat):Int)) (List.range (l.length - 1)) 0 (fun i=>bytesLess (l.getD (i+1) (0,[],[])).2.2 (l.getD i (0,[],[])).2.2) (some false) (some true) ?_ ?_ N (by rw[Ef];omega)).trans ?_
 .intro i hi k;rw[Ef]at hi;rw[AbJ hi];simp (disch:=omega) only[JH];rfl
 .intro k;rw[Ef];simp (disch:=omega) only[JH]
 .cases List.any _ _<;>rfl
def Xu (e:El):List Att×Int :=
 bif e.1 != 49 then([],5)else bif (JQ e.2.1).2 != 0 then([],(JQ e.2.1).2)else bif Aor (JQ e.2.1).1 then([],9)else
 bif KW (fun a=>(oI a).2) (JQ e.2.1).1 != 0 then([],KW (fun a=>(oI a).2) (JQ e.2.1).1)else((JQ e.2.1).1.map fun a=>(oI a).1,0)
def A1l (N:Nat) (e:El) (hN:1048578<N) (he:e.2.1.length<=1048576):Lp N e=some (Xu e):=by
 unfold Lp;try simp only[clR]
 rw[MK N e.2.1];unfold Xu;have hg:Good 1048576 (JQ e.2.1).1:=(KR e.2.1).mono he;generalize JQ e.2.1=r at hg ⊢;obtain⟨l,er⟩:=r;have hlen:l.length<=1048576:=hg.len;rw[Jt];dsimp only;rw[A2w N l hN hlen];simp (disch:=omega) only[JH];simp only[<- Lr];refine OQ fun _=>OQ fun _=>OQ fun _=> ?_;refine(Abn (fun i acc=>((i:Int),acc)) l (0,[],[]) (fun a=>(oI a).2) (fun a=>(oI a).1) (fun e=>some ([],e)) (fun acc=>some (acc,0)) ?_ ?_ N).trans ?_
 .intro i acc hi ha k;have hc:=(hg.all _ (getD_mem (0,[],[]) hi)).content;dsimp only at hc;have hE:=A1k N (l.getD i (0,[],[])) hN (by omega);simp (disch:=omega) only[JH,hE];generalize oI (l.getD i (0,[],[]))=y;cases y.2 != 0<;>rfl
 .intro acc k ha;simp (disch:=omega) only[JH]
 .rfl
def nmD (s:Bs):List (List Att)×Int :=
 bif (KH s).2 != 0 then([],(KH s).2)else bif (KH s).1.1 != 48 then([],5)else bif (JQ (KH s).1.2.1).2 != 0 then([],(JQ (KH s).1.2.1).2)else
 bif KW (fun a=>(Xu a).2) (JQ (KH s).1.2.1).1 != 0 then([],KW (fun a=>(Xu a).2) (JQ (KH s).1.2.1).1)else
 bif RI ((JQ (KH s).1.2.1).1.map fun a=>(Xu a).1) != 0 then([],RI ((JQ (KH s).1.2.1).1.map fun a=>(Xu a).1))else((JQ (KH s).1.2.1).1.map fun a=>(Xu a).1,0)
def A3T (l:List Nat):(two l).length<=l.length+1:=by
 cases l with
 | nil=>exact DN _
 | cons n t=>show t.length+1+1<=t.length+1+1;omega
def AiO (s:Bs):(SI (Vp s)).1.length<=1048576:=by
 cases h:Vp s with
 | none=>show 0<=_;omega
 | some a =>
  unfold Vp at h;cases hn:Ns 4294967294 s 0 false []with
  | none=>rw[hn]at h;cases h
  | some l =>
   rw[hn]at h;simp only[Option.bind_some]at h;split at h
   .cases h
   .rename_i hne;unfold upTo at h;split at h
    .rename_i hu;injection h with h;subst h;have h1:=AqV (two l) (fun x hx=>by have:=hu x hx;omega);have h2:=A3T l;show(nZ (two l)).length<=_;omega
    .cases h
def At1 (e:El) (he:e.2.1.length<=1048576):XI (oI e).1:=by
 have hg:Good 1048576 (JQ e.2.1).1:=(KR e.2.1).mono he;have hz:XI zA:=⟨by show 0<=_;omega,by show 0<=_;omega⟩
 unfold oI;cases e.1 != 48 with
 | true=>exact hz
 | false =>
  rw[cond_false];cases (JQ e.2.1).2 != 0 with
  | true=>exact hz
  | false =>
   rw[cond_false]
   match (JQ e.2.1).1,hg with
   | [],_=>exact hz
   | a::l,hg =>
    dsimp only;cases a.1 != 6 with
    | true=>exact hz
    | false =>
     rw[cond_false];cases h3:(SI (Vp a.2.1)).2 != 0 with
     | true=>exact hz
     | false =>
      rw[cond_false]
      match l,hg with
      | [],_=>exact hz
      | b::m,hg =>
       dsimp only;have hb:=(hg.all b (by simp)).content;cases b.1 != 12&&b.1 != 19&&b.1 != 22 with
       | true=>exact hz
       | false =>
        match m with
        | []=>exact⟨AiO _,by show b.2.1.length<=_;omega⟩
        | _::_=>exact hz
def Aki (e:El) (he:e.2.1.length<=1048576): ∀ a∈(Xu e).1,XI a:=by
 have hg:Good 1048576 (JQ e.2.1).1:=(KR e.2.1).mono he;unfold Xu;cases e.1 != 49<;>cases (JQ e.2.1).2 != 0<;>cases Aor (JQ e.2.1).1<;>cases KW (fun a=>(oI a).2) (JQ e.2.1).1 != 0<;>intro a ha
 all_goals first
  | exact absurd ha (Fp)
  | (obtain⟨x,hx,rfl⟩:=DI.1 ha
     exact At1 x (by have:=(hg.all x hx).content;omega))
def uT (N:Nat) (s:Bs) (hN:1048578<N) (hs:s.length<=1048576):QY N s=some (nmD s):=by
 unfold QY;try simp only[clR]
 rw[UR N s];have hc:=QR s;unfold nmD;generalize KH s=o at hc ⊢;rw[Jt];rw[MK N o.1.2.1];have hg:Good 1048576 (JQ o.1.2.1).1:=(KR o.1.2.1).mono (by omega);generalize JQ o.1.2.1=r at hg ⊢;obtain⟨l,er⟩:=r;have hlen:l.length<=1048576:=hg.len;rw[Jt];dsimp only;simp only[<- Lr];refine OQ fun _=>OQ fun _=>OQ fun _=> ?_;refine(Abn (fun i acc=>((i:Int),acc)) l (0,[],[]) (fun a=>(Xu a).2) (fun a=>(Xu a).1) (fun e=>some ([],e)) (fun acc=>Jr (MC N acc) fun r60=>bif r60 != 0 then some ([],r60)else some (acc,0)) ?_ ?_ N).trans ?_
 .intro i acc hi ha k;have hc:=(hg.all _ (getD_mem (0,[],[]) hi)).content;dsimp only at hc;have hE:=A1l N (l.getD i (0,[],[])) hN (by omega);simp (disch:=omega) only[JH,hE];generalize Xu (l.getD i (0,[],[]))=y;cases y.2 != 0<;>rfl
 .intro acc k ha;simp (disch:=omega) only[JH]
 .rw[Sj N _ hN (fun p hp e he=>by obtain⟨x,hx,rfl⟩:=DI.1 hp;exact Aki x (by have:=(hg.all x hx).content;omega) e he),Jt]
def Aez (s:Bs) (hs:s.length<=1048576):Ua (nmD s).1:=by
 have hc:=QR s;have hg:Good 1048576 (JQ (KH s).1.2.1).1:=(KR _).mono (by omega);unfold nmD;intro p hp;cases h1:(KH s).2 != 0 with
 | true=>rw[h1]at hp;cases hp
 | false =>
  cases h2:(KH s).1.1 != 48 with
  | true=>rw[h1,h2]at hp;cases hp
  | false =>
   cases h3:(JQ (KH s).1.2.1).2 != 0 with
   | true=>rw[h1,h2,h3]at hp;cases hp
   | false =>
    cases h4:KW (fun a=>(Xu a).2) (JQ (KH s).1.2.1).1 != 0 with
    | true=>rw[h1,h2,h3,h4]at hp;cases hp
    | false =>
     rw[h1,h2,h3,h4]at hp;simp only[cond_false]at hp
     have hp:p∈(JQ (KH s).1.2.1).1.map fun a=>(Xu a).1:=by
      revert hp;cases RI ((JQ (KH s).1.2.1).1.map fun a=>(Xu a).1) != 0 with
      | true=>intro hp;cases hp
      | false=>intro hp;exact hp
     obtain⟨x,hx,rfl⟩:=DI.1 hp;exact Aki x (by have:=(hg.all x hx).content;omega)
def zG:Gn:=(0,[],[])
def gnC (g:Gn) (c:Bool):Gn×Int:=bif P6 g c != 0 then(zG,P6 g c)else(g,0)
def gnD (e:El) (c:Bool):Gn×Int :=
 bif e.1==129||e.1==130||e.1==135 then gnC (e.1 - 128,e.2.1,[]) c else
 bif e.1==164 then(bif (nmD e.2.1).2 != 0 then(zG,(nmD e.2.1).2)else gnC (4,[],(nmD e.2.1).1) c)else(zG,5)
def Ajf (N:Nat) (e:El) (c:Bool) (hN:1048578<N) (he:e.2.1.length<=1048576):OW N e c=some (gnD e c):=by
 obtain⟨t,s,w⟩:=e;have he:s.length<=1048576:=he;have hC: ∀ k,NI N (k,s,[]) c=some (P6 (k,s,[]) c):=fun k=>TQ N _ c hN ⟨he,fun p hp=>by cases hp⟩;have hD:=uT N s hN he;have hC4:=TQ N (4,[],(nmD s).1) c hN ⟨by show 0<=_;omega,Aez s he⟩;unfold OW;try simp only[clR]
 unfold gnD gnC;by_cases h1:t=129
 .subst h1;simp (disch:=omega) only[JH,hC,Lr];rfl
 .by_cases h2:t=130
  .subst h2;simp (disch:=omega) only[JH,hC,Lr];rfl
  .by_cases h3:t=135
   .subst h3;simp (disch:=omega) only[JH,hC,Lr];rfl
   .by_cases h4:t=164
    .subst h4;simp (disch:=omega) only[JH,hC4,hD,Lr];rfl
    .simp (disch:=omega) only[JH];rfl
def AwP (e:El) (c:Bool) (he:e.2.1.length<=1048576):aN (gnD e c).1:=by
 have hz:aN zG:=⟨by show 0<=_;omega,fun p hp=>by cases hp⟩
 have hC: ∀ g:Gn,aN g->aN (gnC g c).1:=fun g hg=>by
  unfold gnC;cases P6 g c != 0
  .exact hg
  .exact hz
 unfold gnD;cases e.1==129||e.1==130||e.1==135 with
 | true=>exact hC _ ⟨he,fun p hp=>by cases hp⟩
 | false =>
  cases e.1==164 with
  | false=>exact hz
  | true =>
   cases h:(nmD e.2.1).2 != 0 with
   | true=>exact hz
   | false=>exact hC _ ⟨by show 0<=_;omega,Aez _ he⟩
def RQ (s:Bs):List Gn×Int :=
 bif (JQ s).2 != 0 then([],(JQ s).2)else bif (JQ s).1.isEmpty then([],7)else bif decide (16<(JQ s).1.length)then([],2)else
 bif KW (fun a=>(gnD a false).2) (JQ s).1 != 0 then([],KW (fun a=>(gnD a false).2) (JQ s).1)else((JQ s).1.map fun a=>(gnD a false).1,0)
def RF (N:Nat) (s:Bs) (hN:1048578<N) (hs:s.length<=1048576:=by omega):L9 N s=some (RQ s):=by
 unfold L9 Vj;try simp only[clR]
 rw[MK N s];unfold RQ;have hg:Good 1048576 (JQ s).1:=(KR s).mono hs;generalize JQ s=r at hg ⊢;obtain⟨l,er⟩:=r;have hlen:l.length<=1048576:=hg.len;rw[Jt];dsimp only;rw[<- Lr];refine OQ fun _=> ?_;cases hl:l with
 | nil=>rfl
 | cons a0 l0 =>
  rw[<- hl];have hp:0<l.length:=by rw[hl];exact Jd _
  have he:l.isEmpty=false:=by rw[hl];rfl
  rw[he,cond_false];by_cases h16:16<l.length
  .simp (disch:=omega) only[JH]
  .simp (disch:=omega) only[JH];rw[<- Lr];refine(Abn (fun i acc=>((i:Int),acc)) l (0,[],[]) (fun a=>(gnD a false).2) (fun a=>(gnD a false).1) (fun e=>some ([],e)) (fun acc=>some (acc,0)) ?_ ?_ N).trans ?_
   .intro i acc hi ha k;have hc:=(hg.all _ (getD_mem (0,[],[]) hi)).content;dsimp only at hc;have hE:=Ajf N (l.getD i (0,[],[])) false hN (by omega);simp (disch:=omega) only[JH,hE];generalize gnD (l.getD i (0,[],[])) false=y;cases y.2 != 0<;>rfl
   .intro acc k ha;simp (disch:=omega) only[JH]
   .rfl
def Na {α :Type} {P: α ->Prop} {b:Bool} {x y: α} (hx:P x) (hy:b=false->P y):P (bif b then x else y):=by
 cases b
 .exact hy rfl
 .exact hx
def Af2 (r:List Gn×Int):Prop:=(∀ g∈r.1,aN g)/\r.1.length<=16
def mW (s:Bs) (hs:s.length<=1048576:=by omega):Af2 (RQ s):=by
 have hg:Good 1048576 (JQ s).1:=(KR s).mono hs;have hz: ∀ e:Int,Af2 ([],e):=fun e=>⟨fun g hg=>(by cases hg),by show 0<=16;omega⟩
 refine Na (P:=Af2) (hz _) fun _=>Na (P:=Af2) (hz _) fun _=>Na (P:=Af2) (hz _) fun h16=>Na (P:=Af2) (hz _) fun _=>⟨fun g hgm=> ?_,?_⟩
 .obtain⟨x,hx,rfl⟩:=DI.1 hgm;exact AwP x false (by have:=(hg.all x hx).content;omega)
 .show((JQ s).1.map _).length<=16;rw[Dz];have:=DY h16;omega
end Go.Proofs.YtmgpaalplkkpnaaGreatDoor.Pl
