/-
  CertextCheck: the law returns true whatever the input; machine, functions, plain law (part 32 of 47.)
-/
import Derived.Test.YtadefjgbcapakaaGreatDoorA31
set_option linter.unusedVariables false
set_option linter.unusedSimpArgs false
namespace Go.Proofs.YtadefjgbcapakaaGreatDoor.Pl
open IntKind (i64)
open Go Vm
def hi (m:Nat):List Nat:=if m=0 then []else hi (m / 128)++[m % 128+128]
termination_by m
decreasing_by omega
theorem uF:hi 0=[]:=by rw[hi];rfl
theorem Ai1 {m:Nat} (h:m≠0):hi m=hi (m / 128)++[m % 128+128]:=by rw[hi,if_neg h]
def Oi (n:Nat):List Nat:=hi (n / 128)++[n % 128]
def cnt (m:Nat):Nat:=(hi m).length
theorem xP:cnt 0=0:=by unfold cnt;rw[uF];rfl
theorem AdX {m:Nat} (h:m≠0):cnt m=cnt (m / 128)+1:=by unfold cnt;rw[Ai1 h];simp
theorem cnt_le: ∀(k m:Nat),m<128 ^ k→cnt m≤k:=by
  intro k
  induction k with
  | zero=>intro m h;have:m=0:=by rw[Nat.pow_zero]at h;omega
          rw[this,xP];omega
  | succ k ih =>
    intro m h
    by_cases h0:m=0
    ·rw[h0,xP];omega
    ·rw[AdX h0]
     have:=ih (m / 128) (by rw[Nat.pow_succ]at h;omega)
     omega
def Xj (m:Nat):Nat→List Nat
  | 0=>[]
  | t+1=>(m / 128 ^ t % 128+128)::Xj m t
theorem div_pow (m t:Nat):m / 128 ^ (t+1)=m / 128 / 128 ^ t:=by
  rw[Nat.pow_succ,Nat.div_div_eq_div_mul,Nat.mul_comm]
theorem AkX: ∀(t m:Nat),Xj m (t+1)=Xj (m / 128) t++[m % 128+128]:=by
  intro t
  induction t with
  | zero=>intro m;show [m / 128 ^ 0 % 128+128]=_;rw[Nat.pow_zero,Nat.div_one];rfl
  | succ t ih =>
    intro m
    show(m / 128 ^ (t+1) % 128+128)::Xj m (t+1)=_
    rw[ih,div_pow]
    rfl
theorem Anr: ∀(k m:Nat),m<128 ^ k→Xj m (cnt m)=hi m:=by
  intro k
  induction k with
  | zero=>intro m h;have:m=0:=by rw[Nat.pow_zero]at h;omega
          rw[this,xP,uF];rfl
  | succ k ih =>
    intro m h
    by_cases h0:m=0
    ·rw[h0,xP,uF];rfl
    ·rw[AdX h0,AkX,ih _ (by rw[Nat.pow_succ]at h;omega), ←Ai1 h0]
theorem sh7 (n t:Nat) (ht:t≤9):(n:Int).fdiv (2 ^ min (IntKind.u64.wrap (7*IntKind.u64.wrap (t:Int))).toNat 64)=((n / 128 ^ t:Nat):Int):=by
  rw[wu64 (x:=(t:Int)) (by omega) (by omega),wu64 (by omega) (by omega),show min ((7:Int)*(t:Int)).toNat 64=7*t by omega]
  have h:(2:Nat) ^ (7*t)=128 ^ t:=by rw[Nat.pow_mul]
  have e:(2:Int) ^ (7*t)=((128 ^ t:Nat):Int):=by rw[← h];push_cast;rfl
  rw[e]
  exact(Int.ofNat_fdiv _ _).symm
theorem Aj8 (n:Nat) (h:n<9223372036854775808):BP .and .i64 (n:Int) 127=((n % 128:Nat):Int):=by
  show i64.wrap (((BitVec.ofInt 64 (n:Int)) &&& (BitVec.ofInt 64 ((127:Nat):Int))).toNat:Int)=_
  rw[show(BitVec.ofInt 64 (n:Int))=BitVec.ofNat 64 n by simp,show(BitVec.ofInt 64 ((127:Nat):Int))=BitVec.ofNat 64 127 by simp]
  rw[BitVec.toNat_and,BitVec.toNat_ofNat,BitVec.toNat_ofNat,Nat.mod_eq_of_lt (by omega),Nat.mod_eq_of_lt (by omega)]
  rw[show(127:Nat)=2 ^ 7 - 1 by decide,Nat.and_two_pow_sub_one_eq_mod]
  exact w64 (by omega) (by omega)
theorem Aox (a:Nat) (h:a<128):BP .or .i64 (a:Int) 128=((a+128:Nat):Int):=by
  have: ∀ a:Fin 128,BP .or .i64 ((a.val:Nat):Int) 128=((a.val+128:Nat):Int):=by decide +kernel
  exact this ⟨a,h⟩
theorem Anw {ρ :Type} (N n:Nat) (l:List Int) (hn:n<34359738368) (hN:16<N) (fin:Int×List Int→Option ρ) :
    Ak (X:=Int×List Int) (Y:=Int×List Int) (U2 fun t5a l0a k1 x2 =>
     Vm.chk (decide (0≤IntKind.u64.wrap (7*IntKind.u64.wrap t5a)))
       (bif decide ((n:Int).fdiv (2 ^ min (IntKind.u64.wrap (7*IntKind.u64.wrap t5a)).toNat 64)>0)then
         k1 (i64.wrap (t5a+1),l0a)
       else x2 (t5a,l0a))) N (1,l) fin=fin (((1+cnt (n / 128):Nat):Int),l):=by
  refine Eq.trans (Fe (I:=fun x:Int×List Int=> ∃ t:Nat,x=((t:Int),l)∧1≤t∧t≤5) (μ :=fun x=>5 - x.1.toNat) (F:=fun x=>fin (((x.1.toNat+cnt (n / 128 ^ x.1.toNat):Nat):Int),l)) ?_ N (1,l) ⟨1,rfl,by omega,by omega⟩ (by show 5 - 1<N;omega)) rfl
  rintro x ⟨t,rfl,h1,h2⟩ k hk
  dsimp only[U2]
  rw[sh7 n t (by omega),decide_eq_true (show(0:Int)≤IntKind.u64.wrap (7*IntKind.u64.wrap (t:Int)) by rw[wu64 (x:=(t:Int)) (by omega) (by omega),wu64 (by omega) (by omega)];omega),Aj]
  have ht:((t:Int)).toNat=t:=by omega
  rw[ht]
  generalize hm:n / 128 ^ t=m
  by_cases h0:m=0
  ·rw[h0,decide_eq_false (by omega),cond_false,xP];rfl
  ·rw[decide_eq_true (by omega),cond_true,w64 (by omega) (by omega)]
   have h5:t<5:=by
     refine Nat.lt_of_le_of_ne h2 fun e=>h0 ?_
     rw[← hm,e]
     exact Nat.div_eq_of_lt hn
   have e1:((t:Int)+1).toNat=t+1:=by omega
   rw[hk _ ⟨t+1,by push_cast;rfl,by omega,by omega⟩ (by show 5 - ((t:Int)+1).toNat<5 - (t:Int).toNat;omega)]
   show fin (((((t:Int)+1).toNat+cnt (n / 128 ^ ((t:Int)+1).toNat):Nat):Int),l)=_
   rw[e1,Nat.pow_succ, ←Nat.div_div_eq_div_mul,hm,AdX h0]
   congr 2
   omega
theorem AjT {ρ :Type} (N n:Nat) (hn:n<34359738368) (hN:16<N) (fin:List Int→Option ρ) (t:Nat) (l:List Int) (ht:t≤5) (hl:l.length≤2000000) :
    Ak (X:=Int×List Int) (Y:=List Int) (U2 fun t6c l1008192c k3 x4 =>
         bif decide (t6c>0)then
           Vm.chk (decide (0≤IntKind.u64.wrap (7*IntKind.u64.wrap t6c)))
             (Vm.chk (decide ((l1008192c.length+1)*2≤140737488355328))
               (k3
                 (i64.wrap (t6c - 1),
                   l1008192c ++
                     [IntKind.u8.wrap
                         (BP BinOp.or i64
                           (BP BinOp.and i64
                             ((n:Int).fdiv (2 ^ min (IntKind.u64.wrap (7*IntKind.u64.wrap t6c)).toNat 64)) 127)
                           128)])))
         else x4 l1008192c) N ((t:Int),l) fin=fin (l++ints (Xj (n / 128) t)):=by
  refine Eq.trans (Fe (I:=fun x:Int×List Int=> ∃(t:Nat) (l:List Int),x=((t:Int),l)∧t≤5∧l.length+t≤2000005) (μ :=fun x=>x.1.toNat) (F:=fun x=>fin (x.2++ints (Xj (n / 128) x.1.toNat))) ?_ N ((t:Int),l) ⟨t,l,rfl,ht,by omega⟩ (by show(t:Int).toNat<N;omega)) rfl
  rintro x ⟨t,l,rfl,h2,h3⟩ k hk
  have ht:((t:Int)).toNat=t:=by omega
  cases t with
  | zero =>
    dsimp only[U2]
    rw[decide_eq_false (by omega),cond_false]
    show _=fin (l++[])
    rw[List.append_nil]
  | succ t =>
    dsimp only[U2]
    rw[sh7 n (t+1) (by omega),decide_eq_true (show(0:Int)≤IntKind.u64.wrap (7*IntKind.u64.wrap ((t+1:Nat):Int)) by rw[wu64 (x:=((t+1:Nat):Int)) (by omega) (by omega),wu64 (by omega) (by omega)];omega),Aj,decide_eq_true (show((t+1:Nat):Int)>0 by omega),cond_true,decide_eq_true (by omega),Aj]
    have hd:n / 128 ^ (t+1)≤n:=Nat.div_le_self _ _
    rw[Aj8 _ (by omega),Aox _ (by omega),w8,w64 (by omega) (by omega),ht]
    have e1:(((t+1:Nat):Int) - 1).toNat=t:=by omega
    rw[hk _ ⟨t,_,by congr 1;omega,by omega,by rw[List.length_append,List.length_singleton];omega⟩ (by show(((t+1:Nat):Int) - 1).toNat<((t+1:Nat):Int).toNat;omega)]
    show fin ((l++_)++ints (Xj (n / 128) (((t+1:Nat):Int) - 1).toNat))=fin (l++ints ((n / 128 / 128 ^ t % 128+128)::Xj (n / 128) t))
    rw[e1,div_pow,List.append_assoc]
    congr 2
    show _=((n / 128 / 128 ^ t % 128+128:Nat):Int)::ints (Xj (n / 128) t)
    rw[show(((n / 128 / 128 ^ t % 128+128:Nat):Int)) % 256=((n / 128 / 128 ^ t % 128+128:Nat):Int) by omega]
    rfl
theorem zN (N:Nat) (l:List Int) (n:Nat) (hn:n<34359738368) (hN:16<N) (hl:l.length≤1000000):XZ N l (n:Int)=some (l++ints (Oi n)):=by
  unfold XZ
  have hc:cnt (n / 128)≤4:=cnt_le 4 _ (by omega)
  have h1:=Anr 4 (n / 128) (by omega)
  rw[Anw N n l hn hN]
  dsimp only[U2]
  rw[w64 (by omega) (by omega),show((1+cnt (n / 128):Nat):Int) - 1=((cnt (n / 128):Nat):Int) by omega,AjT N n hn hN _ _ _ (by omega) (by omega),h1]
  have hlen:(l++ints (hi (n / 128))).length≤1000004:=by
    rw[List.length_append,Df]
    show l.length+cnt (n / 128)≤_
    omega
  rw[decide_eq_true (by omega),Aj,Aj8 _ (by omega),w8,show(((n % 128:Nat):Int)) % 256=((n % 128:Nat):Int) by omega,List.append_assoc]
  unfold Oi ints
  rw[List.map_append]
  rfl
theorem hi_lt: ∀(k m:Nat),m<128 ^ k→ ∀ x∈hi m,x<256:=by
  intro k
  induction k with
  | zero =>
    intro m h x hx
    rw[Nat.pow_zero]at h
    rw[show m=0 by omega,uF]at hx
    cases hx
  | succ k ih =>
    intro m h x hx
    by_cases h0:m=0
    ·rw[h0,uF]at hx;cases hx
    ·rw[Ai1 h0,List.mem_append,List.mem_singleton]at hx
     rcases hx with hx | rfl
     ·exact ih _ (by rw[Nat.pow_succ]at h;omega) x hx
     ·omega
theorem AhA (n:Nat) (h:n<34359738368): ∀ x∈Oi n,x<256:=by
  intro x hx
  unfold Oi at hx
  rw[List.mem_append,List.mem_singleton]at hx
  rcases hx with hx | rfl
  ·exact hi_lt 5 _ (by omega) x hx
  ·omega
theorem Va (n:Nat) (h:n<34359738368):(Oi n).length≤5:=by
  unfold Oi
  rw[List.length_append]
  have:=cnt_le 4 (n / 128) (by omega)
  unfold cnt at this
  simp only[List.length_singleton];omega
def Uo (l:List Nat):List Nat:=Oi (40*l.getD 0 0+l.getD 1 0)++(l.drop 2).flatMap Oi
def encR:Option (List Nat)→Bs×Int
  | none=>([],11)
  | some l=>((Uo l).map UInt8.ofNat,0)
theorem Tn {s:Bs} {l:List Nat} (h:DL s=some l):2≤l.length∧l.length≤12∧(∀ x∈l,x≤2147483647)∧Ns l=true:=by
  unfold DL at h
  split at h
  ·cases h
  ·cases hm:I8 Ko (Bo 46 s)with
   | none=>rw[hm]at h;cases h
   | some r =>
     rw[hm]at h
     dsimp only at h
     split at h
     ·rename_i hr
      injection h with h;subst h
      have hl:=vG hm
      refine⟨by omega,by omega,fun x hx=> ?_,hr⟩
      obtain⟨a,_,ha⟩:=AlV hm x hx
      exact AmJ ha
     ·cases h
theorem YX {l:List Nat} (h1:2≤l.length) (h2: ∀ x∈l,x≤2147483647) (h3:Ns l=true):40*l.getD 0 0+l.getD 1 0<34359738368∧l.getD 0 0≤2∧l.getD 1 0≤2147483647:=by
  have:=h2 (l.getD 1 0) (by rw[getD_lt l 1 0 (by omega)];exact List.getElem_mem _)
  unfold Ns at h3
  simp only[Bool.or_eq_true,Bool.and_eq_true,decide_eq_true_eq]at h3
  omega
theorem Ach {l:List Nat} (h: ∀ x∈l,x<256):(ints l).all Vm.isByte=true∧(ints l).map Vm.byteOf=l.map UInt8.ofNat:=by
  constructor
  ·rw[List.all_eq_true]
   intro x hx
   obtain⟨n,hn,rfl⟩:=List.mem_map.1 hx
   have:=h n hn
   unfold Vm.isByte
   simp only[Bool.and_eq_true,decide_eq_true_eq]
   omega
  ·unfold ints
   rw[List.map_map]
   rfl
theorem Aht {l:List Nat} (h1:2≤l.length) (h2: ∀ x∈l,x≤2147483647) (h3:Ns l=true): ∀ x∈Uo l,x<256:=by
  intro x hx
  unfold Uo at hx
  rw[List.mem_append]at hx
  rcases hx with hx | hx
  ·exact AhA _ (YX h1 h2 h3).1 x hx
  ·obtain⟨n,hn,hx⟩:=List.mem_flatMap.1 hx
   have:=h2 n (List.mem_of_mem_drop hn)
   exact AhA n (by omega) x hx
theorem Oy (l:List Nat) (i:Nat):(ints l).getD i 0=((l.getD i 0:Nat):Int):=by
  unfold ints
  by_cases h:i<l.length
  ·rw[getD_lt _ _ _ (by rw[List.length_map];exact h),getD_lt _ _ _ h,List.getElem_map]
  ·rw[List.getD_eq_getElem?_getD,List.getD_eq_getElem?_getD,List.getElem?_eq_none (by rw[List.length_map];omega),List.getElem?_eq_none (by omega)];rfl
theorem Aff (l:List Nat):AO (ints l) 2 (ints l).length=ints (l.drop 2):=by
  unfold AO ints
  rw[List.take_length,List.map_drop]
theorem Uw (a b:List Nat):ints (a++b)=ints a++ints b:=by unfold ints;rw[List.map_append]
theorem Aca (f:Nat→List Nat): ∀(l:List Nat) (a:List Int),l.foldl (fun a n=>a++ints (f n)) a=a++ints (l.flatMap f):=by
  intro l
  induction l with
  | nil=>intro a;show a=a++[];rw[List.append_nil]
  | cons x r ih =>
    intro a
    rw[List.foldl_cons,ih,List.flatMap_cons,Uw,List.append_assoc]
theorem AlI (f:Nat→List Nat) (k:Nat): ∀(l:List Nat),(∀ x∈l,(f x).length≤k)→(l.flatMap f).length≤k*l.length:=by
  intro l
  induction l with
  | nil=>intro _;exact Nat.zero_le _
  | cons x r ih =>
    intro h
    rw[List.flatMap_cons,List.length_append,List.length_cons,Nat.mul_succ]
    have:=ih (fun y hy=>h y (List.mem_cons_of_mem _ hy))
    have:=h x List.mem_cons_self
    omega
theorem Agf {X E S ρ :Type} {g:S→E→S} {e:E} {s:S} {b:(X→Option ρ)→Option ρ} {nx:S→X} {I:S→Prop} (h:(∀ k,b k=k (nx (g s e)))∧I (g s e)):lN b nx I (TQ some g (none:Option ρ) e s):=h
theorem Acm {α :Type}: ∀ l:List α,I8 some l=some l:=by
  intro l
  induction l with
  | nil=>rfl
  | cons a r ih=>rw[jJ,ih];rfl
theorem aP (N:Nat) (s:Bs) (hN:16<N) (hs:s.length≤1048576):Pq N s=some (encR (DL s)):=by
  unfold Pq
  rw[qV N s hN hs,Ae]
  cases ha:DL s with
  | none=>rfl
  | some l =>
    obtain⟨h1,h2,h3,h4⟩:=Tn ha
    have hf:=YX h1 h3 h4
    show(bif (ints l).isEmpty then _ else _)=_
    rw[show AnP (some l)=ints l from rfl,show(ints l).isEmpty=false by rw[List.isEmpty_eq_false_iff_exists_mem];exact⟨_,List.mem_map.2 ⟨l.getD 0 0,by rw[getD_lt l 0 0 (by omega)];exact List.getElem_mem _,rfl⟩⟩,cond_false,Df,decide_eq_true (by omega),Aj,decide_eq_true (by omega),Aj,Oy,Oy]
    rw[w64 (x:=40*((l.getD 0 0:Nat):Int)) (by omega) (by omega),w64 (by omega) (by omega),show(40:Int)*((l.getD 0 0:Nat):Int)+((l.getD 1 0:Nat):Int)=((40*l.getD 0 0+l.getD 1 0:Nat):Int) by omega]
    dsimp only
    rw[zN N [] _ hf.1 hN (Nat.zero_le _),Ae]
    rw[decide_eq_true (by omega),Aj, ←Df l,Aff]
    generalize hd:l.drop 2=d
    have hdl:d.length≤10:=by rw[← hd,List.length_drop];omega
    have hdm: ∀ x∈d,x≤2147483647:=fun x hx=>h3 x (List.mem_of_mem_drop (hd▸hx))
    refine Eq.trans (Ez (S:=List Int) (mk:=fun i a=>(i,a)) (out:=fun a=>a) d 0 (fun i a=>a.length≤5*(i+1)) (TQ some (fun a n=>a++ints (Oi n)) none) ?_ ?_ N _ (by rw[List.nil_append,Df];have:=Va _ hf.1;omega) (by omega)) ?_
    ·intro i a hi ha
     rw[getD_lt d i 0 hi]
     have hn:=hdm d[i] (List.getElem_mem hi)
     refine Agf ⟨fun k=> ?_,?_⟩
     ·dsimp only[U2]
      rw[Df,decide_eq_true (by omega),cond_true,decide_eq_true (by omega),Aj,Aj,show((i:Int)).toNat=i by omega,Oy,getD_lt d i 0 hi,zN N a _ (by omega) hN (by omega),Ae,w64 (by omega) (by omega)]
     ·have:=Va d[i] (by omega)
      rw[List.length_append,Df];omega
    ·intro a k ha
     dsimp only[U2]
     rw[Df,decide_eq_false (by omega),cond_false]
    ·rw[Aga,Acm]
     dsimp only[Option.elim]
     rw[Aca,List.nil_append, ←Uw]
     have hb:=Ach (Aht h1 h3 h4)
     unfold Uo at hb
     rw[hd]at hb
     rw[hb.1,hb.2,Aj]
     show _=some ((Uo l).map UInt8.ofNat,0)
     unfold Uo
     rw[hd]
def hiD (m:Nat):List Nat:=if m=0 then []else hiD (m / 128)++[m % 128]
termination_by m
decreasing_by omega
theorem Ai0:hiD 0=[]:=by rw[hiD];rfl
theorem Am7 {m:Nat} (h:m≠0):hiD m=hiD (m / 128)++[m % 128]:=by rw[hiD,if_neg h]
theorem Ahv: ∀(k m:Nat),m<128 ^ k→(hiD m).map (· +128)=hi m∧(hiD m).length≤k∧ ∀ x∈hiD m,x<128:=by
  intro k
  induction k with
  | zero =>
    intro m h
    rw[Nat.pow_zero]at h
    rw[show m=0 by omega,uF,Ai0]
    exact⟨rfl,Nat.le_refl _,fun x h=>by cases h⟩
  | succ k ih =>
    intro m h
    by_cases h0:m=0
    ·rw[h0,uF,Ai0];exact⟨rfl,Nat.zero_le _,fun x h=>by cases h⟩
    ·obtain⟨h1,h2,h3⟩:=ih (m / 128) (by rw[Nat.pow_succ]at h;omega)
     rw[Ai1 h0,Am7 h0,List.map_append,h1,List.length_append]
     refine⟨rfl,by simp only[List.length_singleton];omega,fun x hx=> ?_⟩
     rw[List.mem_append,List.mem_singleton]at hx
     rcases hx with hx | rfl
     ·exact h3 x hx
     ·omega
def NS (n:Nat):List Nat:=hiD (n / 128)++[n % 128]
def bump:List Int→List Int
  | []=>[]
  | [x]=>[x]
  | x::y::r=>IntKind.u8.wrap (x+128)::bump (y::r)
theorem AjH (z:Int): ∀ a:List Int,bump (a++[z])=a.map (fun x=>IntKind.u8.wrap (x+128))++[z]:=by
  intro a
  induction a with
  | nil=>rfl
  | cons x r ih =>
    cases r with
    | nil=>rfl
    | cons y r =>
      show IntKind.u8.wrap (x+128)::bump ((y::r)++[z])=_
      rw[ih];rfl
theorem AjF (n:Nat) (h:n<34359738368):bump (ints (NS n))=ints (Oi n):=by
  obtain⟨h1,h2,h3⟩:=Ahv 4 (n / 128) (by omega)
  unfold NS Oi
  rw[Uw,Uw, ←h1]
  show bump (ints (hiD (n / 128))++[((n % 128:Nat):Int)])=_
  rw[AjH]
  congr 1
  unfold ints
  rw[List.map_map,List.map_map]
  refine List.map_congr_left fun x hx=> ?_
  have:=h3 x hx
  show IntKind.u8.wrap ((x:Int)+128)=((x+128:Nat):Int)
  rw[w8];omega
theorem Al7 (n:Nat) (h:n<34359738368):(NS n).length≤5:=by
  obtain⟨h1,h2,h3⟩:=Ahv 4 (n / 128) (by omega)
  unfold NS;rw[List.length_append];simp only[List.length_singleton];omega
theorem Al6 {ρ :Type} (N n:Nat) (L acc:List Int) (hn:n<34359738368) (hN:16<N) (fin:List Int×List Int×List Int→Option ρ) :
    Ak (X:=Int×List Int×List Int×List Int) (Y:=List Int×List Int×List Int) (U4 fun t8b l40192b l1004096b l1004112b k3 x4 =>
                        Vm.chk (decide ((1+l1004096b.length)*2≤140737488355328))
                          (bif i64.wrap (t8b.tdiv 128)==0 then
                            x4 (l40192b,[IntKind.u8.wrap (t8b.tmod 128)]++l1004096b,l1004112b)
                          else
                            k3
                              (i64.wrap (t8b.tdiv 128),l40192b,
                                [IntKind.u8.wrap (t8b.tmod 128)]++l1004096b,l1004112b))) N ((n:Int),L,[],acc) fin=fin (L,ints (NS n),acc):=by
  refine Eq.trans (Fe (I:=fun x:Int×List Int×List Int×List Int=> ∃(n:Nat) (c:List Int),x=((n:Int),L,c,acc)∧n<34359738368∧c.length+cnt n≤10) (μ :=fun x=>cnt x.1.toNat) (F:=fun x=>fin (L,ints (NS x.1.toNat)++x.2.2.1,acc)) ?_ N ((n:Int),L,[],acc) ⟨n,[],rfl,hn,by have:=cnt_le 5 n (by omega);simp only[List.length_nil];omega⟩ (by show cnt ((n:Int)).toNat<N;rw[show((n:Int)).toNat=n by omega];have:=cnt_le 5 n (by omega);omega)) ?_
  ·rintro x ⟨n,c,rfl,h1,h2⟩ k hk
   dsimp only[U4]
   have ht:((n:Int)).toNat=n:=by omega
   rw[decide_eq_true (by omega),Aj,show((n:Int)).tdiv 128=((n / 128:Nat):Int)from rfl,show((n:Int)).tmod 128=((n % 128:Nat):Int)from rfl,w64 (by omega) (by omega),w8,show((n % 128:Nat):Int) % 256=((n % 128:Nat):Int) by omega,ht]
   by_cases h0:n / 128=0
   ·rw[show(((n / 128:Nat):Int)==0)=true by rw[h0];rfl,cond_true]
    unfold NS
    rw[h0,Ai0]
    rfl
   ·have hb:(((n / 128:Nat):Int)==0)=false:=by
      apply Bool.eq_false_iff.2
      intro h
      have:=eq_of_beq h
      omega
    have hn0:n≠0:=fun e=>h0 (by rw[e])
    have e1:(((n / 128:Nat)):Int).toNat=n / 128:=by omega
    have hc:=AdX hn0
    rw[hb,cond_false,hk _ ⟨n / 128,_,rfl,by omega,by rw[List.length_append,List.length_singleton];omega⟩ (by show cnt (((n / 128:Nat)):Int).toNat<cnt ((n:Int)).toNat;rw[e1,ht];omega)]
    show fin (L,ints (NS (((n / 128:Nat)):Int).toNat)++([((n % 128:Nat):Int)]++c),acc)=_
    rw[e1, ←List.append_assoc]
    have:ints (NS (n / 128))++[((n % 128:Nat):Int)]=ints (NS n):=by
      rw[show NS n=NS (n / 128)++[n % 128] by unfold NS;rw[Am7 h0],Uw];rfl
    rw[this]
  ·show fin (L,ints (NS ((n:Int)).toNat)++[],acc)=_
   rw[List.append_nil,show((n:Int)).toNat=n by omega]
theorem AjG {ρ :Type} (N:Nat) (L A acc:List Int) (hA:A.length≤10) (hN:16<N) (fin:List Int×List Int×List Int→Option ρ) :
    Ak (X:=Int×List Int×List Int×List Int) (Y:=List Int×List Int×List Int) (U4 fun t10d l40192d l43264d l1012288d k5 x6 =>
                           bif decide (i64.wrap (t10d+1)< ↑l43264d.length)then
                             Vm.chk (decide (0≤t10d))
                               (Vm.chk (decide (t10d< ↑l43264d.length))
                                 (Vm.chk (decide (t10d.toNat<l43264d.length))
                                   (Vm.chk (decide (0≤t10d))
                                     (Vm.chk (decide (t10d< ↑l43264d.length))
                                       (Vm.chk (decide (t10d.toNat<l43264d.length))
                                         (k5
                                           (i64.wrap (t10d+1),l40192d,
                                             l43264d.set t10d.toNat
                                               (IntKind.u8.wrap (l43264d.getD t10d.toNat 0+128)),
                                             l1012288d)))))))
                           else x6 (l40192d,l43264d,l1012288d)) N (0,L,A,acc) fin=fin (L,bump A,acc):=by
  refine Eq.trans (Fe (I:=fun x:Int×List Int×List Int×List Int=> ∃ p s:List Int,x=((p.length:Int),L,p++s,acc)∧p.length+s.length≤10) (μ :=fun x=>x.2.2.1.length - x.1.toNat) (F:=fun x=>fin (L,x.2.2.1.take x.1.toNat++bump (x.2.2.1.drop x.1.toNat),acc)) ?_ N (0,L,A,acc) ⟨[],A,rfl,by simpa using hA⟩ (by show A.length - 0<N;omega)) ?_
  ·rintro x ⟨p,s,rfl,h1⟩ k hk
   dsimp only[U4]
   have ht:((p.length:Int)).toNat=p.length:=by omega
   rw[w64 (by omega) (by omega),ht,List.length_append,List.take_left,List.drop_left]
   match s with
   | [] =>
     rw[decide_eq_false (by simp only[List.length_nil];omega),cond_false];rfl
   | [x] =>
     rw[decide_eq_false (by simp only[List.length_singleton];omega),cond_false];rfl
   | x::y::r =>
     simp only[List.length_cons]at h1
     have hg:(p++x::y::r).getD p.length 0=x:=by
       rw[List.getD_eq_getElem?_getD,List.getElem?_append_right (Nat.le_refl _),Nat.sub_self];rfl
     have hset:(p++x::y::r).set p.length (IntKind.u8.wrap (x+128))=(p++[IntKind.u8.wrap (x+128)])++(y::r):=by
       rw[List.set_append_right _ _ (Nat.le_refl _),Nat.sub_self,List.append_assoc];rfl
     simp only[List.length_cons]
     rw[decide_eq_true (by omega),cond_true,decide_eq_true (by omega),Aj,decide_eq_true (by omega),Aj,decide_eq_true (by omega)]
     simp only[Aj]
     rw[hg,hset]
     have e1:((p.length:Int)+1)=(((p++[IntKind.u8.wrap (x+128)]).length:Nat):Int):=by rw[List.length_append,List.length_singleton];omega
     rw[e1,hk _ ⟨p++[IntKind.u8.wrap (x+128)],y::r,rfl,by rw[List.length_append];simp only[List.length_cons,List.length_nil];omega⟩ (by
       show((p++[IntKind.u8.wrap (x+128)])++(y::r)).length - (((p++[IntKind.u8.wrap (x+128)]).length:Nat):Int).toNat<(p++x::y::r).length - ((p.length:Nat):Int).toNat
       simp only[List.length_append,List.length_cons,List.length_nil]
       omega)]
     have e2:(((p++[IntKind.u8.wrap (x+128)]).length:Nat):Int).toNat=(p++[IntKind.u8.wrap (x+128)]).length:=by omega
     show fin (L,((p++[IntKind.u8.wrap (x+128)])++(y::r)).take (((p++[IntKind.u8.wrap (x+128)]).length:Nat):Int).toNat++bump (((p++[IntKind.u8.wrap (x+128)])++(y::r)).drop (((p++[IntKind.u8.wrap (x+128)]).length:Nat):Int).toNat),acc)=_
     rw[e2,List.take_left,List.drop_left,List.append_assoc]
     rfl
  ·rfl
theorem jR (N:Nat) (s:Bs) (hN:16<N) (hs:s.length≤1048576) (hl:s.length+1<N):KA N s=some (encR (DL s)):=by
  unfold KA
  rw[Yf N s hN hs hl,Ae]
  cases ha:DL s with
  | none=>rfl
  | some l =>
    obtain⟨h1,h2,h3,h4⟩:=Tn ha
    have hf:=YX h1 h3 h4
    rw[show lC (some l)=(ints l,true)from rfl]
    dsimp only
    rw[Df,Bool.not_true,cond_false,decide_eq_true (by omega),Aj,decide_eq_true (by omega),Aj,Oy,Oy]
    rw[w64 (x:=40*((l.getD 0 0:Nat):Int)) (by omega) (by omega),w64 (by omega) (by omega),show(40:Int)*((l.getD 0 0:Nat):Int)+((l.getD 1 0:Nat):Int)=((40*l.getD 0 0+l.getD 1 0:Nat):Int) by omega]
    try dsimp only
    rw[← Df l,Aff,Df]
    generalize hd:l.drop 2=d
    have hdl:d.length≤10:=by rw[← hd,List.length_drop];omega
    have hdm: ∀ x∈d,x≤2147483647:=fun x hx=>h3 x (List.mem_of_mem_drop (hd▸hx))
    have he: [((40*l.getD 0 0+l.getD 1 0:Nat):Int)]++ints d=ints ((40*l.getD 0 0+l.getD 1 0)::d):=rfl
    rw[he]
    have hout:Uo l=((40*l.getD 0 0+l.getD 1 0)::d).flatMap Oi:=by unfold Uo;rw[hd];rfl
    have hb:=Ach (Aht h1 h3 h4)
    rw[hout]at hb
    show _=some ((Uo l).map UInt8.ofNat,0)
    rw[hout]
    generalize hee:(40*l.getD 0 0+l.getD 1 0)::d=e at hb ⊢
    have hel:e.length≤11:=by rw[← hee,List.length_cons];omega
    have hem: ∀ x∈e,x<34359738368:=by
      intro x hx
      rw[← hee]at hx
      rcases List.mem_cons.1 hx with rfl | hx
      ·exact hf.1
      ·have:=hdm x hx;omega
    rw[decide_eq_true (by omega),Aj,decide_eq_true (by rw[Df];omega),Aj]
    refine Eq.trans (Ez (S:=List Int) (mk:=fun i a=>(i,ints e,a)) (out:=fun a=>a) e 0 (fun i a=>a.length≤5*i) (TQ some (fun a n=>a++ints (Oi n)) none) ?_ ?_ N [] (Nat.le_refl _) (by omega)) ?_
    ·intro i a hi ha
     rw[getD_lt e i 0 hi]
     have hn:=hem e[i] (List.getElem_mem hi)
     have hdl:=Al7 e[i] hn
     have hsl:=Va e[i] hn
     refine Agf ⟨fun k=> ?_,?_⟩
     ·show(bif decide ((i:Int)<((ints e).length:Int))then _ else _)=_
      rw[Df,decide_eq_true (by omega),cond_true,decide_eq_true (by omega),Aj,Aj,show((i:Int)).toNat=i by omega,decide_eq_true (by omega),Aj,Oy,getD_lt e i 0 hi,Al6 N e[i] (ints e) a hn hN]
      dsimp only[U3]
      rw[AjG N (ints e) (ints (NS e[i])) a (by rw[Df];omega) hN]
      dsimp only[U3]
      rw[AjF _ hn,Df,decide_eq_true (by omega),Aj,w64 (by omega) (by omega)]
     ·rw[List.length_append,Df];omega
    ·intro a k ha
     show(bif decide ((e.length:Int)<((ints e).length:Int))then _ else _)=_
     rw[Df,decide_eq_false (by omega),cond_false]
    ·rw[Aga,Acm]
     dsimp only[Option.elim]
     rw[Aca,List.nil_append]
     rw[hb.1,hb.2,Aj]
theorem TS (N:Nat) (s:Bs) (hN:16<N) (hs:s.length≤1048576) (hl:s.length+1<N):Gw N s=some (DL s).isSome∧Dz N s=some (DL s).isSome:=by
  unfold Gw Dz
  rw[qV N s hN hs,Yf N s hN hs hl,Ae,Ae]
  cases ha:DL s with
  | none=>exact⟨rfl,rfl⟩
  | some l =>
    obtain⟨h1,h2,h3,h4⟩:=Tn ha
    refine⟨?_,rfl⟩
    show some (!(ints l).isEmpty)=_
    rw[show(ints l).isEmpty=false by rw[List.isEmpty_eq_false_iff_exists_mem];exact⟨_,List.mem_map.2 ⟨l.getD 0 0,by rw[getD_lt l 0 0 (by omega)];exact List.getElem_mem _,rfl⟩⟩]
    rfl
abbrev dd (n:Nat):Bs:=Lib.decDigits n
theorem Aks {X Y ρ :Type} {B:X→(X→Option ρ)→(Y→Option ρ)→Option ρ} {kx:Y→Option ρ} (P:X→Option ρ →Prop) (μ :X→Nat)
    (h: ∀ x v,P x v→ ∀ k:X→Option ρ,(∀ x' v',P x' v'→ μ x'< μ x→k x'=v')→B x k kx=v): ∀(N:Nat) (x:X) (v:Option ρ),P x v→ μ x<N→Ak B N x kx=v:=by
  intro N
  induction N with
  | zero=>intro x v _ h;omega
  | succ N ih=>intro x v hI hm;exact h x v hI _ (fun x' v' hI' hm'=>ih x' v' hI' (by omega))
def cc (acc:List Nat):Nat:=if acc=[]then 0 else acc.length+1
theorem OA {E ρ :Type} (p:E→Bool) (bad:Option ρ) (fin:Unit→Option ρ): ∀ l:List E,Jg (fun e (_:Unit)=>if p e=true then .inr ()else .inl bad) fin l ()=if l.all p=true then fin ()else bad:=by
  intro l
  induction l with
  | nil=>rfl
  | cons e r ih =>
    rw[List.all_cons]
    unfold Jg
    by_cases h:p e=true
    ·rw[if_pos h,h,Bool.true_and];exact ih
    ·rw[if_neg h,if_neg (by simp [h])]
theorem Io {X E ρ :Type} {p:E→Bool} {bad:Option ρ} {e:E} {b:(X→Option ρ)→Option ρ} {nx:Unit→X} {I:Unit→Prop} (h0:p e=false→ ∀ k,b k=bad) (h1:p e=true→(∀ k,b k=k (nx ()))∧I ()):lN b nx I (if p e=true then .inr ()else .inl bad):=by
  cases h:p e with
  | true=>rw[if_pos rfl];exact h1 h
  | false=>rw[if_neg (by decide)];exact h0 h
def nG:Bs:=[32,39,40,41,43,44,45,46,47,58,61,63]
def JE (c:UInt8):Bool:=(decide (97≤c.toNat)&&decide (c.toNat≤122))||(decide (65≤c.toNat)&&decide (c.toNat≤90))||(decide (48≤c.toNat)&&decide (c.toNat≤57))
def prC (c:UInt8):Bool:=JE c||nG.any (· ==c)
def iaC (c:UInt8):Bool:=decide (32≤c.toNat)&&decide (c.toNat≤126)
theorem Y2 {P:UInt8→Prop} (h: ∀ n:Fin 256,P (UInt8.ofNat n.val)) (c:UInt8):P c:=by
  have:=h ⟨c.toNat,UInt8.toNat_lt c⟩
  rwa [UInt8.ofNat_toNat]at this
theorem Y4 (N:Nat) (c:UInt8):Gx N (c.toNat:Int)=some (JE c):=by
  refine Y2 (P:=fun c=>Gx N (c.toNat:Int)=some (JE c)) ?_ c
  show ∀ n:Fin 256,Gx 0 ((UInt8.ofNat n.val).toNat:Int)=some (JE (UInt8.ofNat n.val))
  decide +kernel
theorem AhH (N:Nat) (c:UInt8):Jh N (c.toNat:Int)=some (prC c):=by
  refine Y2 (P:=fun c=>Jh N (c.toNat:Int)=some (prC c)) ?_ c
  show ∀ n:Fin 256,Jh 0 ((UInt8.ofNat n.val).toNat:Int)=some (prC (UInt8.ofNat n.val))
  decide +kernel
theorem AhI (N:Nat) (c:UInt8):Ji N (c.toNat:Int)=some (iaC c):=by
  refine Y2 (P:=fun c=>Ji N (c.toNat:Int)=some (iaC c)) ?_ c
  show ∀ n:Fin 256,Ji 0 ((UInt8.ofNat n.val).toNat:Int)=some (iaC (UInt8.ofNat n.val))
  decide +kernel
theorem Aep (N:Nat) (l:Bs) (c:UInt8) (hl:l.length<N) (hs:l.length≤1048576):IA N (c.toNat:Int) l=some (l.any (· ==c)):=by
  unfold IA
  refine Eq.trans (Ez (S:=Unit) (mk:=fun i _=>i) (out:=fun a=>a) l 0 (fun _ _=>True) (fun e (_:Unit)=>if(!(e==c))=true then .inr ()else .inl (some true)) ?_ ?_ N () trivial hl) ?_
  ·intro i a hi _
   refine Io (p:=fun e=> !(e==c)) (fun h k=> ?_) (fun h=>⟨fun k=> ?_,trivial⟩)
   ·have hb:((((l.getD i 0).toNat:Nat):Int)==((c.toNat:Nat):Int))=true:=by
      have:l.getD i 0=c:=by simpa using h
      rw[this];simp
    rw[show((i:Int)).toNat=i by omega,decide_eq_true (by omega),cond_true,decide_eq_true (by omega),Aj,Aj,hb,cond_true]
   ·have hb:((((l.getD i 0).toNat:Nat):Int)==((c.toNat:Nat):Int))=false:=by
      apply Bool.eq_false_iff.2
      intro h2
      have h3:=eq_of_beq h2
      have h4:l.getD i 0=c:=UInt8.toNat_inj.1 (by omega)
      rw[h4]at h
      simp at h
    rw[show((i:Int)).toNat=i by omega,decide_eq_true (by omega),cond_true,decide_eq_true (by omega),Aj,Aj,hb,cond_false,w64 (by omega) (by omega)]
  ·intro a k _
   rw[decide_eq_false (by omega),cond_false]
  ·rw[OA (p:=fun e=> !(e==c))]
   rw[show l.any (· ==c)= !(l.all fun e=> !(e==c)) by rw[List.not_all_eq_any_not];simp]
   cases l.all fun e=> !(e==c)<;>rfl
theorem all_eq (N f:Nat) (s:Bs) (p:UInt8→Bool) (hf: ∀ c:UInt8,mO N f (c.toNat:Int)=some (p c)) (hl:s.length<N) (hs:s.length≤1048576):Oj N s f=some (s.all p):=by
  unfold Oj
  refine Eq.trans (Ez (S:=Unit) (mk:=fun i _=>i) (out:=fun a=>a) s 0 (fun _ _=>True) (fun e (_:Unit)=>if p e=true then .inr ()else .inl (some false)) ?_ ?_ N () trivial hl) ?_
  ·intro i a hi _
   have key: ∀(A:Option Bool) (K:Bool→Option Bool),(bif decide ((i:Int)<(s.length:Int))then Vm.chk (decide (0≤(i:Int))) (Vm.chk (decide ((i:Int)<(s.length:Int))) (Ad (mO N f ((s.getD (i:Int).toNat 0).toNat:Int)) K))else A)=K (p (s.getD i 0)):=by
     intro A K
     rw[show((i:Int)).toNat=i by omega,decide_eq_true (by omega),cond_true,decide_eq_true (by omega),Aj,Aj,hf,Ae]
   refine Io (p:=p) (fun h k=> ?_) (fun h=>⟨fun k=> ?_,trivial⟩)
   ·rw[key,h];rfl
   ·rw[key,h,w64 (by omega) (by omega)];rfl
  ·intro a k _
   rw[decide_eq_false (by omega),cond_false]
  ·rw[OA]
   cases s.all p<;>rfl
theorem Alg (N:Nat) (s:Bs) (hl:s.length<N) (hs:s.length≤1048576):J8 N 19 s=some (s.all prC):=by
  show Ad (Oj N s 286) (fun r=>some r)=_
  rw[all_eq N 286 s prC (fun c=>AhH N c) hl hs];rfl
theorem Alh (N:Nat) (s:Bs) (hl:s.length<N) (hs:s.length≤1048576):J8 N 22 s=some (s.all iaC):=by
  show Ad (Oj N s 289) (fun r=>some r)=_
  rw[all_eq N 289 s iaC (fun c=>AhI N c) hl hs];rfl
theorem Aew (N:Nat) (s:Bs) (hl:s.length<N) (hs:s.length≤1048576) (hN:16<N):D9 N 19 s=some (s.all prC):=by
  unfold D9
  try simp only[clR]
  simp only[show((19:Int)==12)=false from rfl,show((19:Int)==19)=true from rfl,show((19:Int)==22)=false from rfl,cond_false,cond_true,Oz,Bool.false_and,Bool.not_false,Bool.not_true,Bool.true_and,Bool.or_true,Bool.true_or,Bool.false_or,Bool.or_false,Aj]
  refine Eq.trans (Ez (S:=Unit) (mk:=fun i _=>i) (out:=fun a=>a) s 0 (fun _ _=>True) (fun e (_:Unit)=>if prC e=true then .inr ()else .inl (some false)) ?_ ?_ N () trivial hl) ?_
  ·intro i a hi _
   have ha:=Aep N nG (s.getD i 0) (by show 12<N;omega) (by decide)
   refine Io (p:=prC) (fun h k=> ?_) (fun h=>⟨fun k=> ?_,trivial⟩)
   ·unfold prC at h
    rw[show((i:Int)).toNat=i by omega,decide_eq_true (show(i:Int)<(s.length:Int) by omega),cond_true,decide_eq_true (show(0:Int)≤(i:Int) by omega),Y4,show([32,39,40,41,43,44,45,46,47,58,61,63]:Bs)=nG from rfl,ha]
    generalize JE (s.getD i 0)=q at h ⊢
    generalize nG.any (fun x=>x==s.getD i 0)=r at h ⊢
    cases q<;>cases r<;>first | rfl | exact absurd h (by decide)
   ·unfold prC at h
    rw[show((i:Int)).toNat=i by omega,decide_eq_true (show(i:Int)<(s.length:Int) by omega),cond_true,decide_eq_true (show(0:Int)≤(i:Int) by omega),Y4,show([32,39,40,41,43,44,45,46,47,58,61,63]:Bs)=nG from rfl,ha,w64 (by omega) (by omega)]
    generalize JE (s.getD i 0)=q at h ⊢
    generalize nG.any (fun x=>x==s.getD i 0)=r at h ⊢
    cases q<;>cases r<;>first | rfl | exact absurd h (by decide)
  ·intro a k _
   rw[decide_eq_false (by omega),cond_false]
  ·rw[OA]
   cases s.all prC<;>rfl
theorem Aex (N:Nat) (s:Bs) (hl:s.length<N) (hs:s.length≤1048576):D9 N 22 s=some (s.all iaC):=by
  unfold D9
  try simp only[clR]
  simp only[show((22:Int)==12)=false from rfl,show((22:Int)==19)=false from rfl,show((22:Int)==22)=true from rfl,cond_false,cond_true,Oz,Bool.false_and,Bool.and_false,Bool.not_false,Bool.not_true,Bool.true_and,Bool.or_true,Bool.true_or,Bool.false_or,Bool.or_false,Aj]
  refine Eq.trans (Ez (S:=Unit) (mk:=fun i _=>i) (out:=fun a=>a) s 0 (fun _ _=>True) (fun e (_:Unit)=>if iaC e=true then .inr ()else .inl (some false)) ?_ ?_ N () trivial hl) ?_
  ·intro i a hi _
   have key: ∀(c:UInt8),decide (((c.toNat:Nat):Int)<32)=decide (c.toNat<32)∧decide (((c.toNat:Nat):Int)>126)=decide (126<c.toNat):=fun c=>⟨by congr 1;apply propext;omega,by congr 1;apply propext;omega⟩
   refine Io (p:=iaC) (fun h k=> ?_) (fun h=>⟨fun k=> ?_,trivial⟩)
   ·unfold iaC at h
    rw[show((i:Int)).toNat=i by omega,decide_eq_true (show(i:Int)<(s.length:Int) by omega),cond_true,decide_eq_true (show(0:Int)≤(i:Int) by omega)]
    have h2:(decide (((s.getD i 0).toNat:Int)<32)||decide (((s.getD i 0).toNat:Int)>126))=true:=by
      simp only[Bool.and_eq_false_iff,decide_eq_false_iff_not]at h
      simp only[Bool.or_eq_true,decide_eq_true_eq]
      omega
    generalize decide (((s.getD i 0).toNat:Int)<32)=q at h2 ⊢
    generalize decide (((s.getD i 0).toNat:Int)>126)=r at h2 ⊢
    cases q<;>cases r<;>first | rfl | exact absurd h2 (by decide)
   ·unfold iaC at h
    rw[show((i:Int)).toNat=i by omega,decide_eq_true (show(i:Int)<(s.length:Int) by omega),cond_true,decide_eq_true (show(0:Int)≤(i:Int) by omega),w64 (by omega) (by omega)]
    have h2:decide (((s.getD i 0).toNat:Int)<32)=false∧decide (((s.getD i 0).toNat:Int)>126)=false:=by
      simp only[Bool.and_eq_true,decide_eq_true_eq]at h
      simp only[decide_eq_false_iff_not]
      omega
    rw[h2.1,h2.2]
    rfl
  ·intro a k _
   rw[decide_eq_false (by omega),cond_false]
  ·rw[OA]
   cases s.all iaC<;>rfl
