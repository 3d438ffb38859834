import Derived.Test.YtadefjgbcapakaaGreatDoorA16
import Derived.Lib.TrimUEq
set_option linter.all false
namespace Go.Proofs.YtadefjgbcapakaaGreatDoor.Pl
open IntKind (i64)
open Go Vm
def hiD (m:Nat):List Nat:=if m=0 then []else hiD (m / 128)++[m % 128]
termination_by m
decreasing_by omega
theorem Ahn:hiD 0=[]:=by rw[hiD];rfl
theorem Al0 {m:Nat} (h:m≠0):hiD m=hiD (m / 128)++[m % 128]:=by rw[hiD,if_neg h]
theorem Agk: ∀(k m:Nat),m<128 ^ k->(hiD m).map (· +128)=hi m/\(hiD m).length<=k/\ ∀ x∈hiD m,x<128:=by
  intro k
  induction k with
  | zero =>
    intro m h
    rw[Nat.pow_zero]at h
    rw[show m=0 by omega,sO,Ahn]
    exact⟨rfl,Nat.le_refl _,fun x h=>by cases h⟩
  | succ k ih =>
    intro m h
    by_cases h0:m=0
    ·rw[h0,sO,Ahn];exact⟨rfl,Nat.zero_le _,fun x h=>by cases h⟩
    ·obtain⟨h1,h2,h3⟩:=ih (m / 128) (by rw[Nat.pow_succ]at h;omega)
     rw[Aho h0,Al0 h0,List.map_append,h1,List.length_append]
     refine⟨rfl,by simp only[List.length_singleton];omega,fun x hx=> ?_⟩
     rw[List.mem_append,List.mem_singleton]at hx
     rcases hx with hx | rfl
     ·exact h3 x hx
     ·omega
def NH (n:Nat):List Nat:=hiD (n / 128)++[n % 128]
def bump:List Int->List Int
  | []=>[]
  | [x]=>[x]
  | x::y::r=>IntKind.u8.wrap (x+128)::bump (y::r)
theorem Aix (z:Int): ∀ a:List Int,bump (a++[z])=a.map (fun x=>IntKind.u8.wrap (x+128))++[z]:=by
  intro a
  induction a with
  | nil=>rfl
  | cons x r ih =>
    cases r with
    | nil=>rfl
    | cons y r =>
      show IntKind.u8.wrap (x+128)::bump ((y::r)++[z])=_
      rw[ih];rfl
theorem Aiv (n:Nat) (h:n<34359738368):bump (ints (NH n))=ints (NY n):=by
  obtain⟨h1,h2,h3⟩:=Agk 4 (n / 128) (by omega)
  unfold NH NY
  rw[QF,QF,<- h1]
  show bump (ints (hiD (n / 128))++[((n % 128:Nat):Int)])=_
  rw[Aix]
  congr 1
  unfold ints
  rw[List.map_map,List.map_map]
  refine List.map_congr_left fun x hx=> ?_
  have:=h3 x hx
  show IntKind.u8.wrap ((x:Int)+128)=((x+128:Nat):Int)
  rw[w8];omega
theorem Aki (n:Nat) (h:n<34359738368):(NH n).length<=5:=by
  obtain⟨h1,h2,h3⟩:=Agk 4 (n / 128) (by omega)
  unfold NH;rw[List.length_append];simp only[List.length_singleton];omega
theorem Akh {ρ :Type} (N n:Nat) (L acc:List Int) (hn:n<34359738368) (hN:16<N) (fin:List Int×List Int×List Int->Option ρ) :
    Ap (X:=Int×List Int×List Int×List Int) (Y:=List Int×List Int×List Int) (U4 fun t8b l40192b l1004096b l1004112b k3 x4 =>
                        Vm.chk (decide ((1+l1004096b.length)*2<=140737488355328))
                          (bif i64.wrap (t8b.tdiv 128)==0 then
                            x4 (l40192b,[IntKind.u8.wrap (t8b.tmod 128)]++l1004096b,l1004112b)
                          else
                            k3
                              (i64.wrap (t8b.tdiv 128),l40192b,
                                [IntKind.u8.wrap (t8b.tmod 128)]++l1004096b,l1004112b))) N ((n:Int),L,[],acc) fin=fin (L,ints (NH n),acc):=by
  refine Eq.trans (DI (I:=fun x:Int×List Int×List Int×List Int=> ∃(n:Nat) (c:List Int),x=((n:Int),L,c,acc)/\n<34359738368/\c.length+cnt n<=10) (μ :=fun x=>cnt x.1.toNat) (F:=fun x=>fin (L,ints (NH x.1.toNat)++x.2.2.1,acc)) ?_ N ((n:Int),L,[],acc) ⟨n,[],rfl,hn,by have:=cnt_le 5 n (by omega);simp only[List.length_nil];omega⟩ (by show cnt ((n:Int)).toNat<N;rw[show((n:Int)).toNat=n by omega];have:=cnt_le 5 n (by omega);omega)) ?_
  ·rintro x ⟨n,c,rfl,h1,h2⟩ k hk
   dsimp only[U4]
   have ht:((n:Int)).toNat=n:=by omega
   rw[decide_eq_true (by omega),Ai,show((n:Int)).tdiv 128=((n / 128:Nat):Int)from rfl,show((n:Int)).tmod 128=((n % 128:Nat):Int)from rfl,w64 (by omega) (by omega),w8,show((n % 128:Nat):Int) % 256=((n % 128:Nat):Int) by omega,ht]
   by_cases h0:n / 128=0
   ·rw[show(((n / 128:Nat):Int)==0)=true by rw[h0];rfl,cond_true]
    unfold NH
    rw[h0,Ahn]
    rfl
   ·have hb:(((n / 128:Nat):Int)==0)=false:=by
      apply Bool.eq_false_iff.2
      intro h
      have:=eq_of_beq h
      omega
    have hn0:n≠0:=fun e=>h0 (by rw[e])
    have e1:(((n / 128:Nat)):Int).toNat=n / 128:=by omega
    have hc:=Ade hn0
    rw[hb,cond_false,hk _ ⟨n / 128,_,rfl,by omega,by rw[List.length_append,List.length_singleton];omega⟩ (by show cnt (((n / 128:Nat)):Int).toNat<cnt ((n:Int)).toNat;rw[e1,ht];omega)]
    show fin (L,ints (NH (((n / 128:Nat)):Int).toNat)++([((n % 128:Nat):Int)]++c),acc)=_
    rw[e1,<- List.append_assoc]
    have:ints (NH (n / 128))++[((n % 128:Nat):Int)]=ints (NH n):=by
      rw[show NH n=NH (n / 128)++[n % 128] by unfold NH;rw[Al0 h0],QF];rfl
    rw[this]
  ·show fin (L,ints (NH ((n:Int)).toNat)++[],acc)=_
   rw[List.append_nil,show((n:Int)).toNat=n by omega]
theorem Aiw {ρ :Type} (N:Nat) (L A acc:List Int) (hA:A.length<=10) (hN:16<N) (fin:List Int×List Int×List Int->Option ρ) :
    Ap (X:=Int×List Int×List Int×List Int) (Y:=List Int×List Int×List Int) (U4 fun t10d l40192d l43264d l1012288d k5 x6 =>
                           bif decide (i64.wrap (t10d+1)< ↑l43264d.length)then
                             Vm.chk (decide (0<=t10d))
                               (Vm.chk (decide (t10d< ↑l43264d.length))
                                 (Vm.chk (decide (t10d.toNat<l43264d.length))
                                   (Vm.chk (decide (0<=t10d))
                                     (Vm.chk (decide (t10d< ↑l43264d.length))
                                       (Vm.chk (decide (t10d.toNat<l43264d.length))
                                         (k5
                                           (i64.wrap (t10d+1),l40192d,
                                             l43264d.set t10d.toNat
                                               (IntKind.u8.wrap (l43264d.getD t10d.toNat 0+128)),
                                             l1012288d)))))))
                           else x6 (l40192d,l43264d,l1012288d)) N (0,L,A,acc) fin=fin (L,bump A,acc):=by
  refine Eq.trans (DI (I:=fun x:Int×List Int×List Int×List Int=> ∃ p s:List Int,x=((p.length:Int),L,p++s,acc)/\p.length+s.length<=10) (μ :=fun x=>x.2.2.1.length - x.1.toNat) (F:=fun x=>fin (L,x.2.2.1.take x.1.toNat++bump (x.2.2.1.drop x.1.toNat),acc)) ?_ N (0,L,A,acc) ⟨[],A,rfl,by simpa using hA⟩ (by show A.length - 0<N;omega)) ?_
  ·rintro x ⟨p,s,rfl,h1⟩ k hk
   dsimp only[U4]
   have ht:((p.length:Int)).toNat=p.length:=by omega
   rw[w64 (by omega) (by omega),ht,List.length_append,List.take_left,List.drop_left]
   match s with
   | [] =>
     rw[decide_eq_false (by simp only[List.length_nil];omega),cond_false];rfl
   | [x] =>
     rw[decide_eq_false (by simp only[List.length_singleton];omega),cond_false];rfl
   | x::y::r =>
     simp only[List.length_cons]at h1
     have hg:(p++x::y::r).getD p.length 0=x:=by
       rw[List.getD_eq_getElem?_getD,List.getElem?_append_right (Nat.le_refl _),Nat.sub_self];rfl
     have hset:(p++x::y::r).set p.length (IntKind.u8.wrap (x+128))=(p++[IntKind.u8.wrap (x+128)])++(y::r):=by
       rw[List.set_append_right _ _ (Nat.le_refl _),Nat.sub_self,List.append_assoc];rfl
     simp only[List.length_cons]
     rw[decide_eq_true (by omega),cond_true,decide_eq_true (by omega),Ai,decide_eq_true (by omega),Ai,decide_eq_true (by omega)]
     simp only[Ai]
     rw[hg,hset]
     have e1:((p.length:Int)+1)=(((p++[IntKind.u8.wrap (x+128)]).length:Nat):Int):=by rw[List.length_append,List.length_singleton];omega
     rw[e1,hk _ ⟨p++[IntKind.u8.wrap (x+128)],y::r,rfl,by rw[List.length_append];simp only[List.length_cons,List.length_nil];omega⟩ (by
       show((p++[IntKind.u8.wrap (x+128)])++(y::r)).length - (((p++[IntKind.u8.wrap (x+128)]).length:Nat):Int).toNat<(p++x::y::r).length - ((p.length:Nat):Int).toNat
       simp only[List.length_append,List.length_cons,List.length_nil]
       omega)]
     have e2:(((p++[IntKind.u8.wrap (x+128)]).length:Nat):Int).toNat=(p++[IntKind.u8.wrap (x+128)]).length:=by omega
     show fin (L,((p++[IntKind.u8.wrap (x+128)])++(y::r)).take (((p++[IntKind.u8.wrap (x+128)]).length:Nat):Int).toNat++bump (((p++[IntKind.u8.wrap (x+128)])++(y::r)).drop (((p++[IntKind.u8.wrap (x+128)]).length:Nat):Int).toNat),acc)=_
     rw[e2,List.take_left,List.drop_left,List.append_assoc]
     rfl
  ·rfl
theorem kL (N:Nat) (s:Bs) (hN:16<N) (hs:s.length<=1048576) (hl:s.length+1<N):JL N s=some (encR (Dt s)):=by
  unfold JL
  rw[Y1 N s hN hs hl,Ae]
  cases ha:Dt s with
  | none=>rfl
  | some l =>
    obtain⟨h1,h2,h3,h4⟩:=TM ha
    have hf:=Zq h1 h3 h4
    rw[show lH (some l)=(ints l,true)from rfl]
    dsimp only
    rw[BQ,Bool.not_true,cond_false,decide_eq_true (by omega),Ai,decide_eq_true (by omega),Ai,Kz,Kz]
    rw[w64 (x:=40*((l.getD 0 0:Nat):Int)) (by omega) (by omega),w64 (by omega) (by omega),show(40:Int)*((l.getD 0 0:Nat):Int)+((l.getD 1 0:Nat):Int)=((40*l.getD 0 0+l.getD 1 0:Nat):Int) by omega]
    try dsimp only
    rw[<- BQ l,Aeq,BQ]
    generalize hd:l.drop 2=d
    have hdl:d.length<=10:=by rw[<- hd,List.length_drop];omega
    have hdm: ∀ x∈d,x<=2147483647:=fun x hx=>h3 x (List.mem_of_mem_drop (hd▸hx))
    have he: [((40*l.getD 0 0+l.getD 1 0:Nat):Int)]++ints d=ints ((40*l.getD 0 0+l.getD 1 0)::d):=rfl
    rw[he]
    have hout:UL l=((40*l.getD 0 0+l.getD 1 0)::d).flatMap NY:=by unfold UL;rw[hd];rfl
    have hb:=jE (Agh h1 h3 h4)
    rw[hout]at hb
    show _=some ((UL l).map UInt8.ofNat,0)
    rw[hout]
    generalize hee:(40*l.getD 0 0+l.getD 1 0)::d=e at hb ⊢
    have hel:e.length<=11:=by rw[<- hee,List.length_cons];omega
    have hem: ∀ x∈e,x<34359738368:=by
      intro x hx
      rw[<- hee]at hx
      rcases List.mem_cons.1 hx with rfl | hx
      ·exact hf.1
      ·have:=hdm x hx;omega
    rw[decide_eq_true (by omega),Ai,decide_eq_true (by rw[BQ];omega),Ai]
    refine Eq.trans (DY (S:=List Int) (mk:=fun i a=>(i,ints e,a)) (out:=fun a=>a) e 0 (fun i a=>a.length<=5*i) (Rk some (fun a n=>a++ints (NY n)) none) ?_ ?_ N [] (Nat.le_refl _) (by omega)) ?_
    ·intro i a hi ha
     rw[getD_lt e i 0 hi]
     have hn:=hem e[i] (List.getElem_mem hi)
     have hdl:=Aki e[i] hn
     have hsl:=V5 e[i] hn
     refine Afe ⟨fun k=> ?_,?_⟩
     ·show(bif decide ((i:Int)<((ints e).length:Int))then _ else _)=_
      rw[BQ,decide_eq_true (by omega),cond_true,decide_eq_true (by omega),Ai,Ai,show((i:Int)).toNat=i by omega,decide_eq_true (by omega),Ai,Kz,getD_lt e i 0 hi,Akh N e[i] (ints e) a hn hN]
      dsimp only[U3]
      rw[Aiw N (ints e) (ints (NH e[i])) a (by rw[BQ];omega) hN]
      dsimp only[U3]
      rw[Aiv _ hn,BQ,decide_eq_true (by omega),Ai,w64 (by omega) (by omega)]
     ·rw[List.length_append,BQ];omega
    ·intro a k ha
     show(bif decide ((e.length:Int)<((ints e).length:Int))then _ else _)=_
     rw[BQ,decide_eq_false (by omega),cond_false]
    ·rw[zH,AbB]
     dsimp only[Option.elim]
     rw[Aby,List.nil_append]
     rw[hb.1,hb.2,Ai]
theorem Ul (N:Nat) (s:Bs) (hN:16<N) (hs:s.length<=1048576) (hl:s.length+1<N):GR N s=some (Dt s).isSome/\Du N s=some (Dt s).isSome:=by
  unfold GR Du
  rw[qI N s hN hs,Y1 N s hN hs hl,Ae,Ae]
  cases ha:Dt s with
  | none=>exact⟨rfl,rfl⟩
  | some l =>
    obtain⟨h1,h2,h3,h4⟩:=TM ha
    refine⟨?_,rfl⟩
    show some (!(ints l).isEmpty)=_
    rw[show(ints l).isEmpty=false by rw[List.isEmpty_eq_false_iff_exists_mem];exact⟨_,List.mem_map.2 ⟨l.getD 0 0,by rw[getD_lt l 0 0 (by omega)];exact List.getElem_mem _,rfl⟩⟩]
    rfl
abbrev dd (n:Nat):Bs:=Lib.decDigits n
theorem OO {n:Nat} (h:n<10):dd n=[UInt8.ofNat (48+n)]:=Lib.decDigits_one h
theorem Un {n:Nat} (h: ¬ n<10):dd n=dd (n / 10)++[UInt8.ofNat (48+n % 10)]:=by
  show Lib.decDigits n=_
  rw[Lib.decDigits,dif_neg h]
theorem mP {k:Nat} (h:k<10):(UInt8.ofNat (48+k)).toNat=48+k:=by
  rw[UInt8.toNat_ofNat'];omega
theorem AfZ {k:Nat} (h:k<10):CO (UInt8.ofNat (48+k))=true:=by
  unfold CO
  rw[mP h]
  simp only[Bool.and_eq_true,decide_eq_true_eq]
  omega
theorem AdM (n:Nat):(dd n).all CO=true:=by
  induction n using Nat.strongRecOn with
  | _ n ih =>
    by_cases h:n<10
    ·rw[OO h,List.all_cons,AfZ h];rfl
    ·rw[Un h,List.all_append,ih (n / 10) (by omega),List.all_cons,AfZ (by omega)];rfl
theorem AmH (n:Nat):Es (dd n)=n:=by
  induction n using Nat.strongRecOn with
  | _ n ih =>
    by_cases h:n<10
    ·rw[OO h]
     show 10*0+((UInt8.ofNat (48+n)).toNat - 48)=n
     rw[mP h];omega
    ·rw[Un h,iE,ih (n / 10) (by omega),mP (by omega)];omega
theorem Aly (n:Nat):dd n≠ []:=by
  by_cases h:n<10
  ·rw[OO h];simp
  ·rw[Un h];simp
theorem XV (k n:Nat) (h:n<10 ^ (k+1)):1<=(dd n).length/\(dd n).length<=k+1:=by
  constructor
  ·exact List.length_pos_iff.2 (Aly n)
  ·induction k generalizing n with
   | zero=>rw[OO (by simpa using h)];exact Nat.le_refl _
   | succ k ih =>
     by_cases h1:n<10
     ·rw[OO h1];simp
     ·rw[Un h1,List.length_append,List.length_singleton]
      have:=ih (n / 10) (by rw[Nat.pow_succ]at h;omega)
      omega
theorem AlK (n:Nat) (h:0<n):((dd n).getD 0 0).toNat≠48:=by
  induction n using Nat.strongRecOn with
  | _ n ih =>
    by_cases h1:n<10
    ·rw[OO h1]
     show(UInt8.ofNat (48+n)).toNat≠48
     rw[mP h1];omega
    ·have h2:=ih (n / 10) (by omega) (by omega)
     have h3:=List.length_pos_iff.2 (Aly (n / 10))
     rw[Un h1,List.getD_eq_getElem?_getD,List.getElem?_append_left h3,<- List.getD_eq_getElem?_getD]
     exact h2
theorem AlD (n:Nat) (h:n<10000000000):Ig (dd n)=if n<=2147483647 then some n else none:=by
  have hl:=XV 9 n (by omega)
  rw[AdA (AdM n),AmH]
  have h2: ¬(((dd n).getD 0 0).toNat=48/\1<(dd n).length):=by
    rintro ⟨h3,h4⟩
    by_cases h0:n<10
    ·rw[OO h0]at h4;simp at h4
    ·exact AlK n (by omega) h3
  by_cases h5:n<=2147483647
  ·rw[if_neg (by omega),if_pos h5]
  ·rw[if_pos (by omega),if_neg h5]
theorem Al9 (N n:Nat) (h:n<10000000000):strconv_Itoa N (n:Int)=some (dd n):=by
  unfold strconv_Itoa
  rw[decide_eq_true (by omega),decide_eq_true (by omega)]
  show some (Lib.itoa (n:Int))=_
  unfold Lib.itoa
  rw[if_neg (by omega)]
  rfl
theorem Oi (k:Nat) (h:k<10):([IntKind.u8.wrap (i64.wrap ((48:Int)+(k:Int)))].all Vm.isByte)=true/\ [IntKind.u8.wrap (i64.wrap ((48:Int)+(k:Int)))].map Vm.byteOf=[UInt8.ofNat (48+k)]:=by
  rw[w64 (by omega) (by omega),w8,show((48:Int)+(k:Int)) % 256=((48+k:Nat):Int) by omega]
  have:=jE (l:=[48+k]) (by intro x hx;rw[List.mem_singleton]at hx;omega)
  exact this
theorem Ady (N:Nat): ∀(k n:Nat),n<10 ^ (k+1)->k<=17-> ∀ F,k<F->FT N F (n:Int)=some (dd n):=by
  intro k
  induction k with
  | zero =>
    intro n h _ F hF
    obtain⟨F,rfl⟩: ∃ G,F=G+1:=⟨F - 1,by omega⟩
    have h1:n<10:=by simpa using h
    show Io N (FT N F) (n:Int)=_
    unfold Io
    rw[decide_eq_true (by omega),cond_true,(Oi n h1).1,(Oi n h1).2,Ai,OO h1]
  | succ k ih =>
    intro n h hk F hF
    obtain⟨F,rfl⟩: ∃ G,F=G+1:=⟨F - 1,by omega⟩
    show Io N (FT N F) (n:Int)=_
    unfold Io
    by_cases h1:n<10
    ·rw[decide_eq_true (by omega),cond_true,(Oi n h1).1,(Oi n h1).2,Ai,OO h1]
    ·have h18:(10:Nat) ^ (k+1+1)<=10 ^ 18+0->n<9223372036854775807:=fun h2=>by omega
     have h19:n<9223372036854775807:=h18 (by rw[Nat.add_zero];exact Nat.pow_le_pow_right (by decide) (by omega))
     have hl:=XV k (n / 10) (by rw[Nat.pow_succ]at h;omega)
     rw[decide_eq_false (by omega),cond_false,show((n:Int)).tdiv 10=((n / 10:Nat):Int)from rfl,show((n:Int)).tmod 10=((n % 10:Nat):Int)from rfl,w64 (x:=((n / 10:Nat):Int)) (by omega) (by omega),ih (n / 10) (by rw[Nat.pow_succ]at h;omega) (by omega) F (by omega),Ae]
     rw[(Oi (n % 10) (by omega)).1,(Oi (n % 10) (by omega)).2,Ai]
     dsimp only
     rw[decide_eq_true (by simp only[List.length_singleton];omega),Ai,Un h1]
def DN (lim:Nat):Bs->Nat->Bool->List Nat->Option (List Nat)
  | [],_,mid,acc=>if mid=true then none else some acc
  | b::r,cur,mid,acc =>
    if mid=false/\b.toNat=128 then none
    else if lim<cur*128+b.toNat % 128 then none
    else if 128<=b.toNat then DN lim r (cur*128+b.toNat % 128) true acc
    else DN lim r 0 false (acc++[cur*128+b.toNat % 128])
theorem FC (lim:Nat) (b:UInt8) (r:Bs) (cur:Nat) (mid:Bool) (acc:List Nat):DN lim (b::r) cur mid acc=if mid=false/\b.toNat=128 then none
    else if lim<cur*128+b.toNat % 128 then none
    else if 128<=b.toNat then DN lim r (cur*128+b.toNat % 128) true acc
    else DN lim r 0 false (acc++[cur*128+b.toNat % 128]):=rfl
theorem or7 (t b:Nat) (ht:t<36028797018963968) (hb:b<128):Ba .or .i64 (((t*128:Nat)):Int) (b:Int)=((t*128+b:Nat):Int):=by
  have e: ∀ n:Nat,n<2 ^ 64->(BitVec.ofInt 64 (n:Int))=BitVec.ofNat 64 n:=fun n _=>by simp
  show i64.wrap _=_
  rw[show(BitVec.ofInt (i64).bits ((t*128:Nat):Int))=BitVec.ofNat 64 (t*128)from e _ (by omega),show(BitVec.ofInt (i64).bits ((b:Nat):Int))=BitVec.ofNat 64 b from e _ (by omega)]
  show i64.wrap (((BitVec.ofNat 64 (t*128)) ||| (BitVec.ofNat 64 b)).toNat:Int)=_
  rw[BitVec.toNat_or,BitVec.toNat_ofNat,BitVec.toNat_ofNat,Nat.mod_eq_of_lt (by omega),Nat.mod_eq_of_lt (by omega)]
  rw[show t*128=t <<< 7 by rw[Nat.shiftLeft_eq],<- Nat.shiftLeft_add_eq_or_of_lt (by omega:b<2 ^ 7),Nat.shiftLeft_eq]
  exact w64 (by omega) (by omega)
def numO:Option (List Nat)->Option (List Int)
  | none=>some []
  | some l=>some (ints l)
theorem AkH (v:Nat) (hv:v<=4294967294) (b:UInt8):Ba BinOp.or i64 (i64.wrap ((v:Int)*128)) (Ba BinOp.and i64 (i64.wrap (b.toNat:Int)) 127)=((v*128+b.toNat % 128:Nat):Int):=by
  have:=Ic b
  rw[w64 (x:=(b.toNat:Int)) (by omega) (by omega),Ad9 _ (by omega),w64 (by omega) (by omega),show(v:Int)*128=((v*128:Nat):Int) by omega,or7 _ _ (by omega) (by omega)]
theorem AkG {ρ :Type} (N:Nat) (s:Bs) (hN:s.length+1<N) (hs:s.length<=1048576) (G:Option (List Nat)->Option ρ) (kx:Int×List Int->Option ρ) (bad:Option ρ) (hbad:G none=bad)
    (i:Nat) (acc:List Nat) (hi:i<=s.length) (ha:acc.length<=i)
    (hk: ∀(j:Nat) (a:List Nat),i<j->j<=s.length->a.length<=j->kx ((j:Int),ints a)=G (DN 4294967294 (s.drop j) 0 false a)) :
    Ap (X:=Int×Int×List Int) (Y:=(Int×List Int) ⊕ Unit) (U3 fun t4b t5b l1004096b k3 x4 =>
              bif decide (t4b< ↑(List.length s))then
                Vm.chk (decide (0<=t4b))
                  (Vm.chk (decide (t4b< ↑(List.length s)))
                    (bif
                        decide
                          (Ba BinOp.or i64 (i64.wrap (t5b*128))
                            (Ba BinOp.and i64 (i64.wrap ↑(List.getD s t4b.toNat 0).toNat)
                              127) >
                            4294967294)then
                      bad
                    else
                      bif decide (i64.wrap ↑(List.getD s t4b.toNat 0).toNat<128)then
                        Vm.chk (decide ((l1004096b.length+1)*9<=140737488355328))
                          (x4
                            (Sum.inl
                              (i64.wrap (t4b+1),
                                l1004096b ++
                                  [Ba BinOp.or i64 (i64.wrap (t5b*128))
                                    (Ba BinOp.and i64
                                      (i64.wrap ↑(List.getD s t4b.toNat 0).toNat) 127)])))
                      else
                        k3
                          (i64.wrap (t4b+1),
                            Ba BinOp.or i64 (i64.wrap (t5b*128))
                             (Ba BinOp.and i64 (i64.wrap ↑(List.getD s t4b.toNat 0).toNat)
                               127),
                            l1004096b)))
              else x4 (Sum.inr ())) N ((i:Int),0,ints acc) (Sum.elim (U2 fun t4c l42240c=>kx (t4c,l42240c)) fun x=>bad)=G (DN 4294967294 (s.drop i) 0 true acc):=by
  refine Eq.trans (DI (I:=fun x:Int×Int×List Int=> ∃(j v:Nat),x=((j:Int),(v:Int),ints acc)/\i<=j/\j<=s.length/\v<=4294967294) (μ :=fun x=>s.length - x.1.toNat) (F:=fun x=>G (DN 4294967294 (s.drop x.1.toNat) x.2.1.toNat true acc)) ?_ N _ ⟨i,0,rfl,Nat.le_refl _,hi,by omega⟩ (by show s.length - ((i:Int)).toNat<N;omega)) ?_
  ·rintro x ⟨j,v,rfl,h1,h2,h3⟩ k hk2
   dsimp only[U3]
   rw[show((j:Int)).toNat=j by omega,show((v:Int)).toNat=v by omega]
   by_cases hl:j<s.length
   ·have hg:s.getD j 0=s[j]:=getD_lt s j 0 hl
    have hb:=Ic s[j]
    rw[hg,AkH v h3,List.drop_eq_getElem_cons hl,FC,if_neg (fun h=>by cases h.1),decide_eq_true (by omega),cond_true,decide_eq_true (by omega),Ai,Ai]
    by_cases hv:4294967294<v*128+s[j].toNat % 128
    ·rw[if_pos hv,decide_eq_true (by omega),cond_true,hbad]
    ·rw[if_neg hv,decide_eq_false (by omega),cond_false,w64 (x:=(s[j].toNat:Int)) (by omega) (by omega),w64 (by omega) (by omega)]
     by_cases hc:128<=s[j].toNat
     ·rw[if_pos hc,decide_eq_false (by omega),cond_false,show((j:Int)+1)=((j+1:Nat):Int)from rfl,hk2 _ ⟨j+1,_,rfl,by omega,by omega,by omega⟩ (by show s.length - ((j+1:Nat):Int).toNat<s.length - ((j:Int)).toNat;omega)]
      show G (DN _ (s.drop ((j+1:Nat):Int).toNat) ((v*128+s[j].toNat % 128:Nat):Int).toNat true acc)=_
      rw[show((j+1:Nat):Int).toNat=j+1 by omega,show((v*128+s[j].toNat % 128:Nat):Int).toNat=v*128+s[j].toNat % 128 by omega]
     ·rw[if_neg hc,decide_eq_true (by omega),cond_true,BQ,decide_eq_true (by omega),Ai]
      show kx ((j:Int)+1,ints acc++ints [v*128+s[j].toNat % 128])=_
      rw[<- QF]
      exact hk (j+1) _ (by omega) (by omega) (by rw[List.length_append,List.length_singleton];omega)
   ·rw[decide_eq_false (by omega),cond_false,show j=s.length by omega,List.drop_length]
    show bad=G none
    exact hbad.symm
  ·show G (DN _ (s.drop ((i:Int)).toNat) (0:Int).toNat true acc)=_
   rw[show((i:Int)).toNat=i by omega]
   rfl
theorem AaJ (N:Nat) (s:Bs) (hs:s.length<=1048576) (hN:s.length+1<N):QX N s=numO (DN 4294967294 s 0 false []):=by
  unfold QX
  refine Eq.trans (DI (I:=fun x:Int×List Int=> ∃(j:Nat) (a:List Nat),x=((j:Int),ints a)/\j<=s.length/\a.length<=j) (μ :=fun x=>s.length - x.1.toNat) (F:=fun x=>numO (DN 4294967294 (s.drop x.1.toNat) 0 false (x.2.map Int.toNat))) ?_ N _ ⟨0,[],rfl,Nat.zero_le _,Nat.zero_le _⟩ (by show s.length - 0<N;omega)) rfl
  rintro x ⟨j,a,rfl,h1,h2⟩ k hk
  dsimp only[U2]
  have hmap: ∀ a:List Nat,(ints a).map Int.toNat=a:=by
    intro a
    unfold ints
    rw[List.map_map]
    exact(List.map_congr_left fun x _=>by rfl).trans (List.map_id _)
  rw[show((j:Int)).toNat=j by omega,hmap]
  by_cases hl:j<s.length
  ·have hg:s.getD j 0=s[j]:=getD_lt s j 0 hl
   have hb:=Ic s[j]
   rw[hg,decide_eq_true (by omega),cond_true,decide_eq_true (by omega),Ai,Ai]
   by_cases h8:s[j].toNat=128
   ·rw[List.drop_eq_getElem_cons hl,FC,if_pos ⟨rfl,h8⟩,h8]
    rfl
   ·have hbe:(((s[j].toNat:Nat):Int)==128)=false:=by
      apply Bool.eq_false_iff.2
      intro h
      have:=eq_of_beq h
      omega
    rw[hbe,cond_false]
    have he:DN 4294967294 (s.drop j) 0 false a=DN 4294967294 (s.drop j) 0 true a:=by
      rw[List.drop_eq_getElem_cons hl,FC,FC]
      simp only[h8,and_false,if_false]
    rw[he]
    refine AkG N s hN hs numO k (some []) rfl j a h1 h2 ?_
    intro i a' hi1 hi2 ha'
    rw[hk _ ⟨i,a',rfl,hi2,ha'⟩ (by show s.length - ((i:Int)).toNat<s.length - ((j:Int)).toNat;omega)]
    show numO (DN _ (s.drop ((i:Int)).toNat) 0 false ((ints a').map Int.toNat))=_
    rw[hmap,show((i:Int)).toNat=i by omega]
  ·rw[decide_eq_false (by omega),cond_false,show j=s.length by omega,List.drop_length]
   rfl
theorem jW (lim:Nat): ∀(s:Bs) (cur:Nat) (mid:Bool) (acc l:List Nat),DN lim s cur mid acc=some l-> ∃ t,l=acc++t:=by
  intro s
  induction s with
  | nil =>
    intro cur mid acc l h
    cases mid with
    | true=>cases h
    | false=>injection h with h;exact⟨[],by rw[List.append_nil];exact h.symm⟩
  | cons b r ih =>
    intro cur mid acc l h
    rw[FC]at h
    split at h
    ·cases h
    ·split at h
     ·cases h
     ·split at h
      ·exact ih _ _ _ _ h
      ·obtain⟨t,rfl⟩:=ih _ _ _ _ h
       exact⟨_,List.append_assoc _ _ _⟩
theorem Ajp (lim m:Nat): ∀(s:Bs) (v:Nat) (acc l:List Nat),m<v->DN lim s v true acc=some l-> ∃ x∈l,m<x:=by
  intro s
  induction s with
  | nil=>intro v acc l _ h;cases h
  | cons b r ih =>
    intro v acc l hv h
    rw[FC]at h
    split at h
    ·cases h
    ·split at h
     ·cases h
     ·split at h
      ·exact ih _ _ _ (by omega) h
      ·obtain⟨t,rfl⟩:=jW _ _ _ _ _ _ h
       exact⟨_,List.mem_append_left _ (List.mem_append_right _ List.mem_cons_self),by omega⟩
def upTo (m:Nat) (l:List Nat):Option (List Nat):=if ∀ x∈l,x<=m then some l else none
theorem AbG (lim m:Nat) (hm:m<=lim): ∀(s:Bs) (cur:Nat) (mid:Bool) (acc:List Nat),(∀ x∈acc,x<=m)->DN m s cur mid acc=(DN lim s cur mid acc).bind (upTo m):=by
  intro s
  induction s with
  | nil =>
    intro cur mid acc ha
    cases mid with
    | true=>rfl
    | false=>show some acc=upTo m acc;unfold upTo;rw[if_pos ha]
  | cons b r ih =>
    intro cur mid acc ha
    rw[FC,FC]
    by_cases h1:mid=false/\b.toNat=128
    ·rw[if_pos h1,if_pos h1];rfl
    ·rw[if_neg h1,if_neg h1]
     by_cases h2:lim<cur*128+b.toNat % 128
     ·rw[if_pos h2,if_pos (by omega)];rfl
     ·rw[if_neg h2]
      by_cases h3:m<cur*128+b.toNat % 128
      ·rw[if_pos h3]
       have key: ∀ q:Option (List Nat),(∀ l,q=some l-> ∃ x∈l,m<x)->none=q.bind (upTo m):=by
         intro q hq
         cases q with
         | none=>rfl
         | some l =>
           obtain⟨x,h4,h5⟩:=hq l rfl
           show none=upTo m l
           unfold upTo
           rw[if_neg (fun h=>by have:=h x h4;omega)]
       refine key _ fun l hl=> ?_
       split at hl
       ·exact Ajp _ _ _ _ _ _ h3 hl
       ·obtain⟨t,rfl⟩:=jW _ _ _ _ _ _ hl
        exact⟨_,List.mem_append_left _ (List.mem_append_right _ List.mem_cons_self),h3⟩
      ·rw[if_neg h3]
       split
       ·exact ih _ _ _ ha
       ·refine ih _ _ _ fun x hx=> ?_
        rcases List.mem_append.1 hx with hx | hx
        ·exact ha x hx
        ·rw[List.mem_singleton]at hx;omega
def two (l:List Nat):List Nat:=match l with
  | []=>[]
  | n::t=>(if 2<n / 40 then 2 else n / 40)::(n - 40*(if 2<n / 40 then 2 else n / 40))::t
def Gy (a:List Nat):Bs:=([46]:Bs).intercalate (a.map dd)
theorem Pj (x y:Bs) (r:List Bs):([46]:Bs).intercalate (x::y::r)=x++46::([46]:Bs).intercalate (y::r):=by
  simp [List.intercalate]
theorem AhY: ∀(a:List Nat),a≠ []->Bf 46 (Gy a)=a.map dd:=by
  intro a
  induction a with
  | nil=>intro h;exact absurd rfl h
  | cons n r ih =>
    intro _
    cases r with
    | nil =>
      show Bf 46 (([46]:Bs).intercalate [dd n])=_
      rw[show([46]:Bs).intercalate [dd n]=dd n by simp [List.intercalate],Na _ _ (TT (AdM n))];rfl
    | cons m r =>
      show Bf 46 (([46]:Bs).intercalate (dd n::dd m::r.map dd))=_
      rw[Pj,I8 _ _ _ (TT (AdM n))]
      have:=ih (by simp)
      unfold Gy at this
      rw[List.map_cons]at this
      rw[this];rfl
theorem AlZ: ∀(a:List Nat),(∀ x∈a,x<10000000000)->Gf Ig (a.map dd)=upTo 2147483647 a:=by
  intro a
  induction a with
  | nil=>intro _;rfl
  | cons n r ih =>
    intro h
    rw[List.map_cons,RJ,AlD n (h n List.mem_cons_self),ih (fun x hx=>h x (List.mem_cons_of_mem _ hx))]
    unfold upTo
    by_cases h1:n<=2147483647
    ·rw[if_pos h1]
     by_cases h2: ∀ x∈r,x<=2147483647
     ·rw[if_pos h2,if_pos (fun x hx=>(List.mem_cons.1 hx).elim (fun e=>e▸h1) (h2 x))];rfl
     ·rw[if_neg h2,if_neg (fun h=>h2 fun x hx=>h x (List.mem_cons_of_mem _ hx))];rfl
    ·rw[if_neg h1,if_neg (show ¬ ∀ x∈n::r,x<=2147483647 from fun h=>h1 (h n List.mem_cons_self))];rfl
theorem nV {l:List Nat} (h:l≠ []):(two l).length=l.length+1:=by
  cases l with
  | nil=>exact absurd rfl h
  | cons n t=>rfl
theorem Ali {l:List Nat} (h:l≠ []):KN (two l)=true:=by
  cases l with
  | nil=>exact absurd rfl h
  | cons n t =>
    show(decide ((if 2<n / 40 then 2 else n / 40)<=1)&&decide (n - 40*(if 2<n / 40 then 2 else n / 40)<=39)||decide ((if 2<n / 40 then 2 else n / 40)=2))=true
    simp only[Bool.or_eq_true,Bool.and_eq_true,decide_eq_true_eq]
    split<;>omega
theorem zY {l:List Nat} {m:Nat} (hm:2<=m) (h: ∀ x∈l,x<m): ∀ x∈two l,x<m+1:=by
  cases l with
  | nil=>intro x hx;cases hx
  | cons n t =>
    intro x hx
    have hn:=h n List.mem_cons_self
    rcases List.mem_cons.1 hx with rfl | hx
    ·split<;>omega
    ·rcases List.mem_cons.1 hx with rfl | hx
     ·omega
     ·have:=h x (List.mem_cons_of_mem _ hx);omega
theorem An5 {l:List Nat} (h: ∀ x∈two l,x<=2147483647): ∀ x∈l,x<=2147483727:=by
  cases l with
  | nil=>intro x hx;cases hx
  | cons n t =>
    intro x hx
    rcases List.mem_cons.1 hx with rfl | hx
    ·have h1:=h (x - 40*(if 2<x / 40 then 2 else x / 40)) (List.mem_cons_of_mem _ List.mem_cons_self)
     split at h1<;>omega
    ·have:=h x (List.mem_cons_of_mem _ (List.mem_cons_of_mem _ hx));omega
theorem Aiq {l:List Nat} (h:l≠ []) (h1:l.length<=11) (h2: ∀ x∈l,x<9999999999):Dt (Gy (two l))=upTo 2147483647 (two l):=by
  have hl:=nV h
  unfold Dt
  rw[AhY _ (by intro e;rw[e]at hl;simp at hl),List.length_map,if_neg (by have:=List.length_pos_iff.2 h;omega),AlZ _ (zY (by omega) h2)]
  unfold upTo
  by_cases h3: ∀ x∈two l,x<=2147483647
  ·rw[if_pos h3]
   dsimp only
   rw[if_pos (Ali h)]
  ·rw[if_neg h3]
def ND (s:Bs):Option (List Nat):=(DN 4294967294 s 0 false []).bind fun l=>if l.length=0\/11<l.length then none else upTo 2147483647 (two l)
def Ij:Option (List Nat)->Bs×Int
  | none=>([],11)
  | some a=>(Gy a,0)
theorem AkF {lim:Nat} {s:Bs} {l:List Nat} (h:DN lim s 0 false []=some l): ∀ x∈l,x<=lim:=by
  have h1:=AbG lim lim (Nat.le_refl _) s 0 false [] (fun x hx=>by cases hx)
  rw[h]at h1
  have h2:some l=upTo lim l:=h1
  unfold upTo at h2
  split at h2
  ·assumption
  ·cases h2
theorem aS: ∀(a:List Nat),(∀ x∈a,x<10000000000)->(Gy a).length<=11*a.length:=by
  intro a
  induction a with
  | nil=>intro _;exact Nat.le_refl _
  | cons n r ih =>
    intro h
    have h1:=XV 9 n (by have:=h n List.mem_cons_self;omega)
    cases r with
    | nil =>
      show(([46]:Bs).intercalate [dd n]).length<=_
      rw[show([46]:Bs).intercalate [dd n]=dd n by simp [List.intercalate]]
      simp only[List.length_singleton];omega
    | cons m r =>
      have h2:=ih (fun x hx=>h x (List.mem_cons_of_mem _ hx))
      show(([46]:Bs).intercalate (dd n::dd m::r.map dd)).length<=_
      rw[Pj,List.length_append,List.length_cons]
      unfold Gy at h2
      rw[List.map_cons]at h2
      simp only[List.length_cons]at h2 ⊢
      omega
theorem AiY (l:List Nat) (k:Nat):Ar (ints l) k (ints l).length=ints (l.drop k):=by
  unfold Ar ints
  rw[List.take_length,List.map_drop]
def Aev (n:Nat):Option Bs:=if n<=2147483647 then some (dd n)else none
theorem Ak8: ∀ a:List Nat,Gf Aev a=(upTo 2147483647 a).map (List.map dd):=by
  intro a
  induction a with
  | nil=>rfl
  | cons n r ih =>
    rw[RJ,ih]
    unfold Aev upTo
    by_cases h1:n<=2147483647
    ·rw[if_pos h1]
     by_cases h2: ∀ x∈r,x<=2147483647
     ·rw[if_pos h2,if_pos (fun x hx=>(List.mem_cons.1 hx).elim (fun e=>e▸h1) (h2 x))];rfl
     ·rw[if_neg h2,if_neg (fun h=>h2 fun x hx=>h x (List.mem_cons_of_mem _ hx))];rfl
    ·rw[if_neg h1,if_neg (show ¬ ∀ x∈n::r,x<=2147483647 from fun h=>h1 (h n List.mem_cons_self))];rfl
theorem Agw (n:Nat) (hn:n<=4294967294):(bif decide ((2:Int)<i64.wrap (((n:Nat):Int).tdiv 40))then(2:Int)else i64.wrap (((n:Nat):Int).tdiv 40))=(((if 2<n / 40 then 2 else n / 40:Nat)):Int):=by
  rw[show((n:Int)).tdiv 40=((n / 40:Nat):Int)from rfl,w64 (by omega) (by omega)]
  by_cases h:2<n / 40
  ·rw[decide_eq_true (by omega),if_pos h];rfl
  ·rw[decide_eq_false (by omega),if_neg h];rfl
theorem Afk (n:Nat) (hn:n<=4294967294):i64.wrap (((n:Nat):Int) - i64.wrap (40*(((if 2<n / 40 then 2 else n / 40:Nat)):Int)))=((n - 40*(if 2<n / 40 then 2 else n / 40):Nat):Int):=by
  have h:40*(if 2<n / 40 then 2 else n / 40)<=n:=by split<;>omega
  have h2:(if 2<n / 40 then 2 else n / 40)<=2:=by split<;>omega
  generalize (if 2<n / 40 then 2 else n / 40)=q at *
  rw[w64 (x:=40*(q:Int)) (by omega) (by omega),w64 (by omega) (by omega)]
  omega
theorem SH (N:Nat) (s:Bs) (hs:s.length<=1048576) (hN:s.length+1<N) (hN2:16<N):Ub N s=some (Ij (ND s)):=by
  unfold Ub
  try simp only[clR]
  rw[AaJ N s hs hN]
  unfold ND
  cases hsc:DN 4294967294 s 0 false []with
  | none=>rfl
  | some l =>
    have hle:=AkF hsc
    rw[show numO (some l)=some (ints l)from rfl,Ae,BQ]
    show _=some (Ij (if l.length=0\/11<l.length then none else upTo 2147483647 (two l)))
    by_cases h0:l.length=0\/11<l.length
    ·rw[if_pos h0,show(((l.length:Nat):Int)==0||decide ((l.length:Int)>11))=true by
       rcases h0 with h0 | h0
       ·rw[h0];rfl
       ·rw[decide_eq_true (by omega),Bool.or_true]]
     rfl
    ·have hb:(((l.length:Nat):Int)==0||decide ((l.length:Int)>11))=false:=by
       rw[decide_eq_false (by omega),Bool.or_false]
       apply Bool.eq_false_iff.2
       intro h
       have:=eq_of_beq h
       omega
     rw[if_neg h0,hb,cond_false]
     obtain⟨n,t,rfl⟩: ∃ n t,l=n::t:=by
       cases l with
       | nil=>exact absurd (Or.inl rfl) h0
       | cons n t=>exact⟨n,t,rfl⟩
     have hn:=hle n List.mem_cons_self
     simp only[List.length_cons]at h0
     have hc:Ar (ints (n::t)) 1 (n::t).length=ints t:=by rw[<- BQ (n::t),AiY];rfl
     rw[hc,show(ints (n::t)).getD 0 0=(n:Int)from rfl,Agw n hn,Afk n hn]
     have he: [(((if 2<n / 40 then 2 else n / 40:Nat)):Int),((n - 40*(if 2<n / 40 then 2 else n / 40):Nat):Int)]++ints t=ints (two (n::t)):=rfl
     rw[he]
     have h2l:=nV (l:=n::t) (by simp)
     have h2m:=zY (m:=4294967295) (by omega) (fun x hx=>by have:=hle x hx;omega) (l:=n::t)
     simp only[List.length_cons]at h2l
     rw[decide_eq_true (by simp only[List.length_cons];omega),Ai,Ai,decide_eq_true (by simp only[List.length_cons];omega),Ai,decide_eq_true (by rw[BQ];omega),Ai]
     generalize two (n::t)=e at *
     refine Eq.trans (DY (S:=List Bs) (mk:=fun i a=>(i,ints e,a)) (out:=fun a=>a) e 0 (fun i a=>a.length=i) (Rk Aev (fun a v=>a++[v]) (some ([],11))) ?_ ?_ N [] rfl (by omega)) ?_
     ·intro i a hi ha
      rw[getD_lt e i 0 hi]
      have hx:=h2m e[i] (List.getElem_mem hi)
      have key: ∀(A:Option (Bs×Int)) (K:Int->Option (Bs×Int)),(bif decide ((i:Int)<((ints e).length:Int))then Vm.chk (decide (0<=(i:Int))) (Vm.chk (decide ((i:Int)<((ints e).length:Int))) (Vm.chk (decide ((i:Int).toNat<(ints e).length)) (K ((ints e).getD (i:Int).toNat 0))))else A)=K ((e[i]:Nat):Int):=by
        intro A K
        rw[BQ,decide_eq_true (by omega),cond_true,decide_eq_true (by omega),Ai,Ai,show((i:Int)).toNat=i by omega,decide_eq_true (by omega),Ai,Kz,getD_lt e i 0 hi]
      refine Aff (fun hv k=> ?_) (fun v hv=>⟨fun k=> ?_,by simp [ha]⟩)
      ·unfold Aev at hv
       split at hv
       ·cases hv
       ·dsimp only[U3]
        refine(key _ (fun y=>bif decide (y>2147483647)then some ([],11)else _)).trans ?_
        rw[decide_eq_true (by omega),cond_true]
      ·unfold Aev at hv
       split at hv
       ·injection hv with hv;subst hv
        dsimp only[U3]
        refine(key _ (fun y=>bif decide (y>2147483647)then some ([],11)else Ac (strconv_Itoa N y) _)).trans ?_
        rw[decide_eq_false (by omega),cond_false,Al9 N _ (by omega),Ae,decide_eq_true (by omega),Ai,w64 (by omega) (by omega)]
       ·cases hv
     ·intro a k ha
      show(bif decide ((e.length:Int)<((ints e).length:Int))then _ else _)=_
      rw[BQ,decide_eq_false (by omega),cond_false]
     ·rw[zH,Ak8]
      have hf: ∀ l:List Bs,l.foldl (fun(a:List Bs) (v:Bs)=>a++[v]) []=l:=by
        intro l
        rw[Abz (fun x=>x),List.nil_append,List.map_id']
      unfold upTo
      by_cases hu: ∀ x∈e,x<=2147483647
      ·rw[if_pos hu]
       dsimp only[Option.map,Option.elim]
       rw[hf]
       have htl:=aS e (fun x hx=>by have:=hu x hx;omega)
       unfold Gy at htl
       unfold strings_Join
       rw[List.length_map,decide_eq_true (by omega),decide_eq_true (by omega)]
       rfl
      ·rw[if_neg hu];rfl
theorem Ab5 {X Y ρ :Type} {B:X->(X->Option ρ)->(Y->Option ρ)->Option ρ} {kx:Y->Option ρ} (P:X->Option ρ ->Prop) (μ :X->Nat)
    (h: ∀ x v,P x v-> ∀ k:X->Option ρ,(∀ x' v',P x' v'-> μ x'< μ x->k x'=v')->B x k kx=v): ∀(N:Nat) (x:X) (v:Option ρ),P x v-> μ x<N->Ap B N x kx=v:=by
  intro N
  induction N with
  | zero=>intro x v _ h;omega
  | succ N ih=>intro x v hI hm;exact h x v hI _ (fun x' v' hI' hm'=>ih x' v' hI' (by omega))
def cc (acc:List Nat):Nat:=if acc=[]then 0 else acc.length+1
def wO:Option (Bs×Int):=some ([],11)
def AmI (kx:Bs×Bool->Option (Bs×Int)):Option (List Nat)->Option (Bs×Int)
  | none=>wO
  | some l=>if 11<l.length then wO else kx (Gy (two l),false)
theorem Alj {l:List Nat} (v:Nat) (h:l≠ []):two (l++[v])=two l++[v]:=by
  cases l with
  | nil=>exact absurd rfl h
  | cons n t=>rfl
theorem AjH (v:Nat): ∀ a:List Nat,a≠ []->Gy (a++[v])=Gy a++46::dd v:=by
  intro a
  induction a with
  | nil=>intro h;exact absurd rfl h
  | cons n r ih =>
    intro _
    cases r with
    | nil =>
      show([46]:Bs).intercalate [dd n,dd v]=([46]:Bs).intercalate [dd n]++_
      simp [List.intercalate]
    | cons m r =>
      have h2:=ih (by simp)
      unfold Gy at h2 ⊢
      show([46]:Bs).intercalate (dd n::dd m::(r++[v]).map dd)=([46]:Bs).intercalate (dd n::dd m::r.map dd)++_
      have h3:([46]:Bs).intercalate (dd m::(r++[v]).map dd)=([46]:Bs).intercalate (dd m::r.map dd)++46::dd v:=h2
      rw[Pj,Pj,h3,List.append_assoc]
      rfl
theorem Alg (n:Nat):Gy (two [n])=dd (if 2<n / 40 then 2 else n / 40)++[46]++dd (n - 40*(if 2<n / 40 then 2 else n / 40)):=by
  show([46]:Bs).intercalate [dd _,dd _]=_
  rw[Pj]
  simp [List.intercalate]
theorem kJ (N:Nat) (s:Bs) (hs:s.length<=1048576) (hN:s.length+1<N) (hN2:1000<N):JK N s=some (Ij (ND s)):=by
  unfold JK
  try simp only[clR]
  refine Eq.trans (Ab5 (P:=fun(x:Bs×Int×Bool×Int×Int) v=> ∃(i cur:Nat) (mid:Bool) (acc:List Nat),x=(Gy (two acc),(cur:Int),mid,((cc acc:Nat):Int),(i:Int))/\i<=s.length/\acc.length<=11/\(∀ x∈acc,x<=2147483727)/\cur<=2147483727/\v=AmI (fun q=>Vm.chk ((Du N q.1).isSome||(((s.length:Nat):Int)==0||q.2)) (bif (((s.length:Nat):Int)==0||q.2|| !(Du N q.1).getD default)then some ([],11)else some (q.1,0))) (DN 2147483727 (s.drop i) cur mid acc)) (μ :=fun x=>s.length - x.2.2.2.2.toNat) ?_ N ([],0,false,0,0) _ ⟨0,0,false,[],rfl,Nat.zero_le _,Nat.zero_le _,fun x (h:x∈ [])=>absurd h (List.not_mem_nil),Nat.zero_le _,rfl⟩ (by show s.length - 0<N;omega)) ?_
  ·rintro x v ⟨i,cur,mid,acc,rfl,h1,h2,h3,h4,rfl⟩ k hk
   dsimp only[U5,U2]
   rw[show((i:Int)).toNat=i by omega]
   by_cases hl:i<s.length
   ·have hg:s.getD i 0=s[i]:=getD_lt s i 0 hl
    have hb:=Ic s[i]
    rw[hg,decide_eq_true (by omega),cond_true,decide_eq_true (by omega)]
    simp only[Bool.true_or,Ai]
    rw[List.drop_eq_getElem_cons hl,FC]
    by_cases h8:mid=false/\s[i].toNat=128
    ·rw[if_pos h8,h8.1,h8.2];rfl
    ·have hbe:(!mid&&((s[i].toNat:Nat):Int)==128)=false:=by
       apply Bool.eq_false_iff.2
       intro h
       simp only[Bool.and_eq_true,Bool.not_eq_true',beq_iff_eq]at h
       exact h8 ⟨h.1,by omega⟩
     rw[if_neg h8,hbe,cond_false]
     rw[show((s[i].toNat:Nat):Int).tmod 128=((s[i].toNat % 128:Nat):Int)from rfl,w64 (x:=((s[i].toNat % 128:Nat):Int)) (by omega) (by omega),w64 (x:=128*(cur:Int)) (by omega) (by omega),w64 (x:=128*(cur:Int)+_) (by omega) (by omega),show 128*(cur:Int)+((s[i].toNat % 128:Nat):Int)=((cur*128+s[i].toNat % 128:Nat):Int) by omega]
     generalize hw:cur*128+s[i].toNat % 128=w
     by_cases hv:2147483727<w
     ·rw[if_pos hv,decide_eq_true (by omega),cond_true];rfl
     ·rw[if_neg hv,decide_eq_false (by omega),cond_false,w64 (x:=(i:Int)+1) (by omega) (by omega),show((i:Int)+1)=((i+1:Nat):Int)from rfl]
      have hmu: ∀(a:Bs) (b:Int) (c:Bool) (d:Int),s.length - ((a,b,c,d,((i+1:Nat):Int)):Bs×Int×Bool×Int×Int).2.2.2.2.toNat<s.length - ((Gy (two acc),(cur:Int),mid,((cc acc:Nat):Int),(i:Int)):Bs×Int×Bool×Int×Int).2.2.2.2.toNat:=by
        intro a b c d
        show s.length - ((i+1:Nat):Int).toNat<s.length - ((i:Int)).toNat
        omega
      by_cases hc:128<=s[i].toNat
      ·rw[if_pos hc,decide_eq_true (by omega),cond_true]
       exact hk _ _ ⟨i+1,w,true,acc,rfl,by omega,h2,h3,by omega,rfl⟩ (hmu _ _ _ _)
      ·rw[if_neg hc,decide_eq_false (by omega),cond_false,FW]
       by_cases ha:acc=[]
       ·subst ha
        have hq:(if 2<w / 40 then 2 else w / 40)<=2:=by split<;>omega
        rw[Agw w (by omega),Afk w (by omega),Ady N 9 _ (by omega) (by omega) N (by omega),Ady N 9 _ (by omega) (by omega) N (by omega)]
        rw[Ae,Ae]
        have hd1:=XV 9 (if 2<w / 40 then 2 else w / 40) (by omega)
        have hd2:=XV 9 (w - 40*(if 2<w / 40 then 2 else w / 40)) (by omega)
        rw[show(((cc []:Nat):Int)==0)=true from rfl,cond_true,decide_eq_true (by omega),Ai,decide_eq_true (by rw[List.length_append,List.length_singleton];omega),Ai]
        dsimp only[U2]
        rw[<- Alg]
        rw[show(decide (i64.wrap ((1:Int)+1)>12))=false by decide,cond_false,show i64.wrap ((1:Int)+1)=((cc [w]:Nat):Int) by unfold cc;rw[if_neg (by simp),List.length_singleton];decide]
        exact hk _ _ ⟨i+1,0,false,[w],rfl,by omega,by simp,fun x hx=>by rw[List.mem_singleton]at hx;omega,by omega,rfl⟩ (hmu _ _ _ _)
       ·have hcc:cc acc=acc.length+1:=if_neg ha
        have hpos:=List.length_pos_iff.2 ha
        have h2l:=nV ha
        have htl:=aS (two acc) (fun x hx=>by have:=zY (m:=2147483728) (by omega) (fun x hx=>by have:=h3 x hx;omega) x hx;omega)
        have hd1:=XV 9 w (by omega)
        have hne:two acc≠ []:=by intro e;rw[e]at h2l;simp at h2l
        have hz:(((cc acc:Nat):Int)==0)=false:=by
          apply Bool.eq_false_iff.2
          intro h
          have:=eq_of_beq h
          omega
        rw[hz,cond_false,Ady N 9 w (by omega) (by omega) N (by omega),Ae,decide_eq_true (by omega),Ai,decide_eq_true (by simp only[List.length_append,List.length_singleton];omega),Ai]
        dsimp only[U2]
        rw[show Gy (two acc)++([46]++dd w)=Gy (two (acc++[w])) by rw[Alj w ha,AjH w _ hne];rfl]
        rw[w64 (by omega) (by omega)]
        by_cases h11:acc.length=11
        ·rw[decide_eq_true (by omega),cond_true]
         cases hsc:DN 2147483727 (s.drop (i+1)) 0 false (acc++[w])with
         | none=>rfl
         | some l =>
           obtain⟨t,rfl⟩:=jW _ _ _ _ _ _ hsc
           show _=if 11<((acc++[w])++t).length then wO else _
           rw[if_pos (by simp only[List.length_append,List.length_singleton];omega)];rfl
        ·rw[decide_eq_false (by omega),cond_false]
         have hcc2:cc (acc++[w])=acc.length+2:=by
           unfold cc
           rw[if_neg (by simp),List.length_append,List.length_singleton]
         rw[show((cc acc:Nat):Int)+1=((cc (acc++[w]):Nat):Int) by omega]
         refine hk _ _ ⟨i+1,0,false,acc++[w],rfl,by omega,by rw[List.length_append,List.length_singleton];omega,fun x hx=> ?_,by omega,rfl⟩ (hmu _ _ _ _)
         rcases List.mem_append.1 hx with hx | hx
         ·exact h3 x hx
         ·rw[List.mem_singleton]at hx;omega
   ·rw[decide_eq_false (by omega),cond_false,show i=s.length by omega,List.drop_length]
    cases mid with
    | true =>
      simp only[Bool.or_true,Ai,Bool.true_or,cond_true]
      rfl
    | false =>
      show _=if 11<acc.length then wO else _
      rw[if_neg (by omega)]
  ·have hlim:=AbG 4294967294 2147483727 (by omega) s 0 false [] (fun x (h:x∈ [])=>absurd h (List.not_mem_nil))
   rw[List.drop_zero,hlim]
   unfold ND
   cases hsc:DN 4294967294 s 0 false []with
   | none=>rfl
   | some l =>
     show AmI _ (upTo 2147483727 l)=some (Ij (if l.length=0\/11<l.length then none else upTo 2147483647 (two l)))
     by_cases hu: ∀ x∈l,x<=2147483727
     ·rw[show upTo 2147483727 l=some l from if_pos hu]
      show(if 11<l.length then wO else _)=_
      by_cases h11:11<l.length
      ·rw[if_pos h11,if_pos (Or.inr h11)];rfl
      ·rw[if_neg h11]
       by_cases h0:l=[]
       ·subst h0
        rw[if_pos (show([]:List Nat).length=0\/11<([]:List Nat).length from Or.inl rfl)]
        have hv:=(Ul N [] (by omega) (Nat.zero_le _) (by show 0+1<N;omega)).2
        show Vm.chk ((Du N []).isSome||_) (bif (_|| !(Du N []).getD default)then _ else _)=_
        rw[hv]
        simp only[Option.isSome_some,Bool.true_or,Ai]
        rw[show(some (Dt []).isSome:Option Bool).getD default=false from by decide,Bool.not_false,Bool.or_true]
        rfl
       ·have hpos:=List.length_pos_iff.2 h0
        have h2l:=nV h0
        have htl:=aS (two l) (fun x hx=>by have:=zY (m:=2147483728) (by omega) (fun x hx=>by have:=hu x hx;omega) x hx;omega)
        have hv:=(Ul N (Gy (two l)) (by omega) (by omega) (by omega)).2
        rw[Aiq h0 (by omega) (fun x hx=>by have:=hu x hx;omega)]at hv
        rw[if_neg (by omega)]
        have hs0:(((s.length:Nat):Int)==0)=false:=by
          apply Bool.eq_false_iff.2
          intro h
          have h1:=eq_of_beq h
          have h2:s=[]:=List.length_eq_zero_iff.1 (by omega)
          rw[h2]at hsc
          injection hsc with hsc
          exact h0 hsc.symm
        dsimp only
        rw[hv,hs0]
        simp only[Option.isSome_some,Bool.true_or,Ai,Bool.false_or]
        unfold upTo
        by_cases h3: ∀ x∈two l,x<=2147483647
        ·rw[if_pos h3];rfl
        ·rw[if_neg h3];rfl
     ·rw[show upTo 2147483727 l=none from if_neg hu]
      have:upTo 2147483647 (two l)=none:=if_neg fun h=>hu (An5 h)
      rw[this]
      split<;>rfl
theorem OA {E ρ :Type} (p:E->Bool) (bad:Option ρ) (fin:Unit->Option ρ): ∀ l:List E,Iu (fun e (_:Unit)=>if p e=true then .inr ()else .inl bad) fin l ()=if l.all p=true then fin ()else bad:=by
  intro l
  induction l with
  | nil=>rfl
  | cons e r ih =>
    rw[List.all_cons]
    unfold Iu
    by_cases h:p e=true
    ·rw[if_pos h,h,Bool.true_and];exact ih
    ·rw[if_neg h,if_neg (by simp [h])]
theorem Hf {X E ρ :Type} {p:E->Bool} {bad:Option ρ} {e:E} {b:(X->Option ρ)->Option ρ} {nx:Unit->X} {I:Unit->Prop} (h0:p e=false-> ∀ k,b k=bad) (h1:p e=true->(∀ k,b k=k (nx ()))/\I ()):lS b nx I (if p e=true then .inr ()else .inl bad):=by
  cases h:p e with
  | true=>rw[if_pos rfl];exact h1 h
  | false=>rw[if_neg (by decide)];exact h0 h
def nT:Bs:=[32,39,40,41,43,44,45,46,47,58,61,63]
def IZ (c:UInt8):Bool:=(decide (97<=c.toNat)&&decide (c.toNat<=122))||(decide (65<=c.toNat)&&decide (c.toNat<=90))||(decide (48<=c.toNat)&&decide (c.toNat<=57))
def prC (c:UInt8):Bool:=IZ c||nT.any (· ==c)
def iaC (c:UInt8):Bool:=decide (32<=c.toNat)&&decide (c.toNat<=126)
theorem YJ {P:UInt8->Prop} (h: ∀ n:Fin 256,P (UInt8.ofNat n.val)) (c:UInt8):P c:=by
  have:=h ⟨c.toNat,UInt8.toNat_lt c⟩
  rwa [UInt8.ofNat_toNat]at this
theorem YL (N:Nat) (c:UInt8):FQ N (c.toNat:Int)=some (IZ c):=by
  refine YJ (P:=fun c=>FQ N (c.toNat:Int)=some (IZ c)) ?_ c
  show ∀ n:Fin 256,FQ 0 ((UInt8.ofNat n.val).toNat:Int)=some (IZ (UInt8.ofNat n.val))
  decide +kernel
theorem Ag4 (N:Nat) (c:UInt8):Iw N (c.toNat:Int)=some (prC c):=by
  refine YJ (P:=fun c=>Iw N (c.toNat:Int)=some (prC c)) ?_ c
  show ∀ n:Fin 256,Iw 0 ((UInt8.ofNat n.val).toNat:Int)=some (prC (UInt8.ofNat n.val))
  decide +kernel
theorem Ag5 (N:Nat) (c:UInt8):Iy N (c.toNat:Int)=some (iaC c):=by
  refine YJ (P:=fun c=>Iy N (c.toNat:Int)=some (iaC c)) ?_ c
  show ∀ n:Fin 256,Iy 0 ((UInt8.ofNat n.val).toNat:Int)=some (iaC (UInt8.ofNat n.val))
  decide +kernel
theorem Adw (N:Nat) (l:Bs) (c:UInt8) (hl:l.length<N) (hs:l.length<=1048576):H6 N (c.toNat:Int) l=some (l.any (· ==c)):=by
  unfold H6
  refine Eq.trans (DY (S:=Unit) (mk:=fun i _=>i) (out:=fun a=>a) l 0 (fun _ _=>True) (fun e (_:Unit)=>if(!(e==c))=true then .inr ()else .inl (some true)) ?_ ?_ N () trivial hl) ?_
  ·intro i a hi _
   refine Hf (p:=fun e=> !(e==c)) (fun h k=> ?_) (fun h=>⟨fun k=> ?_,trivial⟩)
   ·have hb:((((l.getD i 0).toNat:Nat):Int)==((c.toNat:Nat):Int))=true:=by
      have:l.getD i 0=c:=by simpa using h
      rw[this];simp
    rw[show((i:Int)).toNat=i by omega,decide_eq_true (by omega),cond_true,decide_eq_true (by omega),Ai,Ai,hb,cond_true]
   ·have hb:((((l.getD i 0).toNat:Nat):Int)==((c.toNat:Nat):Int))=false:=by
      apply Bool.eq_false_iff.2
      intro h2
      have h3:=eq_of_beq h2
      have h4:l.getD i 0=c:=UInt8.toNat_inj.1 (by omega)
      rw[h4]at h
      simp at h
    rw[show((i:Int)).toNat=i by omega,decide_eq_true (by omega),cond_true,decide_eq_true (by omega),Ai,Ai,hb,cond_false,w64 (by omega) (by omega)]
  ·intro a k _
   rw[decide_eq_false (by omega),cond_false]
  ·rw[OA (p:=fun e=> !(e==c))]
   rw[show l.any (· ==c)= !(l.all fun e=> !(e==c)) by rw[List.not_all_eq_any_not];simp]
   cases l.all fun e=> !(e==c)<;>rfl
theorem all_eq (N f:Nat) (s:Bs) (p:UInt8->Bool) (hf: ∀ c:UInt8,mX N f (c.toNat:Int)=some (p c)) (hl:s.length<N) (hs:s.length<=1048576):NZ N s f=some (s.all p):=by
  unfold NZ
  refine Eq.trans (DY (S:=Unit) (mk:=fun i _=>i) (out:=fun a=>a) s 0 (fun _ _=>True) (fun e (_:Unit)=>if p e=true then .inr ()else .inl (some false)) ?_ ?_ N () trivial hl) ?_
  ·intro i a hi _
   have key: ∀(A:Option Bool) (K:Bool->Option Bool),(bif decide ((i:Int)<(s.length:Int))then Vm.chk (decide (0<=(i:Int))) (Vm.chk (decide ((i:Int)<(s.length:Int))) (Ac (mX N f ((s.getD (i:Int).toNat 0).toNat:Int)) K))else A)=K (p (s.getD i 0)):=by
     intro A K
     rw[show((i:Int)).toNat=i by omega,decide_eq_true (by omega),cond_true,decide_eq_true (by omega),Ai,Ai,hf,Ae]
   refine Hf (p:=p) (fun h k=> ?_) (fun h=>⟨fun k=> ?_,trivial⟩)
   ·rw[key,h];rfl
   ·rw[key,h,w64 (by omega) (by omega)];rfl
  ·intro a k _
   rw[decide_eq_false (by omega),cond_false]
  ·rw[OA]
   cases s.all p<;>rfl
theorem AjM (N:Nat) (s:Bs) (hl:s.length<N) (hs:s.length<=1048576):IW N 19 s=some (s.all prC):=by
  show Ac (NZ N s 286) (fun r=>some r)=_
  rw[all_eq N 286 s prC (fun c=>Ag4 N c) hl hs];rfl
theorem AjN (N:Nat) (s:Bs) (hl:s.length<N) (hs:s.length<=1048576):IW N 22 s=some (s.all iaC):=by
  show Ac (NZ N s 289) (fun r=>some r)=_
  rw[all_eq N 289 s iaC (fun c=>Ag5 N c) hl hs];rfl
theorem Ad6 (N:Nat) (s:Bs) (hl:s.length<N) (hs:s.length<=1048576) (hN:16<N):Dw N 19 s=some (s.all prC):=by
  unfold Dw
  try simp only[clR]
  simp only[show((19:Int)==12)=false from rfl,show((19:Int)==19)=true from rfl,show((19:Int)==22)=false from rfl,cond_false,cond_true,FW,Bool.false_and,Bool.not_false,Bool.not_true,Bool.true_and,Bool.or_true,Bool.true_or,Bool.false_or,Bool.or_false,Ai]
  refine Eq.trans (DY (S:=Unit) (mk:=fun i _=>i) (out:=fun a=>a) s 0 (fun _ _=>True) (fun e (_:Unit)=>if prC e=true then .inr ()else .inl (some false)) ?_ ?_ N () trivial hl) ?_
  ·intro i a hi _
   have ha:=Adw N nT (s.getD i 0) (by show 12<N;omega) (by decide)
   refine Hf (p:=prC) (fun h k=> ?_) (fun h=>⟨fun k=> ?_,trivial⟩)
   ·unfold prC at h
    rw[show((i:Int)).toNat=i by omega,decide_eq_true (show(i:Int)<(s.length:Int) by omega),cond_true,decide_eq_true (show(0:Int)<=(i:Int) by omega),YL,show([32,39,40,41,43,44,45,46,47,58,61,63]:Bs)=nT from rfl,ha]
    generalize IZ (s.getD i 0)=q at h ⊢
    generalize nT.any (fun x=>x==s.getD i 0)=r at h ⊢
    cases q<;>cases r<;>first | rfl | exact absurd h (by decide)
   ·unfold prC at h
    rw[show((i:Int)).toNat=i by omega,decide_eq_true (show(i:Int)<(s.length:Int) by omega),cond_true,decide_eq_true (show(0:Int)<=(i:Int) by omega),YL,show([32,39,40,41,43,44,45,46,47,58,61,63]:Bs)=nT from rfl,ha,w64 (by omega) (by omega)]
    generalize IZ (s.getD i 0)=q at h ⊢
    generalize nT.any (fun x=>x==s.getD i 0)=r at h ⊢
    cases q<;>cases r<;>first | rfl | exact absurd h (by decide)
  ·intro a k _
   rw[decide_eq_false (by omega),cond_false]
  ·rw[OA]
   cases s.all prC<;>rfl
theorem Ad7 (N:Nat) (s:Bs) (hl:s.length<N) (hs:s.length<=1048576):Dw N 22 s=some (s.all iaC):=by
  unfold Dw
  try simp only[clR]
  simp only[show((22:Int)==12)=false from rfl,show((22:Int)==19)=false from rfl,show((22:Int)==22)=true from rfl,cond_false,cond_true,FW,Bool.false_and,Bool.and_false,Bool.not_false,Bool.not_true,Bool.true_and,Bool.or_true,Bool.true_or,Bool.false_or,Bool.or_false,Ai]
  refine Eq.trans (DY (S:=Unit) (mk:=fun i _=>i) (out:=fun a=>a) s 0 (fun _ _=>True) (fun e (_:Unit)=>if iaC e=true then .inr ()else .inl (some false)) ?_ ?_ N () trivial hl) ?_
  ·intro i a hi _
   have key: ∀(c:UInt8),decide (((c.toNat:Nat):Int)<32)=decide (c.toNat<32)/\decide (((c.toNat:Nat):Int)>126)=decide (126<c.toNat):=fun c=>⟨by congr 1;apply propext;omega,by congr 1;apply propext;omega⟩
   refine Hf (p:=iaC) (fun h k=> ?_) (fun h=>⟨fun k=> ?_,trivial⟩)
   ·unfold iaC at h
    rw[show((i:Int)).toNat=i by omega,decide_eq_true (show(i:Int)<(s.length:Int) by omega),cond_true,decide_eq_true (show(0:Int)<=(i:Int) by omega)]
    have h2:(decide (((s.getD i 0).toNat:Int)<32)||decide (((s.getD i 0).toNat:Int)>126))=true:=by
      simp only[Bool.and_eq_false_iff,decide_eq_false_iff_not]at h
      simp only[Bool.or_eq_true,decide_eq_true_eq]
      omega
    generalize decide (((s.getD i 0).toNat:Int)<32)=q at h2 ⊢
    generalize decide (((s.getD i 0).toNat:Int)>126)=r at h2 ⊢
    cases q<;>cases r<;>first | rfl | exact absurd h2 (by decide)
   ·unfold iaC at h
    rw[show((i:Int)).toNat=i by omega,decide_eq_true (show(i:Int)<(s.length:Int) by omega),cond_true,decide_eq_true (show(0:Int)<=(i:Int) by omega),w64 (by omega) (by omega)]
    have h2:decide (((s.getD i 0).toNat:Int)<32)=false/\decide (((s.getD i 0).toNat:Int)>126)=false:=by
      simp only[Bool.and_eq_true,decide_eq_true_eq]at h
      simp only[decide_eq_false_iff_not]
      omega
    rw[h2.1,h2.2]
    rfl
  ·intro a k _
   rw[decide_eq_false (by omega),cond_false]
  ·rw[OA]
   cases s.all iaC<;>rfl
def chR (n b0 b1 b2 b3:Nat):Option Nat :=
  if b0<32\/b0=127 then none
  else if b0<128 then some 1
  else if 192<=b0/\b0<224 then
    (if n<=1\/b1 / 64≠2 then none
     else if b0 % 32*64+b1 % 64<128 then none else some 2)
  else if 224<=b0/\b0<240 then
    (if n<=2\/b1 / 64≠2\/b2 / 64≠2 then none
     else if b0 % 16*4096+b1 % 64*64+b2 % 64<2048\/(55296<=b0 % 16*4096+b1 % 64*64+b2 % 64/\b0 % 16*4096+b1 % 64*64+b2 % 64<57344)then none else some 3)
  else if 240<=b0/\b0<248 then
    (if n<=3\/b1 / 64≠2\/b2 / 64≠2\/b3 / 64≠2 then none
     else if b0 % 8*262144+b1 % 64*4096+b2 % 64*64+b3 % 64<65536\/1114111<b0 % 8*262144+b1 % 64*4096+b2 % 64*64+b3 % 64 then none else some 4)
  else none
set_option maxHeartbeats 4000000 in
theorem AmG (n b0 b1 b2 b3:Nat) (h0:b0<256) (h1:b1<256) (h2:b2<256) (h3:b3<256) :
    chR n b0 b1 b2 b3=if(Lib.decodeN n b0 b1 b2 b3).1<32\/(Lib.decodeN n b0 b1 b2 b3).1=127\/((Lib.decodeN n b0 b1 b2 b3).1=65533/\ ¬(3<=n/\b0=239/\b1=191/\b2=189))then none else some (Lib.decodeN n b0 b1 b2 b3).2:=by
  by_cases c1:b0<128
  ·have hd:Lib.decodeN n b0 b1 b2 b3=(b0,1):=by unfold Lib.decodeN;rw[if_pos c1]
   rw[hd]
   unfold chR
   dsimp only
   by_cases c2:b0<32\/b0=127
   ·rw[if_pos c2,if_pos (by omega)]
   ·rw[if_neg c2,if_pos c1,if_neg (by omega)]
  ·unfold chR Lib.decodeN
   rw[if_neg c1,if_neg (by omega),if_neg c1]
   by_cases c2:192<=b0/\b0<224
   ·rw[if_pos c2]
    repeat' split
    all_goals first | rfl | (exfalso;dsimp only at *;omega)
   ·rw[if_neg c2,if_neg (show ¬(b0 / 32=6/\(1<n/\b1 / 64=2)) by omega)]
    by_cases c3:224<=b0/\b0<240
    ·rw[if_pos c3]
     repeat' split
     all_goals first | rfl | (exfalso;dsimp only at *;omega)
    ·rw[if_neg c3,if_neg (show ¬(b0 / 16=14/\(1<n/\b1 / 64=2)/\(2<n/\b2 / 64=2)) by omega)]
     repeat' split
     all_goals first | rfl | (exfalso;dsimp only at *;omega)
def Aal (s:Bs) (i:Nat):Option Nat:=chR (s.length - i) (s.getD i 0).toNat (s.getD (i+1) 0).toNat (s.getD (i+2) 0).toNat (s.getD (i+3) 0).toNat
def Gi (s:Bs):Nat->Nat->Bool
  | 0,_=>true
  | n+1,i=>if i<s.length then(match Aal s i with
     | none=>false
     | some w=>Gi s n (i+w))else true
theorem AeG (l:Bs):Lib.hasPrefix l [239,191,189]=true↔3<=l.length/\(l.getD 0 0).toNat=239/\(l.getD 1 0).toNat=191/\(l.getD 2 0).toNat=189:=by
  have hb: ∀(x:UInt8) (k:Nat),k<256->((UInt8.ofNat k==x)=true↔x.toNat=k):=by
    intro x k hk
    rw[beq_iff_eq]
    constructor
    ·intro h;rw[<- h,UInt8.toNat_ofNat'];omega
    ·intro h;rw[<- h,UInt8.ofNat_toNat]
  match l with
  | []=>simp [Lib.hasPrefix,List.isPrefixOf]
  | [x]=>simp [Lib.hasPrefix,List.isPrefixOf]
  | [x,y]=>simp [Lib.hasPrefix,List.isPrefixOf]
  | x::y::z::r =>
    show((UInt8.ofNat 239==x)&&((UInt8.ofNat 191==y)&&((UInt8.ofNat 189==z)&&true)))=true↔3<=r.length+1+1+1/\x.toNat=239/\y.toNat=191/\z.toNat=189
    rw[Bool.and_eq_true,Bool.and_eq_true,Bool.and_true,hb _ _ (by decide),hb _ _ (by decide),hb _ _ (by decide)]
    exact⟨fun h=>⟨by omega,h⟩,fun h=>h.2⟩
theorem An7 (s:Bs): ∀(n i:Nat),Iz ⟨s.toArray⟩ n i=Gi s n i:=by
  intro n
  induction n with
  | zero=>intro i;rfl
  | succ n ih =>
    intro i
    have hd:=Lib.decode_N ⟨s.toArray⟩ i
    have hc:=AmG (s.length - i) (s.getD i 0).toNat (s.getD (i+1) 0).toNat (s.getD (i+2) 0).toNat (s.getD (i+3) 0).toNat (Ic _) (Ic _) (Ic _) (Ic _)
    have hp:=AeG (s.drop i)
    rw[List.length_drop,Lib.getD_dropU,Lib.getD_dropU,Lib.getD_dropU,Nat.add_zero]at hp
    unfold Iz Gi
    show(if i<s.length then _ else _)=_
    by_cases hl:i<s.length
    ·rw[if_pos hl,if_pos hl]
     show(let d:=Utf8.decode ⟨s.toArray⟩ i;if d.1<32\/d.1=127 then false else if d.1=65533/\Lib.hasPrefix (s.drop i) [239,191,189]=false then false else Iz ⟨s.toArray⟩ n (i+d.2))=_
     unfold Aal
     have hd':Utf8.decode ⟨s.toArray⟩ i=Lib.decodeN (s.length - i) (s.getD i 0).toNat (s.getD (i+1) 0).toNat (s.getD (i+2) 0).toNat (s.getD (i+3) 0).toNat:=hd
     rw[hc,hd']
     generalize Lib.decodeN (s.length - i) (s.getD i 0).toNat (s.getD (i+1) 0).toNat (s.getD (i+2) 0).toNat (s.getD (i+3) 0).toNat=d
     dsimp only
     by_cases h1:d.1<32\/d.1=127
     ·rw[if_pos h1,if_pos (by omega)]
     ·rw[if_neg h1]
      by_cases h2:d.1=65533/\Lib.hasPrefix (s.drop i) [239,191,189]=false
      ·have h3: ¬(3<=s.length - i/\(s.getD i 0).toNat=239/\(s.getD (i+1) 0).toNat=191/\(s.getD (i+2) 0).toNat=189):=fun h=>by
         have:=hp.2 h
         rw[h2.2]at this
         cases this
       rw[if_pos h2,if_pos (Or.inr (Or.inr ⟨h2.1,h3⟩))]
      ·have h3: ¬(d.1<32\/d.1=127\/(d.1=65533/\ ¬(3<=s.length - i/\(s.getD i 0).toNat=239/\(s.getD (i+1) 0).toNat=191/\(s.getD (i+2) 0).toNat=189))):=by
         rintro (h | h | ⟨h,h4⟩)
         ·exact h1 (Or.inl h)
         ·exact h1 (Or.inr h)
         ·refine h2 ⟨h,?_⟩
          apply Bool.eq_false_iff.2
          intro h5
          exact h4 (hp.1 h5)
       rw[if_neg h2,if_neg h3]
       exact ih _
    ·rw[if_neg hl,if_neg hl]
