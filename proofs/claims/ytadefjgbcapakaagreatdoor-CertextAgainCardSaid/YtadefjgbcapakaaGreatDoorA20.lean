import Derived.Test.YtadefjgbcapakaaGreatDoorA19
import Derived.Lib.SplitLaws
set_option linter.all false
namespace Go.Proofs.YtadefjgbcapakaaGreatDoor.Vm
open IntKind (i64)
open Go
def BI (c:UInt8):Bs->List Bs
  | []=>[[]]
  | b::r=>if b=c then []::BI c r else match BI c r with
    | []=>[[b]]
    | h::t=>(b::h)::t
theorem Abf (c:UInt8) (s:Bs):BI c s≠ []:=by
  cases s with
  | nil=>simp [BI]
  | cons b r =>
    unfold BI
    split
    ·simp
    ·split<;>simp
theorem Qw (c b:UInt8) (r:Bs) (h:b≠c):BI c (b::r)=(b::(BI c r).headD [])::(BI c r).tail:=by
  have hn:=Abf c r
  show(if b=c then _ else _)=_
  rw[if_neg h]
  cases hs:BI c r with
  | nil=>exact absurd hs hn
  | cons x t=>rfl
theorem Abe (c:UInt8): ∀(a r:Bs),c∉a->BI c (a++c::r)=a::BI c r:=by
  intro a
  induction a with
  | nil =>
    intro r _
    show(if c=c then _ else _)=_
    rw[if_pos rfl]
  | cons b a ih =>
    intro r h
    have hb:b≠c:=fun e=>h (by rw[e];exact List.mem_cons_self)
    have:=ih r (fun hm=>h (List.mem_cons_of_mem _ hm))
    show BI c (b::(a++c::r))=_
    rw[Qw _ _ _ hb,this]
    rfl
theorem lW (c:UInt8): ∀ a:Bs,c∉a->BI c a=[a]:=by
  intro a
  induction a with
  | nil=>intro _;rfl
  | cons b a ih =>
    intro h
    have hb:b≠c:=fun e=>h (by rw[e];exact List.mem_cons_self)
    rw[Qw _ _ _ hb,ih (fun hm=>h (List.mem_cons_of_mem _ hm))]
    rfl
theorem index_none (c:UInt8): ∀ s:Bs,c∉s->Lib.index s [c]= -1:=by
  intro s
  induction s with
  | nil=>intro _;rfl
  | cons b r ih =>
    intro h
    have hb: ¬ c=b:=fun e=>h (by rw[e];exact List.mem_cons_self)
    have h2:=ih (fun hm=>h (List.mem_cons_of_mem _ hm))
    show(if List.isPrefixOf [c] (b::r)=true then(0:Int)else if Lib.index r [c]== -1 then -1 else Lib.index r [c]+1)= -1
    rw[h2,if_neg (by simp [List.isPrefixOf,hb])]
    rfl
theorem oQ (c:UInt8): ∀(a r:Bs),c∉a->Lib.index (a++c::r) [c]=(a.length:Int):=by
  intro a
  induction a with
  | nil =>
    intro r _
    show(if List.isPrefixOf [c] (c::r)=true then(0:Int)else _)=_
    rw[if_pos (by simp [List.isPrefixOf])]
    rfl
  | cons b a ih =>
    intro r h
    have hb: ¬ c=b:=fun e=>h (by rw[e];exact List.mem_cons_self)
    have h2:=ih r (fun hm=>h (List.mem_cons_of_mem _ hm))
    show(if List.isPrefixOf [c] (b::(a++c::r))=true then(0:Int)else if Lib.index (a++c::r) [c]== -1 then -1 else Lib.index (a++c::r) [c]+1)=_
    rw[h2,if_neg (by simp [List.isPrefixOf,hb]),if_neg (by simp)]
    simp
theorem dG (c:UInt8) (s:Bs):c∉s\/ ∃ a r,s=a++c::r/\c∉a:=by
  induction s with
  | nil=>left;simp
  | cons b t ih =>
    by_cases hb:b=c
    ·right;exact⟨[],t,by rw[hb];rfl,by simp⟩
    ·rcases ih with h | ⟨a,r,h1,h2⟩
     ·left
      intro hm
      rcases List.mem_cons.1 hm with h3 | h3
      ·exact hb h3.symm
      ·exact h h3
     ·right
      refine⟨b::a,r,by rw[h1];rfl,fun hm=> ?_⟩
      rcases List.mem_cons.1 hm with h3 | h3
      ·exact hb h3.symm
      ·exact h2 h3
theorem Aki (c:UInt8): ∀(n:Nat) (s:Bs),s.length<=n->Lib.splitK [c] 0 (Lib.count s [c]) s=BI c s:=by
  intro n
  induction n with
  | zero =>
    intro s h
    have:s=[]:=List.eq_nil_of_length_eq_zero (by omega)
    subst this
    rfl
  | succ n ih =>
    intro s h
    rcases dG c s with hn | ⟨a,r,rfl,ha⟩
    ·rw[Lib.count_miss (index_none c s hn),lW c s hn];rfl
    ·have hi:=oQ c a r ha
     rw[Lib.count_hit (by simp) hi,Nat.add_comm]
     show(if Lib.index (a++c::r) [c]== -1 then _ else _)=_
     rw[hi,if_neg (by simp),Abe c a r ha]
     have e1:(a++c::r).take ((a.length:Int).toNat+0)=a:=by simp
     have e2:(a++c::r).drop ((a.length:Int).toNat+ [c].length)=r:=by
       rw[show((a.length:Int).toNat+ [c].length)=a.length+1 from by simp]
       rw[<- List.drop_drop,List.drop_left]
       rfl
     have e3:(a++c::r).drop (a.length+ [c].length)=r:=by
       rw[show(a.length+ [c].length)=a.length+1 from by simp,<- List.drop_drop,List.drop_left]
       rfl
     rw[e1,e2,e3,ih r (by simp at h;omega)]
theorem Aee (c:UInt8) (s:Bs):Lib.split s [c]=BI c s:=Aki c s.length s (Nat.le_refl _)
theorem Zk (c:UInt8): ∀ s:Bs,(BI c s).length<=s.length+1/\0<(BI c s).length/\ ∀ x∈BI c s,x.length<=s.length:=by
  intro s
  induction s with
  | nil=>exact⟨by simp [BI],by simp [BI],by intro x hx;simp [BI]at hx;simp [hx]⟩
  | cons b r ih =>
    obtain⟨h1,h2,h3⟩:=ih
    by_cases hb:b=c
    ·have e:BI c (b::r)=[]::BI c r:=by show(if b=c then _ else _)=_;rw[if_pos hb]
     rw[e]
     refine⟨by simp;omega,by simp,fun x hx=> ?_⟩
     rcases List.mem_cons.1 hx with rfl | hx
     ·simp
     ·have:=h3 x hx;simp;omega
    ·rw[Qw _ _ _ hb]
     cases hs:BI c r with
     | nil=>rw[hs]at h2;simp at h2
     | cons y t =>
       rw[hs]at h1 h3
       refine⟨by simp at h1 ⊢;omega,by simp,fun x hx=> ?_⟩
       rcases List.mem_cons.1 hx with rfl | hx
       ·have:=h3 y List.mem_cons_self;simp;omega
       ·have:=h3 x (List.mem_cons_of_mem _ hx);simp;omega
end Go.Proofs.YtadefjgbcapakaaGreatDoor.Vm
namespace Go.Proofs.YtadefjgbcapakaaGreatDoor.Pl
open IntKind (i64)
open Go Vm
def Dz (c:UInt8):Bool:=decide (48<=c.toNat)&&decide (c.toNat<=57)
def F8 (d:Bs):Nat:=d.foldl (fun v c=>10*v+(c.toNat - 48)) 0
theorem Aa5 (d:Bs) (c:UInt8):F8 (d++[c])=10*F8 d+(c.toNat - 48):=by simp [F8,List.foldl_append]
theorem AkS: ∀(d:Bs) (v k:Nat),d.all Dz=true->v<10 ^ k->d.foldl (fun v c=>10*v+(c.toNat - 48)) v<10 ^ (k+d.length):=by
  intro d
  induction d with
  | nil=>intro v k _ h;exact h
  | cons c d ih =>
    intro v k h hv
    rw[List.all_cons,Bool.and_eq_true]at h
    have h2:=h.1
    unfold Dz at h2
    simp only[Bool.and_eq_true,decide_eq_true_eq]at h2
    have:=ih (10*v+(c.toNat - 48)) (k+1) h.2 (by rw[Nat.pow_succ];omega)
    rw[List.length_cons,show k+(d.length+1)=k+1+d.length by omega]
    exact this
theorem Afx (d:Bs) (h:d.all Dz=true):F8 d<10 ^ d.length:=by
  have:=AkS d 0 0 h (by decide)
  rwa [Nat.zero_add]at this
def qW (d:Bs):Bool:= !(decide (d.length=0)||decide (10<d.length)||(decide ((d.getD 0 0).toNat=48)&&decide (1<d.length)))&&(d.all Dz&&decide (F8 d<=2147483647))
def JX (d:Bs):Option Nat:=if qW d then some (F8 d)else none
def Ah0:Option Nat->Int
  | none=> -1
  | some n=>n
theorem AcK {c:Nat} (h1:48<=c) (h2:c<=57):i64.wrap (IntKind.u8.wrap ((c:Int) - 48))=((c - 48:Nat):Int):=by
  rw[w8,w64 (by omega) (by omega)];omega
theorem Ak5 {ρ :Type} (N:Nat) (s:Bs) (hs:s.length<=10) (hN:10<N) (bad:Option ρ) (fin:Int->Option ρ) :
    Ap (X:=Int×Int) (Y:=Int) (U2 fun t3a t4a k7 x8 =>
     bif decide (t4a<(s.length:Int))then Vm.chk (decide ((0:Int)<=t4a)) (Vm.chk (decide (t4a<(s.length:Int)))
       (Vm.chk (decide ((0:Int)<=t4a)||decide (((s.getD t4a.toNat 0).toNat:Int)<(48:Int)))
         (Vm.chk (decide (t4a<(s.length:Int))||decide (((s.getD t4a.toNat 0).toNat:Int)<(48:Int)))
           (bif decide (((s.getD t4a.toNat 0).toNat:Int)<(48:Int))||decide (((s.getD t4a.toNat 0).toNat:Int)>(57:Int))then bad
            else Vm.chk (decide ((0:Int)<=t4a)) (Vm.chk (decide (t4a<(s.length:Int)))
             (k7 (i64.wrap ((i64.wrap ((10:Int)*t3a))+i64.wrap (IntKind.u8.wrap (((s.getD t4a.toNat 0).toNat:Int) - (48:Int)))),i64.wrap (t4a+(1:Int)))))))))
     else x8 t3a) N (0,0) fin=if s.all Dz=true then fin ((F8 s:Nat):Int)else bad:=by
  refine IB (I:=fun x=> ∃ i:Nat,x=(((F8 (s.take i):Nat):Int),(i:Int))/\i<=s.length/\(s.take i).all Dz=true) (μ :=fun x=>s.length - x.2.toNat) (fun _=>if s.all Dz=true then fin ((F8 s:Nat):Int)else bad) ?_ N (0,0) ⟨0,rfl,by omega,rfl⟩ (by show s.length - 0<N;omega)
  rintro x ⟨i,rfl,hi,hd⟩ k hk
  show(bif decide ((i:Int)<(s.length:Int))then _ else _)=_
  by_cases hl:i<s.length
  ·have hv:=Afx (s.take i) hd
   have h10:(10:Nat) ^ (s.take i).length<=10 ^ 9:=Nat.pow_le_pow_right (by decide) (by simp;omega)
   have hg:s.getD ((i:Int)).toNat 0=s[i]:=getD_lt s i 0 hl
   rw[decide_eq_true (by omega),cond_true,hg,decide_eq_true (show(0:Int)<=(i:Int) by omega)]
   simp only[Bool.true_or,AP]
   have htake:s.take (i+1)=s.take i++[s[i]]:=by rw[List.take_add_one,List.getElem?_eq_getElem hl];rfl
   by_cases hc:Dz s[i]=true
   ·have hc':=hc
    unfold Dz at hc'
    simp only[Bool.and_eq_true,decide_eq_true_eq]at hc'
    rw[decide_eq_false (by omega),decide_eq_false (by omega)]
    simp only[Bool.or_self,cond_false]
    rw[AcK hc'.1 hc'.2,w64 (x:=(10:Int)*((F8 (s.take i):Nat):Int)) (by omega) (by omega),w64 (x:=(10:Int)*((F8 (s.take i):Nat):Int)+_) (by omega) (by omega),w64 (x:=(i:Int)+1) (by omega) (by omega)]
    refine hk _ ⟨i+1,?_,by omega,by rw[htake,List.all_append,hd];simpa using hc⟩ (by show s.length - ((i:Int)+1).toNat<s.length - ((i:Int)).toNat;omega)
    rw[htake,Aa5]
    push_cast
    rfl
   ·have hall: ¬(s.all Dz=true):=fun h=>hc (Afr h hl)
    rw[if_neg hall]
    have:(decide (((s[i].toNat:Nat):Int)<48)||decide (((s[i].toNat:Nat):Int)>57))=true:=by
      unfold Dz at hc
      simp only[Bool.and_eq_true,decide_eq_true_eq]at hc
      simp only[Bool.or_eq_true,decide_eq_true_eq]
      omega
    rw[this,cond_true]
  ·have:i=s.length:=by omega
   subst this
   rw[decide_eq_false (by omega),cond_false]
   rw[List.take_length]at hd
   rw[if_pos hd,List.take_length]
theorem Ahr (N:Nat) (s:Bs) (hN:16<N):XR N s=some (Ah0 (JX s)):=by
  unfold XR
  try simp only[clR]
  by_cases h0:s.length=0
  ·have:s=[]:=List.eq_nil_of_length_eq_zero h0
   subst this
   rfl
  ·have hne:(s==([]:Bs))=false:=by cases s with | nil=>exact absurd rfl h0 | cons _ _=>rfl
   rw[hne,decide_eq_true (show(0:Int)<(s.length:Int) by omega)]
   simp only[Bool.false_or,Bool.true_or,AP]
   unfold JX qW
   by_cases h1:10<s.length
   ·rw[decide_eq_true (show(s.length:Int)>10 by omega),decide_eq_true h1]
    simp [AP,Ah0]
   ·rw[decide_eq_false (show ¬((s.length:Int)>10) by omega),decide_eq_false h1,decide_eq_false h0]
    simp only[Bool.or_false,Bool.false_or,Bool.not_false,Bool.true_and,Bool.not_or_self,AP]
    by_cases h2:(s.getD 0 0).toNat=48/\1<s.length
    ·rw[show(((s.getD 0 0).toNat:Int)==48)=true from by rw[beq_iff_eq];omega,decide_eq_true (show(s.length:Int)>1 by omega),decide_eq_true h2.1,decide_eq_true h2.2]
     rfl
    ·have e:((((s.getD 0 0).toNat:Int)==48)&&decide ((s.length:Int)>1))=false:=by
       rw[Bool.and_eq_false_iff]
       simp only[beq_eq_false_iff_ne,decide_eq_false_iff_not]
       omega
     have e':(decide ((s.getD 0 0).toNat=48)&&decide (1<s.length))=false:=by
       rw[Bool.and_eq_false_iff]
       simp only[decide_eq_false_iff_not]
       omega
     rw[e,e',cond_false]
     refine Eq.trans (Ak5 N s (by omega) (by omega) _ _) ?_
     by_cases h3:s.all Dz=true
     ·rw[if_pos h3,h3]
      by_cases h4:F8 s<=2147483647
      ·rw[decide_eq_false (by omega),decide_eq_true h4];rfl
      ·rw[decide_eq_true (by omega),decide_eq_false h4];rfl
     ·rw[if_neg h3,show s.all Dz=false by simpa using h3];rfl
def MS (l:List Nat):Bool:=(decide (l.getD 0 0<=1)&&decide (l.getD 1 0<=39))||decide (l.getD 0 0=2)
def FB (s:Bs):Option (List Nat) :=
  if(BI 46 s).length<2\/12<(BI 46 s).length then none
  else match H7 JX (BI 46 s)with
    | none=>none
    | some l=>if MS l=true then some l else none
def ints (l:List Nat):List Int:=l.map fun(n:Nat)=>(n:Int)
def Aou:Option (List Nat)->List Int
  | none=>[]
  | some l=>ints l
theorem AmC {s:Bs} {n:Nat} (h:JX s=some n):n<=2147483647:=by
  unfold JX at h
  split at h
  ·rename_i hk
   injection h with h
   unfold qW at hk
   simp only[Bool.and_eq_true,decide_eq_true_eq]at hk
   omega
  ·cases h
theorem Al4 {α β :Type} {f: α ->Option β}: ∀ {l:List α} {r:List β},H7 f l=some r-> ∀ b∈r,∃ a∈l,f a=some b:=by
  intro l
  induction l with
  | nil=>intro r h b hb;injection h with h;subst h;cases hb
  | cons a t ih =>
    intro r h b hb
    unfold H7 at h
    split at h
    ·rename_i x q h1 h2
     injection h with h;subst h
     rcases List.mem_cons.1 hb with rfl | hb
     ·exact⟨a,List.mem_cons_self,h1⟩
     ·obtain⟨y,h3,h4⟩:=ih h2 b hb
      exact⟨y,List.mem_cons_of_mem _ h3,h4⟩
    ·cases h
theorem AeR (N:Nat) (a b:Nat):YY N (a:Int) (b:Int)=some ((decide (a<=1)&&decide (b<=39))||decide (a=2)):=by
  unfold YY
  try simp only[clR]
  have e1:decide ((a:Int)<=1)=decide (a<=1):=by rw[decide_eq_decide];omega
  have e2:decide ((b:Int)<=39)=decide (b<=39):=by rw[decide_eq_decide];omega
  have e3:((a:Int)==2)=decide (a=2):=by rw[Bool.eq_iff_iff,beq_iff_eq,decide_eq_true_eq];omega
  rw[e1,e2,e3]
theorem lQ (N:Nat) (s:Bs) (hN:16<N) (hs:s.length<=1048576):Um N s=some (Aou (FB s)):=by
  unfold Um
  try simp only[clR]
  have hsp:strings_Split N s [46]=some (BI 46 s):=by
    unfold strings_Split
    rw[decide_eq_true (by omega),Aee];rfl
  rw[hsp,Ae]
  unfold FB
  have hlen:=Zk 46 s
  generalize hp:BI 46 s=p at hlen ⊢
  by_cases h1:p.length<2\/12<p.length
  ·rw[if_pos h1,show(decide ((p.length:Int)<2)||decide ((p.length:Int)>12))=true by simp only[Bool.or_eq_true,decide_eq_true_eq];omega]
   rfl
  ·rw[if_neg h1,show(decide ((p.length:Int)<2)||decide ((p.length:Int)>12))=false by simp only[Bool.or_eq_false_iff,decide_eq_false_iff_not];omega,cond_false]
   refine Eq.trans (J4 (S:=List Int) (mk:=fun i a=>(i,a)) (out:=fun a=>a) p [] (fun i a=>a.length=i) (SH JX (fun a v=>a++[(v:Int)]) (some [])) ?_ ?_ N [] rfl (by omega)) ?_
   ·intro i a hi ha
    have hg:p.getD ((i:Int)).toNat []=p[i]:=getD_lt p i [] hi
    rw[getD_lt p i [] hi]
    have key: ∀(K:Int->Option (List Int)),(Vm.chk (decide ((0:Int)<=(i:Int))) (Vm.chk (decide ((i:Int)<(p.length:Int))) (Ac (XR N (p.getD ((i:Int)).toNat [])) K)))=K (Ah0 (JX p[i])):=by
      intro K
      rw[decide_eq_true (show(0:Int)<=(i:Int) by omega),decide_eq_true (show(i:Int)<(p.length:Int) by omega),AP,AP,hg,Ahr N _ hN,Ae]
    refine Aef (fun hv k=> ?_) (fun v hv=>⟨fun k=> ?_,by simp [ha]⟩)
    ·dsimp only[U2]
     rw[key,hv,decide_eq_true (show(i:Int)<(p.length:Int) by omega)]
     rfl
    ·dsimp only[U2]
     rw[key,hv,decide_eq_true (show(i:Int)<(p.length:Int) by omega),cond_true]
     rw[show Ah0 (some v)=(v:Int)from rfl,decide_eq_false (show ¬((v:Int)<0) by omega),cond_false,decide_eq_true (show(a.length+1)*9<=140737488355328 by omega),AP,w64 (by omega) (by omega)]
   ·intro a k ha
    dsimp only[U2]
    rw[decide_eq_false (by omega),cond_false]
   ·rw[AdZ]
    cases hm:H7 JX p with
    | none=>rfl
    | some l =>
      have hl:=pR hm
      have hf:l.foldl (fun(a:List Int) (v:Nat)=>a++[(v:Int)]) []=l.map (fun(v:Nat)=>(v:Int)):=by rw[AaA,List.nil_append]
      dsimp only[Option.elim]
      rw[hf]
      have e1:(l.map (fun(v:Nat)=>(v:Int))).length=l.length:=List.length_map ..
      rw[e1,decide_eq_true (show(0:Int)<(l.length:Int) by omega),decide_eq_true (show 0<l.length by omega),decide_eq_true (show(1:Int)<(l.length:Int) by omega),decide_eq_true (show 1<l.length by omega)]
      simp only[AP]
      have g0:(l.map (fun(v:Nat)=>(v:Int))).getD 0 0=((l.getD 0 0:Nat):Int):=by
        rw[getD_lt _ 0 0 (by rw[e1];omega),getD_lt _ 0 0 (by omega)];simp
      have g1:(l.map (fun(v:Nat)=>(v:Int))).getD 1 0=((l.getD 1 0:Nat):Int):=by
        rw[getD_lt _ 1 0 (by rw[e1];omega),getD_lt _ 1 0 (by omega)];simp
      rw[g0,g1,AeR,Ae]
      show(bif !(MS l)then _ else _)=_
      cases MS l<;>rfl
def Ws (cur:Bs) (out:List Nat):Option (List Nat):=if out.length=12 then none else(JX cur).map fun v=>out++[v]
def KD:Bs->List Nat->Bs->Option (List Nat)
  | cur,out,[]=>Ws cur out
  | cur,out,c::r=>if c=46 then(Ws cur out).bind fun o=>KD [] o r else if Dz c=true then KD (cur++[c]) out r else none
theorem Abb (cur:Bs) (out:List Nat) (r:Bs):KD cur out (46::r)=(Ws cur out).bind fun o=>KD [] o r:=if_pos rfl
theorem AaZ (cur:Bs) (out:List Nat) (c:UInt8) (r:Bs) (h1:c≠46) (h2: ¬ Dz c=true):KD cur out (c::r)=none:=by
  show(if c=46 then _ else if Dz c=true then _ else _)=_
  rw[if_neg h1,if_neg h2]
theorem Aba (cur:Bs) (out:List Nat) (c:UInt8) (r:Bs) (h1:c≠46) (h2:Dz c=true):KD cur out (c::r)=KD (cur++[c]) out r:=by
  show(if c=46 then _ else if Dz c=true then _ else _)=_
  rw[if_neg h1,if_pos h2]
def N8 (l:List Nat):Option (List Nat):=if 2<=l.length/\MS l=true then some l else none
def qI:Option (List Nat)->List Int×Bool
  | none=>([],false)
  | some l=>(ints l,true)
theorem AeZ {ρ :Type} (N:Nat) (d:Bs) (out:List Int) (hs:d.length<=10) (hd:d.all Dz=true) (hN:10<N) (fin:Int×List Int->Option ρ) :
    Ap (X:=Int×Int×List Int) (Y:=Int×List Int) (U3 fun t8b t9b l1004096b k11 x12 =>
     bif decide (t9b<(d.length:Int))then Vm.chk (decide (0<=t9b)) (Vm.chk (decide (t9b<(d.length:Int)))
       (k11 (i64.wrap (i64.wrap (10*t8b)+i64.wrap (IntKind.u8.wrap (((d.getD t9b.toNat 0).toNat:Int) - 48))),i64.wrap (t9b+1),l1004096b)))
     else x12 (t8b,l1004096b)) N (0,0,out) fin=fin ((F8 d:Nat),out):=by
  refine IB (I:=fun x=> ∃ i:Nat,x=(((F8 (d.take i):Nat):Int),(i:Int),out)/\i<=d.length) (μ :=fun x=>d.length - x.2.1.toNat) (fun _=>fin ((F8 d:Nat),out)) ?_ N (0,0,out) ⟨0,rfl,by omega⟩ (by show d.length - 0<N;omega)
  rintro x ⟨i,rfl,hi⟩ k hk
  dsimp only[U3]
  by_cases hl:i<d.length
  ·have hdi:(d.take i).all Dz=true:=List.all_eq_true.2 fun x hx=>List.all_eq_true.1 hd x (List.mem_of_mem_take hx)
   have hv:=Afx (d.take i) hdi
   have h10:(10:Nat) ^ (d.take i).length<=10 ^ 9:=Nat.pow_le_pow_right (by decide) (by simp;omega)
   have hg:d.getD ((i:Int)).toNat 0=d[i]:=getD_lt d i 0 hl
   have htake:d.take (i+1)=d.take i++[d[i]]:=by rw[List.take_add_one,List.getElem?_eq_getElem hl];rfl
   have hc:=Afr hd hl
   unfold Dz at hc
   simp only[Bool.and_eq_true,decide_eq_true_eq]at hc
   rw[decide_eq_true (by omega),cond_true,hg,decide_eq_true (show(0:Int)<=(i:Int) by omega),AP,AP]
   rw[AcK hc.1 hc.2,w64 (x:=(10:Int)*((F8 (d.take i):Nat):Int)) (by omega) (by omega),w64 (x:=(10:Int)*((F8 (d.take i):Nat):Int)+_) (by omega) (by omega),w64 (x:=(i:Int)+1) (by omega) (by omega)]
   refine hk _ ⟨i+1,?_,by omega⟩ (by show d.length - ((i:Int)+1).toNat<d.length - ((i:Int)).toNat;omega)
   rw[htake,Aa5]
   push_cast
   rfl
  ·have:i=d.length:=by omega
   subst this
   rw[decide_eq_false (by omega),cond_false,List.take_length]
theorem Ak4 {d:Bs} (hd:d.all Dz=true):JX d=if d.length=0\/10<d.length\/((d.getD 0 0).toNat=48/\1<d.length)\/2147483647<F8 d then none else some (F8 d):=by
  unfold JX qW
  rw[hd]
  by_cases h:d.length=0\/10<d.length\/((d.getD 0 0).toNat=48/\1<d.length)\/2147483647<F8 d
  ·rw[if_pos h,if_neg]
   simp only[Bool.and_eq_true,Bool.not_eq_true',Bool.or_eq_false_iff,decide_eq_false_iff_not,Bool.and_eq_false_iff,decide_eq_true_eq]
   omega
  ·rw[if_neg h,if_pos]
   have h1:d.length≠0:=by omega
   have h2: ¬ 10<d.length:=by omega
   have h3:F8 d<=2147483647:=by omega
   have h4:(decide ((d.getD 0 0).toNat=48)&&decide (1<d.length))=false:=by
     rw[Bool.and_eq_false_iff,decide_eq_false_iff_not,decide_eq_false_iff_not];omega
   rw[decide_eq_false h1,decide_eq_false h2,decide_eq_true h3,h4];rfl
theorem AmS {d:Bs} (o:List Nat) (hd:d.all Dz=true):Ws d o=if(d.length=0\/10<d.length\/((d.getD 0 0).toNat=48/\1<d.length))\/o.length=12\/2147483647<F8 d then none else some (o++[F8 d]):=by
  unfold Ws
  rw[Ak4 hd]
  by_cases h1:o.length=12
  ·rw[if_pos h1,if_pos (.inr (.inl h1))]
  ·rw[if_neg h1]
   by_cases h2:d.length=0\/10<d.length\/((d.getD 0 0).toNat=48/\1<d.length)\/2147483647<F8 d
   ·rw[if_pos h2,if_pos (by omega)];rfl
   ·rw[if_neg h2,if_neg (by omega)];rfl
theorem Aa4 (s:Bs) {a j:Nat} (ha:a<=j) (hj:j<s.length):AA s a (j+1)=AA s a j++[s[j]]:=by
  unfold AA
  rw[List.take_add_one,List.getElem?_eq_getElem hj,List.drop_append_of_le_length (by simp;omega)]
  rfl
theorem Vh {α :Type} (s:List α) (a:Nat):AA s a a=[]:=by
  unfold AA
  exact List.drop_eq_nil_of_le (by simp;omega)
theorem Ajo (o:List Nat) (v:Nat):ints o++[(v:Int)]=ints (o++[v]):=by simp [ints]
theorem DW (o:List Nat):(ints o).length=o.length:=List.length_map ..
theorem Anr (o:List Nat):(Vm.chk (decide (0<((ints o).length:Int))||decide (((ints o).length:Int)<2))
        (Vm.chk (decide (0<(ints o).length)||decide (((ints o).length:Int)<2))
          (Vm.chk (decide (0<((ints o).length:Int))||(decide (((ints o).length:Int)<2)||decide ((ints o).getD 0 0>2)))
            (Vm.chk (decide (0<(ints o).length)||(decide (((ints o).length:Int)<2)||decide ((ints o).getD 0 0>2)))
              (Vm.chk (decide (1<((ints o).length:Int))|| !(!(decide (((ints o).length:Int)<2)||decide ((ints o).getD 0 0>2))&&decide ((ints o).getD 0 0<2)))
                (Vm.chk (decide (1<(ints o).length)|| !(!(decide (((ints o).length:Int)<2)||decide ((ints o).getD 0 0>2))&&decide ((ints o).getD 0 0<2)))
                  (Vm.chk (!decide ((ints o).getD 0 0<2)|| !(decide (((ints o).length:Int)<2)||decide ((ints o).getD 0 0>2))&&decide ((ints o).getD 0 0<2)||(decide (((ints o).length:Int)<2)||decide ((ints o).getD 0 0>2)))
                    (bif decide (((ints o).length:Int)<2)||decide ((ints o).getD 0 0>2)||decide ((ints o).getD 0 0<2)&&decide ((ints o).getD 1 0>39)then some (([]:List Int),false)else some (ints o,true)))))))))=some (qI (N8 o)):=by
  by_cases h:o.length<2
  ·have e:N8 o=none:=if_neg (by omega)
   rw[e,DW,decide_eq_true (show(o.length:Int)<2 by omega)]
   simp [AP,qI]
  ·match o,h with
   | a::b::r,_ =>
     have e0:(ints (a::b::r)).getD 0 0=(a:Int):=rfl
     have e1:(ints (a::b::r)).getD 1 0=(b:Int):=rfl
     have e2:(ints (a::b::r)).length=r.length+2:=by rw[DW];rfl
     rw[e0,e1,e2,decide_eq_true (show(0:Int)<((r.length+2:Nat):Int) by omega),decide_eq_true (show 0<r.length+2 by omega),decide_eq_true (show(1:Int)<((r.length+2:Nat):Int) by omega),decide_eq_true (show 1<r.length+2 by omega),decide_eq_false (show ¬(((r.length+2:Nat):Int)<2) by omega)]
     have hr:MS (a::b::r)= !(decide ((a:Int)>2)||(decide ((a:Int)<2)&&decide ((b:Int)>39))):=by
       show((decide (a<=1)&&decide (b<=39))||decide (a=2))=_
       rw[Bool.eq_iff_iff]
       simp only[Bool.or_eq_true,Bool.and_eq_true,decide_eq_true_eq,Bool.not_eq_true',Bool.or_eq_false_iff,Bool.and_eq_false_iff,decide_eq_false_iff_not]
       omega
     unfold N8
     rw[hr]
     cases decide ((a:Int)>2)<;>cases decide ((a:Int)<2)<;>cases decide ((b:Int)>39)<;>simp [Vm.chk,qI]
   | [],h=>exact absurd (by decide) h
   | [a],h=>exact absurd (by simp) h
theorem AfD (c:UInt8) (k:Nat):(((c.toNat:Nat):Int) != (k:Int))=decide (c.toNat≠k):=by
  rw[Bool.eq_iff_iff,bne_iff_ne,decide_eq_true_eq];omega
theorem AbM (N:Nat) (s:Bs) (hN:16<N) (hs:s.length<=1048576) (hl:s.length+1<N):SA N s=some (qI ((KD [] [] s).bind N8)):=by
  unfold SA
  try simp only[clR]
  generalize hR:KD [] [] s=R0
  refine IB (I:=fun x=> ∃(a j:Nat) (o:List Nat),x=((a:Int),(j:Int),ints o)/\a<=j/\o.length<=12/\((j<=s.length/\(AA s a j).all Dz=true/\KD (AA s a j) o (s.drop j)=R0)\/(j=s.length+1/\some o=R0))) (μ :=fun x=>s.length+1 - x.2.1.toNat) (fun _=>some (qI (R0.bind N8))) ?_ N (0,0,[]) ⟨0,0,[],rfl,by omega,by simp,.inl ⟨by omega,by rw[Vh];rfl,by rw[Vh,List.drop_zero];exact hR⟩⟩ (by show s.length+1 - 0<N;omega)
  rintro x ⟨a,j,o,rfl,ha,ho,hx⟩ k hk
  dsimp only[U3]
  rcases hx with ⟨hj,hd,hsc⟩ | ⟨rfl,hsc⟩
  ·have hmu: ∀ j':Nat,j<j'->s.length+1 - ((j':Int)).toNat<s.length+1 - ((j:Int)).toNat:=fun j' h=>by omega
   rw[decide_eq_true (show(j:Int)<=(s.length:Int) by omega),cond_true,decide_eq_true (show(0:Int)<=(j:Int) by omega)]
   simp only[Bool.true_or,AP]
   have proc: ∀(d:Bs),d.all Dz=true->(if j<s.length then(Ws d o).bind fun o=>KD [] o (s.drop (j+1))else Ws d o)=R0 ->
       (Vm.chk (decide ((0:Int)<=(a:Int))) (Vm.chk (decide ((a:Int)<=(j:Int)))
         (Vm.chk (decide (0<(d.length:Int))|| !(!((d.length:Int)==0||decide ((d.length:Int)>10))&&decide ((d.length:Int)>1)))
           (Vm.chk (!decide ((d.length:Int)>1)|| !((d.length:Int)==0||decide ((d.length:Int)>10))&&decide ((d.length:Int)>1)||((d.length:Int)==0||decide ((d.length:Int)>10)))
             (bif (d.length:Int)==0||decide ((d.length:Int)>10)||decide ((d.length:Int)>1)&&((d.getD 0 0).toNat:Int)==48||((ints o).length:Int)==12 then some (([]:List Int),false)
              else Ap (X:=Int×Int×List Int) (Y:=Int×List Int) (U3 fun t8b t9b l1004096b k11 x12 =>
                 bif decide (t9b<(d.length:Int))then Vm.chk (decide (0<=t9b)) (Vm.chk (decide (t9b<(d.length:Int)))
                   (k11 (i64.wrap (i64.wrap (10*t8b)+i64.wrap (IntKind.u8.wrap (((d.getD t9b.toNat 0).toNat:Int) - 48))),i64.wrap (t9b+1),l1004096b)))
                 else x12 (t8b,l1004096b)) N (0,0,ints o) (U2 fun t8c l1008192c=>bif decide (t8c>2147483647)then some ([],false)else Vm.chk (decide ((l1008192c.length+1)*9<=140737488355328)) (k (i64.wrap ((j:Int)+1),i64.wrap ((j:Int)+1),l1008192c++[t8c]))))))))=some (qI (R0.bind N8)):=by
     intro d hd hsc
     rw[decide_eq_true (show(0:Int)<=(a:Int) by omega),decide_eq_true (show(a:Int)<=(j:Int) by omega)]
     simp only[AP]
     have c0:(((d.length:Nat):Int)==0)=decide (d.length=0):=by rw[Bool.eq_iff_iff,beq_iff_eq,decide_eq_true_eq];omega
     have c1:decide (((d.length:Nat):Int)>10)=decide (10<d.length):=by rw[decide_eq_decide];omega
     have c2:decide (((d.length:Nat):Int)>1)=decide (1<d.length):=by rw[decide_eq_decide];omega
     have c3:((((d.getD 0 0).toNat:Nat):Int)==48)=decide ((d.getD 0 0).toNat=48):=by rw[Bool.eq_iff_iff,beq_iff_eq,decide_eq_true_eq];omega
     have c4:(((ints o).length:Int)==12)=decide (o.length=12):=by rw[DW,Bool.eq_iff_iff,beq_iff_eq,decide_eq_true_eq];omega
     have c5:decide (0<((d.length:Nat):Int))= !(decide (d.length=0)):=by rw[Bool.eq_iff_iff,decide_eq_true_eq,Bool.not_eq_true',decide_eq_false_iff_not];omega
     rw[c0,c1,c2,c3,c4,c5]
     have t1:((!(decide (d.length=0)))|| !(!(decide (d.length=0)||decide (10<d.length))&&decide (1<d.length)))=true:=by cases decide (d.length=0)<;>cases decide (10<d.length)<;>cases decide (1<d.length)<;>rfl
     have t2:(!decide (1<d.length)|| !(decide (d.length=0)||decide (10<d.length))&&decide (1<d.length)||(decide (d.length=0)||decide (10<d.length)))=true:=by cases decide (d.length=0)<;>cases decide (10<d.length)<;>cases decide (1<d.length)<;>rfl
     rw[t1,t2,AP,AP]
     have hE:=AmS o hd
     by_cases hb:(d.length=0\/10<d.length\/((d.getD 0 0).toNat=48/\1<d.length))\/o.length=12
     ·rw[show(decide (d.length=0)||decide (10<d.length)||decide (1<d.length)&&decide ((d.getD 0 0).toNat=48)||decide (o.length=12))=true by simp only[Bool.or_eq_true,Bool.and_eq_true,decide_eq_true_eq];omega,cond_true]
      rw[if_pos (by omega)]at hE
      have:R0=none:=by rw[<- hsc,hE];split<;>rfl
      rw[this];rfl
     ·rw[show(decide (d.length=0)||decide (10<d.length)||decide (1<d.length)&&decide ((d.getD 0 0).toNat=48)||decide (o.length=12))=false by simp only[Bool.or_eq_false_iff,Bool.and_eq_false_iff,decide_eq_false_iff_not];omega,cond_false]
      refine Eq.trans (AeZ N d (ints o) (by omega) hd (by omega) _) ?_
      dsimp only[U2]
      by_cases hv:2147483647<F8 d
      ·rw[decide_eq_true (show((F8 d:Nat):Int)>2147483647 by omega),cond_true]
       rw[if_pos (by omega)]at hE
       have:R0=none:=by rw[<- hsc,hE];split<;>rfl
       rw[this];rfl
      ·rw[decide_eq_false (show ¬((F8 d:Nat):Int)>2147483647 by omega),cond_false,DW,decide_eq_true (show(o.length+1)*9<=140737488355328 by omega),AP,w64 (by omega) (by omega),Ajo]
       rw[if_neg (by omega)]at hE
       rw[hE]at hsc
       refine hk _ ⟨j+1,j+1,o++[F8 d],rfl,by omega,by simp;omega,?_⟩ (hmu (j+1) (by omega))
       by_cases hjl:j<s.length
       ·rw[if_pos hjl]at hsc
        exact .inl ⟨by omega,by rw[Vh];rfl,by rw[Vh];exact hsc⟩
       ·rw[if_neg hjl]at hsc
        exact .inr ⟨by omega,hsc⟩
   by_cases hjl:j<s.length
   ·have hg:s.getD ((j:Int)).toNat 0=s[j]:=getD_lt s j 0 hjl
    rw[decide_eq_true (show(j:Int)<(s.length:Int) by omega),hg]
    simp only[Bool.true_or,AP,Bool.true_and]
    by_cases h46:s[j].toNat=46
    ·rw[show(((s[j].toNat:Nat):Int) != 46)=false by rw[show(46:Int)=((46:Nat):Int)from rfl,AfD,decide_eq_false (by simp [h46])],cond_false]
     have he:s[j]=46:=UInt8.toNat.inj (by rw[h46];rfl)
     refine proc _ hd ?_
     rw[if_pos hjl,<- hsc,List.drop_eq_getElem_cons hjl,he,Abb];rfl
    ·rw[show(((s[j].toNat:Nat):Int) != 46)=true by rw[show(46:Int)=((46:Nat):Int)from rfl,AfD,decide_eq_true (by simp [h46])],cond_true]
     have hne:s[j]≠46:=fun e=>h46 (by rw[e];rfl)
     rw[List.drop_eq_getElem_cons hjl]at hsc
     by_cases hdg:Dz s[j]=true
     ·rw[Aba _ _ _ _ hne hdg]at hsc
      have hc:=hdg
      unfold Dz at hc
      simp only[Bool.and_eq_true,decide_eq_true_eq]at hc
      rw[decide_eq_false (show ¬((s[j].toNat:Nat):Int)<48 by omega),decide_eq_false (show ¬((s[j].toNat:Nat):Int)>57 by omega)]
      simp only[Bool.or_self,cond_false]
      rw[w64 (by omega) (by omega)]
      refine hk _ ⟨a,j+1,o,rfl,by omega,ho,.inl ⟨by omega,?_,?_⟩⟩ (hmu (j+1) (by omega))
      ·rw[Aa4 s ha hjl,List.all_append,hd];simpa using hdg
      ·rw[Aa4 s ha hjl];exact hsc
     ·rw[AaZ _ _ _ _ hne hdg]at hsc
      have:(decide (((s[j].toNat:Nat):Int)<48)||decide (((s[j].toNat:Nat):Int)>57))=true:=by
        unfold Dz at hdg
        simp only[Bool.and_eq_true,decide_eq_true_eq]at hdg
        simp only[Bool.or_eq_true,decide_eq_true_eq]
        omega
      rw[this,cond_true,<- hsc];rfl
   ·rw[decide_eq_false (show ¬(j:Int)<(s.length:Int) by omega)]
    simp only[Bool.false_and,cond_false]
    refine proc _ hd ?_
    rw[if_neg hjl,<- hsc,List.drop_eq_nil_of_le (by omega)];rfl
  ·rw[decide_eq_false (show ¬((s.length+1:Nat):Int)<=(s.length:Int) by omega),cond_false,<- hsc]
   exact Anr o
theorem AhH (c b:UInt8) (hb:b≠c): ∀ s:Bs,b∈s-> ∃ x∈BI c s,b∈x:=by
  intro s
  induction s with
  | nil=>intro h;cases h
  | cons a r ih =>
    intro h
    by_cases ha:a=c
    ·rcases List.mem_cons.1 h with rfl | h
     ·exact absurd ha hb
     ·obtain⟨x,h1,h2⟩:=ih h
      refine⟨x,?_,h2⟩
      show x∈(if a=c then _ else _)
      rw[if_pos ha]
      exact List.mem_cons_of_mem _ h1
    ·rw[Qw _ _ _ ha]
     rcases List.mem_cons.1 h with rfl | h
     ·exact⟨_,List.mem_cons_self,List.mem_cons_self⟩
     ·obtain⟨x,h1,h2⟩:=ih h
      have hn:=Abf c r
      cases hs:BI c r with
      | nil=>exact absurd hs hn
      | cons y t =>
        rw[hs]at h1
        rcases List.mem_cons.1 h1 with rfl | h1
        ·exact⟨_,List.mem_cons_self,List.mem_cons_of_mem _ h2⟩
        ·exact⟨x,List.mem_cons_of_mem _ h1,h2⟩
theorem Aj7 {α β :Type} {f: α ->Option β}: ∀ {l:List α} {a: α},a∈l->f a=none->H7 f l=none:=by
  intro l
  induction l with
  | nil=>intro a h;cases h
  | cons x t ih =>
    intro a h ha
    unfold H7
    rcases List.mem_cons.1 h with rfl | h
    ·rw[ha]
    ·rw[ih h ha]
     split
     ·rename_i h1 h2;cases h2
     ·rfl
theorem Vy {α β :Type} (f: α ->Option β) (a: α) (l:List α):H7 f (a::l)=(f a).bind fun b=>(H7 f l).map fun r=>b::r:=by
  show(match f a,H7 f l with | some b,some bs=>some (b::bs) | _,_=>none)=_
  cases f a<;>cases H7 f l<;>rfl
theorem rY {d:Bs} (h:d.all Dz=true):(46:UInt8)∉d:=by
  intro hm
  have:=List.all_eq_true.1 h _ hm
  revert this;decide
theorem Anz: ∀(s cur:Bs) (out:List Nat),cur.all Dz=true->out.length<=12->KD cur out s=if 12<out.length+(BI 46 (cur++s)).length then none else(H7 JX (BI 46 (cur++s))).map fun r=>out++r:=by
  intro s
  induction s with
  | nil =>
    intro cur out hc ho
    rw[List.append_nil,lW _ _ (rY hc),Vy]
    show Ws cur out=_
    unfold Ws
    by_cases h:out.length=12
    ·rw[if_pos h,if_pos (by simp only[List.length_singleton];omega)]
    ·rw[if_neg h,if_neg (by simp only[List.length_singleton];omega)]
     cases JX cur<;>rfl
  | cons c r ih =>
    intro cur out hc ho
    by_cases h1:c=46
    ·subst h1
     rw[Abb,Abe _ _ _ (rY hc),Vy]
     unfold Ws
     have hl:=(Zk 46 r).2.1
     by_cases h:out.length=12
     ·rw[if_pos h,if_pos (by rw[List.length_cons];omega)];rfl
     ·rw[if_neg h]
      cases hv:JX cur with
      | none=>simp
      | some v =>
        have:=ih [] (out++[v]) rfl (by simp;omega)
        rw[List.nil_append]at this
        show KD [] (out++[v]) r=_
        rw[this]
        simp only[List.length_append,List.length_singleton,List.length_cons,List.length_nil,Option.bind_some,Option.map_map]
        by_cases h3:12<out.length+(0+1)+(BI 46 r).length
        ·rw[if_pos h3,if_pos (by omega)]
        ·rw[if_neg h3,if_neg (by omega)]
         cases H7 JX (BI 46 r)<;>simp
    ·by_cases h2:Dz c=true
     ·rw[Aba _ _ _ _ h1 h2,ih (cur++[c]) out (by simp [hc,h2]) ho,List.append_assoc]
      rfl
     ·rw[AaZ _ _ _ _ h1 h2]
      obtain⟨x,hx1,hx2⟩:=AhH 46 c h1 (cur++c::r) (by simp)
      rw[Aj7 hx1 (by
        unfold JX qW
        rw[if_neg]
        have:x.all Dz=false:=by
          apply Bool.eq_false_iff.2
          intro h
          exact h2 (List.all_eq_true.1 h _ hx2)
        rw[this]
        simp)]
      split<;>rfl
theorem Aii (s:Bs):(KD [] [] s).bind N8=FB s:=by
  rw[Anz s [] [] rfl (by decide)]
  unfold FB
  simp only[List.length_nil,Nat.zero_add,List.nil_append]
  by_cases h:12<(BI 46 s).length
  ·rw[if_pos h,if_pos (Or.inr h)];rfl
  ·rw[if_neg h]
   cases hm:H7 JX (BI 46 s)with
   | none=>split<;>rfl
   | some l =>
     have hl:=pR hm
     show N8 l=_
     unfold N8
     have h3: ∀ q:Option (List Nat),(if(BI 46 s).length<2\/12<(BI 46 s).length then none else q)=if 2<=l.length then q else none:=by
       intro q
       by_cases h2:2<=l.length
       ·rw[if_neg (by omega),if_pos h2]
       ·rw[if_pos (Or.inl (by omega)),if_neg h2]
     rw[h3]
     dsimp only
     by_cases h2:2<=l.length<;>by_cases hr:MS l=true<;>simp [h2,hr]
theorem Aao (N:Nat) (s:Bs) (hN:16<N) (hs:s.length<=1048576) (hl:s.length+1<N):SA N s=some (qI (FB s)):=by
  rw[AbM N s hN hs hl,Aii]
def hi (m:Nat):List Nat:=if m=0 then []else hi (m / 128)++[m % 128+128]
termination_by m
decreasing_by omega
theorem Ade:hi 0=[]:=by rw[hi];rfl
theorem Alg {m:Nat} (h:m≠0):hi m=hi (m / 128)++[m % 128+128]:=by rw[hi,if_neg h]
def Uz (n:Nat):List Nat:=hi (n / 128)++[n % 128]
def cnt (m:Nat):Nat:=(hi m).length
theorem rX:cnt 0=0:=by unfold cnt;rw[Ade];rfl
theorem Ago {m:Nat} (h:m≠0):cnt m=cnt (m / 128)+1:=by unfold cnt;rw[Alg h];simp
theorem cnt_le: ∀(k m:Nat),m<128 ^ k->cnt m<=k:=by
  intro k
  induction k with
  | zero=>intro m h;have:m=0:=by rw[Nat.pow_zero]at h;omega
          rw[this,rX];omega
  | succ k ih =>
    intro m h
    by_cases h0:m=0
    ·rw[h0,rX];omega
    ·rw[Ago h0]
     have:=ih (m / 128) (by rw[Nat.pow_succ]at h;omega)
     omega
def WQ (m:Nat):Nat->List Nat
  | 0=>[]
  | t+1=>(m / 128 ^ t % 128+128)::WQ m t
theorem div_pow (m t:Nat):m / 128 ^ (t+1)=m / 128 / 128 ^ t:=by
  rw[Nat.pow_succ,Nat.div_div_eq_div_mul,Nat.mul_comm]
theorem Akq: ∀(t m:Nat),WQ m (t+1)=WQ (m / 128) t++[m % 128+128]:=by
  intro t
  induction t with
  | zero=>intro m;show [m / 128 ^ 0 % 128+128]=_;rw[Nat.pow_zero,Nat.div_one];rfl
  | succ t ih =>
    intro m
    show(m / 128 ^ (t+1) % 128+128)::WQ m (t+1)=_
    rw[ih,div_pow]
    rfl
theorem An7: ∀(k m:Nat),m<128 ^ k->WQ m (cnt m)=hi m:=by
  intro k
  induction k with
  | zero=>intro m h;have:m=0:=by rw[Nat.pow_zero]at h;omega
          rw[this,rX,Ade];rfl
  | succ k ih =>
    intro m h
    by_cases h0:m=0
    ·rw[h0,rX,Ade];rfl
    ·rw[Ago h0,Akq,ih _ (by rw[Nat.pow_succ]at h;omega),<- Alg h0]
theorem sh7 (n t:Nat) (ht:t<=9):(n:Int).fdiv (2 ^ min (IntKind.u64.wrap (7*IntKind.u64.wrap (t:Int))).toNat 64)=((n / 128 ^ t:Nat):Int):=by
  rw[wu64 (x:=(t:Int)) (by omega) (by omega),wu64 (by omega) (by omega),show min ((7:Int)*(t:Int)).toNat 64=7*t by omega]
  have h:(2:Nat) ^ (7*t)=128 ^ t:=by rw[Nat.pow_mul]
  have e:(2:Int) ^ (7*t)=((128 ^ t:Nat):Int):=by rw[<- h];push_cast;rfl
  rw[e]
  exact(Int.ofNat_fdiv _ _).symm
theorem Ac3 (n:Nat) (h:n<9223372036854775808):Bi .and .i64 (n:Int) 127=((n % 128:Nat):Int):=by
  show i64.wrap (((BitVec.ofInt 64 (n:Int)) &&& (BitVec.ofInt 64 ((127:Nat):Int))).toNat:Int)=_
  rw[show(BitVec.ofInt 64 (n:Int))=BitVec.ofNat 64 n by simp,show(BitVec.ofInt 64 ((127:Nat):Int))=BitVec.ofNat 64 127 by simp]
  rw[BitVec.toNat_and,BitVec.toNat_ofNat,BitVec.toNat_ofNat,Nat.mod_eq_of_lt (by omega),Nat.mod_eq_of_lt (by omega)]
  rw[show(127:Nat)=2 ^ 7 - 1 by decide,Nat.and_two_pow_sub_one_eq_mod]
  exact w64 (by omega) (by omega)
theorem Apw (a:Nat) (h:a<128):Bi .or .i64 (a:Int) 128=((a+128:Nat):Int):=by
  have: ∀ a:Fin 128,Bi .or .i64 ((a.val:Nat):Int) 128=((a.val+128:Nat):Int):=by decide +kernel
  exact this ⟨a,h⟩
theorem AnE {ρ :Type} (N n:Nat) (l:List Int) (hn:n<34359738368) (hN:16<N) (fin:Int×List Int->Option ρ) :
    Ap (X:=Int×List Int) (Y:=Int×List Int) (U2 fun t5a l0a k1 x2 =>
     Vm.chk (decide (0<=IntKind.u64.wrap (7*IntKind.u64.wrap t5a)))
       (bif decide ((n:Int).fdiv (2 ^ min (IntKind.u64.wrap (7*IntKind.u64.wrap t5a)).toNat 64)>0)then
         k1 (i64.wrap (t5a+1),l0a)
       else x2 (t5a,l0a))) N (1,l) fin=fin (((1+cnt (n / 128):Nat):Int),l):=by
  refine Eq.trans (IB (I:=fun x:Int×List Int=> ∃ t:Nat,x=((t:Int),l)/\1<=t/\t<=5) (μ :=fun x=>5 - x.1.toNat) (F:=fun x=>fin (((x.1.toNat+cnt (n / 128 ^ x.1.toNat):Nat):Int),l)) ?_ N (1,l) ⟨1,rfl,by omega,by omega⟩ (by show 5 - 1<N;omega)) rfl
  rintro x ⟨t,rfl,h1,h2⟩ k hk
  dsimp only[U2]
  rw[sh7 n t (by omega),decide_eq_true (show(0:Int)<=IntKind.u64.wrap (7*IntKind.u64.wrap (t:Int)) by rw[wu64 (x:=(t:Int)) (by omega) (by omega),wu64 (by omega) (by omega)];omega),AP]
  have ht:((t:Int)).toNat=t:=by omega
  rw[ht]
  generalize hm:n / 128 ^ t=m
  by_cases h0:m=0
  ·rw[h0,decide_eq_false (by omega),cond_false,rX];rfl
  ·rw[decide_eq_true (by omega),cond_true,w64 (by omega) (by omega)]
   have h5:t<5:=by
     refine Nat.lt_of_le_of_ne h2 fun e=>h0 ?_
     rw[<- hm,e]
     exact Nat.div_eq_of_lt hn
   have e1:((t:Int)+1).toNat=t+1:=by omega
   rw[hk _ ⟨t+1,by push_cast;rfl,by omega,by omega⟩ (by show 5 - ((t:Int)+1).toNat<5 - (t:Int).toNat;omega)]
   show fin (((((t:Int)+1).toNat+cnt (n / 128 ^ ((t:Int)+1).toNat):Nat):Int),l)=_
   rw[e1,Nat.pow_succ,<- Nat.div_div_eq_div_mul,hm,Ago h0]
   congr 2
   omega
theorem Ai7 {ρ :Type} (N n:Nat) (hn:n<34359738368) (hN:16<N) (fin:List Int->Option ρ) (t:Nat) (l:List Int) (ht:t<=5) (hl:l.length<=2000000) :
    Ap (X:=Int×List Int) (Y:=List Int) (U2 fun t6c l1008192c k3 x4 =>
         bif decide (t6c>0)then
           Vm.chk (decide (0<=IntKind.u64.wrap (7*IntKind.u64.wrap t6c)))
             (Vm.chk (decide ((l1008192c.length+1)*2<=140737488355328))
               (k3
                 (i64.wrap (t6c - 1),
                   l1008192c ++
                     [IntKind.u8.wrap
                         (Bi BinOp.or i64
                           (Bi BinOp.and i64
                             ((n:Int).fdiv (2 ^ min (IntKind.u64.wrap (7*IntKind.u64.wrap t6c)).toNat 64)) 127)
                           128)])))
         else x4 l1008192c) N ((t:Int),l) fin=fin (l++ints (WQ (n / 128) t)):=by
  refine Eq.trans (IB (I:=fun x:Int×List Int=> ∃(t:Nat) (l:List Int),x=((t:Int),l)/\t<=5/\l.length+t<=2000005) (μ :=fun x=>x.1.toNat) (F:=fun x=>fin (x.2++ints (WQ (n / 128) x.1.toNat))) ?_ N ((t:Int),l) ⟨t,l,rfl,ht,by omega⟩ (by show(t:Int).toNat<N;omega)) rfl
  rintro x ⟨t,l,rfl,h2,h3⟩ k hk
  have ht:((t:Int)).toNat=t:=by omega
  cases t with
  | zero =>
    dsimp only[U2]
    rw[decide_eq_false (by omega),cond_false]
    show _=fin (l++[])
    rw[List.append_nil]
  | succ t =>
    dsimp only[U2]
    rw[sh7 n (t+1) (by omega),decide_eq_true (show(0:Int)<=IntKind.u64.wrap (7*IntKind.u64.wrap ((t+1:Nat):Int)) by rw[wu64 (x:=((t+1:Nat):Int)) (by omega) (by omega),wu64 (by omega) (by omega)];omega),AP,decide_eq_true (show((t+1:Nat):Int)>0 by omega),cond_true,decide_eq_true (by omega),AP]
    have hd:n / 128 ^ (t+1)<=n:=Nat.div_le_self _ _
    rw[Ac3 _ (by omega),Apw _ (by omega),w8,w64 (by omega) (by omega),ht]
    have e1:(((t+1:Nat):Int) - 1).toNat=t:=by omega
    rw[hk _ ⟨t,_,by congr 1;omega,by omega,by rw[List.length_append,List.length_singleton];omega⟩ (by show(((t+1:Nat):Int) - 1).toNat<((t+1:Nat):Int).toNat;omega)]
    show fin ((l++_)++ints (WQ (n / 128) (((t+1:Nat):Int) - 1).toNat))=fin (l++ints ((n / 128 / 128 ^ t % 128+128)::WQ (n / 128) t))
    rw[e1,div_pow,List.append_assoc]
    congr 2
    show _=((n / 128 / 128 ^ t % 128+128:Nat):Int)::ints (WQ (n / 128) t)
    rw[show(((n / 128 / 128 ^ t % 128+128:Nat):Int)) % 256=((n / 128 / 128 ^ t % 128+128:Nat):Int) by omega]
    rfl
theorem vI (N:Nat) (l:List Int) (n:Nat) (hn:n<34359738368) (hN:16<N) (hl:l.length<=1000000):XT N l (n:Int)=some (l++ints (Uz n)):=by
  unfold XT
  have hc:cnt (n / 128)<=4:=cnt_le 4 _ (by omega)
  have h1:=An7 4 (n / 128) (by omega)
  rw[AnE N n l hn hN]
  dsimp only[U2]
  rw[w64 (by omega) (by omega),show((1+cnt (n / 128):Nat):Int) - 1=((cnt (n / 128):Nat):Int) by omega,Ai7 N n hn hN _ _ _ (by omega) (by omega),h1]
  have hlen:(l++ints (hi (n / 128))).length<=1000004:=by
    rw[List.length_append,DW]
    show l.length+cnt (n / 128)<=_
    omega
  rw[decide_eq_true (by omega),AP,Ac3 _ (by omega),w8,show(((n % 128:Nat):Int)) % 256=((n % 128:Nat):Int) by omega,List.append_assoc]
  unfold Uz ints
  rw[List.map_append]
  rfl
theorem Apr: ∀(k m:Nat),m<128 ^ k-> ∀ x∈hi m,x<256:=by
  intro k
  induction k with
  | zero =>
    intro m h x hx
    rw[Nat.pow_zero]at h
    rw[show m=0 by omega,Ade]at hx
    cases hx
  | succ k ih =>
    intro m h x hx
    by_cases h0:m=0
    ·rw[h0,Ade]at hx;cases hx
    ·rw[Alg h0,List.mem_append,List.mem_singleton]at hx
     rcases hx with hx | rfl
     ·exact ih _ (by rw[Nat.pow_succ]at h;omega) x hx
     ·omega
theorem AfJ (n:Nat) (h:n<34359738368): ∀ x∈Uz n,x<256:=by
  intro x hx
  unfold Uz at hx
  rw[List.mem_append,List.mem_singleton]at hx
  rcases hx with hx | rfl
  ·exact Apr 5 _ (by omega) x hx
  ·omega
theorem Zh (n:Nat) (h:n<34359738368):(Uz n).length<=5:=by
  unfold Uz
  rw[List.length_append]
  have:=cnt_le 4 (n / 128) (by omega)
  unfold cnt at this
  simp only[List.length_singleton];omega
def dK (l:List Nat):List Nat:=Uz (40*l.getD 0 0+l.getD 1 0)++(l.drop 2).flatMap Uz
def encR:Option (List Nat)->Bs×Int
  | none=>([],11)
  | some l=>((dK l).map UInt8.ofNat,0)
theorem Yk {s:Bs} {l:List Nat} (h:FB s=some l):2<=l.length/\l.length<=12/\(∀ x∈l,x<=2147483647)/\MS l=true:=by
  unfold FB at h
  split at h
  ·cases h
  ·cases hm:H7 JX (BI 46 s)with
   | none=>rw[hm]at h;cases h
   | some r =>
     rw[hm]at h
     dsimp only at h
     split at h
     ·rename_i hr
      injection h with h;subst h
      have hl:=pR hm
      refine⟨by omega,by omega,fun x hx=> ?_,hr⟩
      obtain⟨a,_,ha⟩:=Al4 hm x hx
      exact AmC ha
     ·cases h
theorem oG {l:List Nat} (h1:2<=l.length) (h2: ∀ x∈l,x<=2147483647) (h3:MS l=true):40*l.getD 0 0+l.getD 1 0<34359738368/\l.getD 0 0<=2/\l.getD 1 0<=2147483647:=by
  have:=h2 (l.getD 1 0) (by rw[getD_lt l 1 0 (by omega)];exact List.getElem_mem _)
  unfold MS at h3
  simp only[Bool.or_eq_true,Bool.and_eq_true,decide_eq_true_eq]at h3
  omega
theorem Ajm {l:List Nat} (h: ∀ x∈l,x<256):(ints l).all Vm.isByte=true/\(ints l).map Vm.byteOf=l.map UInt8.ofNat:=by
  constructor
  ·rw[List.all_eq_true]
   intro x hx
   obtain⟨n,hn,rfl⟩:=List.mem_map.1 hx
   have:=h n hn
   unfold Vm.isByte
   simp only[Bool.and_eq_true,decide_eq_true_eq]
   omega
  ·unfold ints
   rw[List.map_map]
   rfl
theorem AmR {l:List Nat} (h1:2<=l.length) (h2: ∀ x∈l,x<=2147483647) (h3:MS l=true): ∀ x∈dK l,x<256:=by
  intro x hx
  unfold dK at hx
  rw[List.mem_append]at hx
  rcases hx with hx | hx
  ·exact AfJ _ (oG h1 h2 h3).1 x hx
  ·obtain⟨n,hn,hx⟩:=List.mem_flatMap.1 hx
   have:=h2 n (List.mem_of_mem_drop hn)
   exact AfJ n (by omega) x hx
theorem Vr (l:List Nat) (i:Nat):(ints l).getD i 0=((l.getD i 0:Nat):Int):=by
  unfold ints
  by_cases h:i<l.length
  ·rw[getD_lt _ _ _ (by rw[List.length_map];exact h),getD_lt _ _ _ h,List.getElem_map]
  ·rw[List.getD_eq_getElem?_getD,List.getD_eq_getElem?_getD,List.getElem?_eq_none (by rw[List.length_map];omega),List.getElem?_eq_none (by omega)];rfl
theorem Alo (l:List Nat):AA (ints l) 2 (ints l).length=ints (l.drop 2):=by
  unfold AA ints
  rw[List.take_length,List.map_drop]
theorem oU (a b:List Nat):ints (a++b)=ints a++ints b:=by unfold ints;rw[List.map_append]
theorem AiV (f:Nat->List Nat): ∀(l:List Nat) (a:List Int),l.foldl (fun a n=>a++ints (f n)) a=a++ints (l.flatMap f):=by
  intro l
  induction l with
  | nil=>intro a;show a=a++[];rw[List.append_nil]
  | cons x r ih =>
    intro a
    rw[List.foldl_cons,ih,List.flatMap_cons,oU,List.append_assoc]
theorem Ald (f:Nat->List Nat) (k:Nat): ∀(l:List Nat),(∀ x∈l,(f x).length<=k)->(l.flatMap f).length<=k*l.length:=by
  intro l
  induction l with
  | nil=>intro _;exact Nat.zero_le _
  | cons x r ih =>
    intro h
    rw[List.flatMap_cons,List.length_append,List.length_cons,Nat.mul_succ]
    have:=ih (fun y hy=>h y (List.mem_cons_of_mem _ hy))
    have:=h x List.mem_cons_self
    omega
theorem AlV {X E S ρ :Type} {g:S->E->S} {e:E} {s:S} {b:(X->Option ρ)->Option ρ} {nx:S->X} {I:S->Prop} (h:(∀ k,b k=k (nx (g s e)))/\I (g s e)):gX b nx I (SH some g (none:Option ρ) e s):=h
theorem Aj8 {α :Type}: ∀ l:List α,H7 some l=some l:=by
  intro l
  induction l with
  | nil=>rfl
  | cons a r ih=>rw[Vy,ih];rfl
theorem Zz (N:Nat) (s:Bs) (hN:16<N) (hs:s.length<=1048576):OI N s=some (encR (FB s)):=by
  unfold OI
  rw[lQ N s hN hs,Ae]
  cases ha:FB s with
  | none=>rfl
  | some l =>
    obtain⟨h1,h2,h3,h4⟩:=Yk ha
    have hf:=oG h1 h3 h4
    show(bif (ints l).isEmpty then _ else _)=_
    rw[show Aou (some l)=ints l from rfl,show(ints l).isEmpty=false by rw[List.isEmpty_eq_false_iff_exists_mem];exact⟨_,List.mem_map.2 ⟨l.getD 0 0,by rw[getD_lt l 0 0 (by omega)];exact List.getElem_mem _,rfl⟩⟩,cond_false,DW,decide_eq_true (by omega),AP,decide_eq_true (by omega),AP,Vr,Vr]
    rw[w64 (x:=40*((l.getD 0 0:Nat):Int)) (by omega) (by omega),w64 (by omega) (by omega),show(40:Int)*((l.getD 0 0:Nat):Int)+((l.getD 1 0:Nat):Int)=((40*l.getD 0 0+l.getD 1 0:Nat):Int) by omega]
    dsimp only
    rw[vI N [] _ hf.1 hN (Nat.zero_le _),Ae]
    rw[decide_eq_true (by omega),AP,<- DW l,Alo]
    generalize hd:l.drop 2=d
    have hdl:d.length<=10:=by rw[<- hd,List.length_drop];omega
    have hdm: ∀ x∈d,x<=2147483647:=fun x hx=>h3 x (List.mem_of_mem_drop (hd▸hx))
    refine Eq.trans (J4 (S:=List Int) (mk:=fun i a=>(i,a)) (out:=fun a=>a) d 0 (fun i a=>a.length<=5*(i+1)) (SH some (fun a n=>a++ints (Uz n)) none) ?_ ?_ N _ (by rw[List.nil_append,DW];have:=Zh _ hf.1;omega) (by omega)) ?_
    ·intro i a hi ha
     rw[getD_lt d i 0 hi]
     have hn:=hdm d[i] (List.getElem_mem hi)
     refine AlV ⟨fun k=> ?_,?_⟩
     ·dsimp only[U2]
      rw[DW,decide_eq_true (by omega),cond_true,decide_eq_true (by omega),AP,AP,show((i:Int)).toNat=i by omega,Vr,getD_lt d i 0 hi,vI N a _ (by omega) hN (by omega),Ae,w64 (by omega) (by omega)]
     ·have:=Zh d[i] (by omega)
      rw[List.length_append,DW];omega
    ·intro a k ha
     dsimp only[U2]
     rw[DW,decide_eq_false (by omega),cond_false]
    ·rw[AdZ,Aj8]
     dsimp only[Option.elim]
     rw[AiV,List.nil_append,<- oU]
     have hb:=Ajm (AmR h1 h3 h4)
     unfold dK at hb
     rw[hd]at hb
     rw[hb.1,hb.2,AP]
     show _=some ((dK l).map UInt8.ofNat,0)
     unfold dK
     rw[hd]
theorem xG (N:Nat) (s:Bs) (hN:16<N) (hs:s.length<=1048576) (hl:s.length+1<N):BF N s=some (FB s).isSome/\XZ N s=some (FB s).isSome:=by
  unfold BF XZ
  rw[lQ N s hN hs,Aao N s hN hs hl,Ae,Ae]
  cases ha:FB s with
  | none=>exact⟨rfl,rfl⟩
  | some l =>
    obtain⟨h1,h2,h3,h4⟩:=Yk ha
    refine⟨?_,rfl⟩
    show some (!(ints l).isEmpty)=_
    rw[show(ints l).isEmpty=false by rw[List.isEmpty_eq_false_iff_exists_mem];exact⟨_,List.mem_map.2 ⟨l.getD 0 0,by rw[getD_lt l 0 0 (by omega)];exact List.getElem_mem _,rfl⟩⟩]
    rfl
abbrev dd (n:Nat):Bs:=Lib.decDigits n
theorem AcH {n:Nat} (h:n<10):dd n=[UInt8.ofNat (48+n)]:=Lib.decDigits_one h
theorem Afw {n:Nat} (h: ¬ n<10):dd n=dd (n / 10)++[UInt8.ofNat (48+n % 10)]:=by
  show Lib.decDigits n=_
  rw[Lib.decDigits,dif_neg h]
theorem Apf (n:Nat):dd n≠ []:=by
  by_cases h:n<10
  ·rw[AcH h];simp
  ·rw[Afw h];simp
theorem AnX (k n:Nat) (h:n<10 ^ (k+1)):1<=(dd n).length/\(dd n).length<=k+1:=by
  constructor
  ·exact List.length_pos_iff.2 (Apf n)
  ·induction k generalizing n with
   | zero=>rw[AcH (by simpa using h)];exact Nat.le_refl _
   | succ k ih =>
     by_cases h1:n<10
     ·rw[AcH h1];simp
     ·rw[Afw h1,List.length_append,List.length_singleton]
      have:=ih (n / 10) (by rw[Nat.pow_succ]at h;omega)
      omega
theorem Am8 (N n:Nat) (h:n<10000000000):strconv_Itoa N (n:Int)=some (dd n):=by
  unfold strconv_Itoa
  rw[decide_eq_true (by omega),decide_eq_true (by omega)]
  show some (Lib.itoa (n:Int))=_
  unfold Lib.itoa
  rw[if_neg (by omega)]
  rfl
def Fp (lim:Nat):Bs->Nat->Bool->List Nat->Option (List Nat)
  | [],_,mid,acc=>if mid=true then none else some acc
  | b::r,cur,mid,acc =>
    if mid=false/\b.toNat=128 then none
    else if lim<cur*128+b.toNat % 128 then none
    else if 128<=b.toNat then Fp lim r (cur*128+b.toNat % 128) true acc
    else Fp lim r 0 false (acc++[cur*128+b.toNat % 128])
theorem Ir (lim:Nat) (b:UInt8) (r:Bs) (cur:Nat) (mid:Bool) (acc:List Nat):Fp lim (b::r) cur mid acc=if mid=false/\b.toNat=128 then none
    else if lim<cur*128+b.toNat % 128 then none
    else if 128<=b.toNat then Fp lim r (cur*128+b.toNat % 128) true acc
    else Fp lim r 0 false (acc++[cur*128+b.toNat % 128]):=rfl
theorem or7 (t b:Nat) (ht:t<36028797018963968) (hb:b<128):Bi .or .i64 (((t*128:Nat)):Int) (b:Int)=((t*128+b:Nat):Int):=by
  have e: ∀ n:Nat,n<2 ^ 64->(BitVec.ofInt 64 (n:Int))=BitVec.ofNat 64 n:=fun n _=>by simp
  show i64.wrap _=_
  rw[show(BitVec.ofInt (i64).bits ((t*128:Nat):Int))=BitVec.ofNat 64 (t*128)from e _ (by omega),show(BitVec.ofInt (i64).bits ((b:Nat):Int))=BitVec.ofNat 64 b from e _ (by omega)]
  show i64.wrap (((BitVec.ofNat 64 (t*128)) ||| (BitVec.ofNat 64 b)).toNat:Int)=_
  rw[BitVec.toNat_or,BitVec.toNat_ofNat,BitVec.toNat_ofNat,Nat.mod_eq_of_lt (by omega),Nat.mod_eq_of_lt (by omega)]
  rw[show t*128=t <<< 7 by rw[Nat.shiftLeft_eq],<- Nat.shiftLeft_add_eq_or_of_lt (by omega:b<2 ^ 7),Nat.shiftLeft_eq]
  exact w64 (by omega) (by omega)
def numO:Option (List Nat)->Option (List Int)
  | none=>some []
  | some l=>some (ints l)
theorem AlC (v:Nat) (hv:v<=4294967294) (b:UInt8):Bi BinOp.or i64 (i64.wrap ((v:Int)*128)) (Bi BinOp.and i64 (i64.wrap (b.toNat:Int)) 127)=((v*128+b.toNat % 128:Nat):Int):=by
  have:=Zu b
  rw[w64 (x:=(b.toNat:Int)) (by omega) (by omega),Ac3 _ (by omega),w64 (by omega) (by omega),show(v:Int)*128=((v*128:Nat):Int) by omega,or7 _ _ (by omega) (by omega)]
theorem AlB {ρ :Type} (N:Nat) (s:Bs) (hN:s.length+1<N) (hs:s.length<=1048576) (G:Option (List Nat)->Option ρ) (kx:Int×List Int->Option ρ) (bad:Option ρ) (hbad:G none=bad)
    (i:Nat) (acc:List Nat) (hi:i<=s.length) (ha:acc.length<=i)
    (hk: ∀(j:Nat) (a:List Nat),i<j->j<=s.length->a.length<=j->kx ((j:Int),ints a)=G (Fp 4294967294 (s.drop j) 0 false a)) :
    Ap (X:=Int×Int×List Int) (Y:=(Int×List Int) ⊕ Unit) (U3 fun t4b t5b l1004096b k3 x4 =>
              bif decide (t4b< ↑(List.length s))then
                Vm.chk (decide (0<=t4b))
                  (Vm.chk (decide (t4b< ↑(List.length s)))
                    (bif
                        decide
                          (Bi BinOp.or i64 (i64.wrap (t5b*128))
                            (Bi BinOp.and i64 (i64.wrap ↑(List.getD s t4b.toNat 0).toNat)
                              127) >
                            4294967294)then
                      bad
                    else
                      bif decide (i64.wrap ↑(List.getD s t4b.toNat 0).toNat<128)then
                        Vm.chk (decide ((l1004096b.length+1)*9<=140737488355328))
                          (x4
                            (Sum.inl
                              (i64.wrap (t4b+1),
                                l1004096b ++
                                  [Bi BinOp.or i64 (i64.wrap (t5b*128))
                                    (Bi BinOp.and i64
                                      (i64.wrap ↑(List.getD s t4b.toNat 0).toNat) 127)])))
                      else
                        k3
                          (i64.wrap (t4b+1),
                            Bi BinOp.or i64 (i64.wrap (t5b*128))
                             (Bi BinOp.and i64 (i64.wrap ↑(List.getD s t4b.toNat 0).toNat)
                               127),
                            l1004096b)))
              else x4 (Sum.inr ())) N ((i:Int),0,ints acc) (Sum.elim (U2 fun t4c l42240c=>kx (t4c,l42240c)) fun x=>bad)=G (Fp 4294967294 (s.drop i) 0 true acc):=by
  refine Eq.trans (IB (I:=fun x:Int×Int×List Int=> ∃(j v:Nat),x=((j:Int),(v:Int),ints acc)/\i<=j/\j<=s.length/\v<=4294967294) (μ :=fun x=>s.length - x.1.toNat) (F:=fun x=>G (Fp 4294967294 (s.drop x.1.toNat) x.2.1.toNat true acc)) ?_ N _ ⟨i,0,rfl,Nat.le_refl _,hi,by omega⟩ (by show s.length - ((i:Int)).toNat<N;omega)) ?_
  ·rintro x ⟨j,v,rfl,h1,h2,h3⟩ k hk2
   dsimp only[U3]
   rw[show((j:Int)).toNat=j by omega,show((v:Int)).toNat=v by omega]
   by_cases hl:j<s.length
   ·have hg:s.getD j 0=s[j]:=getD_lt s j 0 hl
    have hb:=Zu s[j]
    rw[hg,AlC v h3,List.drop_eq_getElem_cons hl,Ir,if_neg (fun h=>by cases h.1),decide_eq_true (by omega),cond_true,decide_eq_true (by omega),AP,AP]
    by_cases hv:4294967294<v*128+s[j].toNat % 128
    ·rw[if_pos hv,decide_eq_true (by omega),cond_true,hbad]
    ·rw[if_neg hv,decide_eq_false (by omega),cond_false,w64 (x:=(s[j].toNat:Int)) (by omega) (by omega),w64 (by omega) (by omega)]
     by_cases hc:128<=s[j].toNat
     ·rw[if_pos hc,decide_eq_false (by omega),cond_false,show((j:Int)+1)=((j+1:Nat):Int)from rfl,hk2 _ ⟨j+1,_,rfl,by omega,by omega,by omega⟩ (by show s.length - ((j+1:Nat):Int).toNat<s.length - ((j:Int)).toNat;omega)]
      show G (Fp _ (s.drop ((j+1:Nat):Int).toNat) ((v*128+s[j].toNat % 128:Nat):Int).toNat true acc)=_
      rw[show((j+1:Nat):Int).toNat=j+1 by omega,show((v*128+s[j].toNat % 128:Nat):Int).toNat=v*128+s[j].toNat % 128 by omega]
     ·rw[if_neg hc,decide_eq_true (by omega),cond_true,DW,decide_eq_true (by omega),AP]
      show kx ((j:Int)+1,ints acc++ints [v*128+s[j].toNat % 128])=_
      rw[<- oU]
      exact hk (j+1) _ (by omega) (by omega) (by rw[List.length_append,List.length_singleton];omega)
   ·rw[decide_eq_false (by omega),cond_false,show j=s.length by omega,List.drop_length]
    show bad=G none
    exact hbad.symm
  ·show G (Fp _ (s.drop ((i:Int)).toNat) (0:Int).toNat true acc)=_
   rw[show((i:Int)).toNat=i by omega]
   rfl
theorem Aab (N:Nat) (s:Bs) (hs:s.length<=1048576) (hN:s.length+1<N):Qr N s=numO (Fp 4294967294 s 0 false []):=by
  unfold Qr
  refine Eq.trans (IB (I:=fun x:Int×List Int=> ∃(j:Nat) (a:List Nat),x=((j:Int),ints a)/\j<=s.length/\a.length<=j) (μ :=fun x=>s.length - x.1.toNat) (F:=fun x=>numO (Fp 4294967294 (s.drop x.1.toNat) 0 false (x.2.map Int.toNat))) ?_ N _ ⟨0,[],rfl,Nat.zero_le _,Nat.zero_le _⟩ (by show s.length - 0<N;omega)) rfl
  rintro x ⟨j,a,rfl,h1,h2⟩ k hk
  dsimp only[U2]
  have hmap: ∀ a:List Nat,(ints a).map Int.toNat=a:=by
    intro a
    unfold ints
    rw[List.map_map]
    exact(List.map_congr_left fun x _=>by rfl).trans (List.map_id _)
  rw[show((j:Int)).toNat=j by omega,hmap]
  by_cases hl:j<s.length
  ·have hg:s.getD j 0=s[j]:=getD_lt s j 0 hl
   have hb:=Zu s[j]
   rw[hg,decide_eq_true (by omega),cond_true,decide_eq_true (by omega),AP,AP]
   by_cases h8:s[j].toNat=128
   ·rw[List.drop_eq_getElem_cons hl,Ir,if_pos ⟨rfl,h8⟩,h8]
    rfl
   ·have hbe:(((s[j].toNat:Nat):Int)==128)=false:=by
      apply Bool.eq_false_iff.2
      intro h
      have:=eq_of_beq h
      omega
    rw[hbe,cond_false]
    have he:Fp 4294967294 (s.drop j) 0 false a=Fp 4294967294 (s.drop j) 0 true a:=by
      rw[List.drop_eq_getElem_cons hl,Ir,Ir]
      simp only[h8,and_false,if_false]
    rw[he]
    refine AlB N s hN hs numO k (some []) rfl j a h1 h2 ?_
    intro i a' hi1 hi2 ha'
    rw[hk _ ⟨i,a',rfl,hi2,ha'⟩ (by show s.length - ((i:Int)).toNat<s.length - ((j:Int)).toNat;omega)]
    show numO (Fp _ (s.drop ((i:Int)).toNat) 0 false ((ints a').map Int.toNat))=_
    rw[hmap,show((i:Int)).toNat=i by omega]
  ·rw[decide_eq_false (by omega),cond_false,show j=s.length by omega,List.drop_length]
   rfl
