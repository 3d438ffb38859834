import Derived.Test.YtadefjgbcapakaaGreatDoorA18
import Derived.Lib.SplitLaws
set_option linter.all false
namespace Go.Proofs.YtadefjgbcapakaaGreatDoor.Vm
open IntKind (i64)
open Go
def BI (c:UInt8):Bs->List Bs
  | []=>[[]]
  | b::r=>if b=c then []::BI c r else match BI c r with
    | []=>[[b]]
    | h::t=>(b::h)::t
theorem Acb (c:UInt8) (s:Bs):BI c s≠ []:=by
  cases s with
  | nil=>simp [BI]
  | cons b r =>
    unfold BI
    split
    ·simp
    ·split<;>simp
theorem QR (c b:UInt8) (r:Bs) (h:b≠c):BI c (b::r)=(b::(BI c r).headD [])::(BI c r).tail:=by
  have hn:=Acb c r
  show(if b=c then _ else _)=_
  rw[if_neg h]
  cases hs:BI c r with
  | nil=>exact absurd hs hn
  | cons x t=>rfl
theorem Aca (c:UInt8): ∀(a r:Bs),c∉a->BI c (a++c::r)=a::BI c r:=by
  intro a
  induction a with
  | nil =>
    intro r _
    show(if c=c then _ else _)=_
    rw[if_pos rfl]
  | cons b a ih =>
    intro r h
    have hb:b≠c:=fun e=>h (by rw[e];exact List.mem_cons_self)
    have:=ih r (fun hm=>h (List.mem_cons_of_mem _ hm))
    show BI c (b::(a++c::r))=_
    rw[QR _ _ _ hb,this]
    rfl
theorem oP (c:UInt8): ∀ a:Bs,c∉a->BI c a=[a]:=by
  intro a
  induction a with
  | nil=>intro _;rfl
  | cons b a ih =>
    intro h
    have hb:b≠c:=fun e=>h (by rw[e];exact List.mem_cons_self)
    rw[QR _ _ _ hb,ih (fun hm=>h (List.mem_cons_of_mem _ hm))]
    rfl
theorem index_none (c:UInt8): ∀ s:Bs,c∉s->Lib.index s [c]= -1:=by
  intro s
  induction s with
  | nil=>intro _;rfl
  | cons b r ih =>
    intro h
    have hb: ¬ c=b:=fun e=>h (by rw[e];exact List.mem_cons_self)
    have h2:=ih (fun hm=>h (List.mem_cons_of_mem _ hm))
    show(if List.isPrefixOf [c] (b::r)=true then(0:Int)else if Lib.index r [c]== -1 then -1 else Lib.index r [c]+1)= -1
    rw[h2,if_neg (by simp [List.isPrefixOf,hb])]
    rfl
theorem rU (c:UInt8): ∀(a r:Bs),c∉a->Lib.index (a++c::r) [c]=(a.length:Int):=by
  intro a
  induction a with
  | nil =>
    intro r _
    show(if List.isPrefixOf [c] (c::r)=true then(0:Int)else _)=_
    rw[if_pos (by simp [List.isPrefixOf])]
    rfl
  | cons b a ih =>
    intro r h
    have hb: ¬ c=b:=fun e=>h (by rw[e];exact List.mem_cons_self)
    have h2:=ih r (fun hm=>h (List.mem_cons_of_mem _ hm))
    show(if List.isPrefixOf [c] (b::(a++c::r))=true then(0:Int)else if Lib.index (a++c::r) [c]== -1 then -1 else Lib.index (a++c::r) [c]+1)=_
    rw[h2,if_neg (by simp [List.isPrefixOf,hb]),if_neg (by simp)]
    simp
theorem gB (c:UInt8) (s:Bs):c∉s\/ ∃ a r,s=a++c::r/\c∉a:=by
  induction s with
  | nil=>left;simp
  | cons b t ih =>
    by_cases hb:b=c
    ·right;exact⟨[],t,by rw[hb];rfl,by simp⟩
    ·rcases ih with h | ⟨a,r,h1,h2⟩
     ·left
      intro hm
      rcases List.mem_cons.1 hm with h3 | h3
      ·exact hb h3.symm
      ·exact h h3
     ·right
      refine⟨b::a,r,by rw[h1];rfl,fun hm=> ?_⟩
      rcases List.mem_cons.1 hm with h3 | h3
      ·exact hb h3.symm
      ·exact h2 h3
theorem Alh (c:UInt8): ∀(n:Nat) (s:Bs),s.length<=n->Lib.splitK [c] 0 (Lib.count s [c]) s=BI c s:=by
  intro n
  induction n with
  | zero =>
    intro s h
    have:s=[]:=List.eq_nil_of_length_eq_zero (by omega)
    subst this
    rfl
  | succ n ih =>
    intro s h
    rcases gB c s with hn | ⟨a,r,rfl,ha⟩
    ·rw[Lib.count_miss (index_none c s hn),oP c s hn];rfl
    ·have hi:=rU c a r ha
     rw[Lib.count_hit (by simp) hi,Nat.add_comm]
     show(if Lib.index (a++c::r) [c]== -1 then _ else _)=_
     rw[hi,if_neg (by simp),Aca c a r ha]
     have e1:(a++c::r).take ((a.length:Int).toNat+0)=a:=by simp
     have e2:(a++c::r).drop ((a.length:Int).toNat+ [c].length)=r:=by
       rw[show((a.length:Int).toNat+ [c].length)=a.length+1 from by simp]
       rw[<- List.drop_drop,List.drop_left]
       rfl
     have e3:(a++c::r).drop (a.length+ [c].length)=r:=by
       rw[show(a.length+ [c].length)=a.length+1 from by simp,<- List.drop_drop,List.drop_left]
       rfl
     rw[e1,e2,e3,ih r (by simp at h;omega)]
theorem Afc (c:UInt8) (s:Bs):Lib.split s [c]=BI c s:=Alh c s.length s (Nat.le_refl _)
theorem ZQ (c:UInt8): ∀ s:Bs,(BI c s).length<=s.length+1/\0<(BI c s).length/\ ∀ x∈BI c s,x.length<=s.length:=by
  intro s
  induction s with
  | nil=>exact⟨by simp [BI],by simp [BI],by intro x hx;simp [BI]at hx;simp [hx]⟩
  | cons b r ih =>
    obtain⟨h1,h2,h3⟩:=ih
    by_cases hb:b=c
    ·have e:BI c (b::r)=[]::BI c r:=by show(if b=c then _ else _)=_;rw[if_pos hb]
     rw[e]
     refine⟨by simp;omega,by simp,fun x hx=> ?_⟩
     rcases List.mem_cons.1 hx with rfl | hx
     ·simp
     ·have:=h3 x hx;simp;omega
    ·rw[QR _ _ _ hb]
     cases hs:BI c r with
     | nil=>rw[hs]at h2;simp at h2
     | cons y t =>
       rw[hs]at h1 h3
       refine⟨by simp at h1 ⊢;omega,by simp,fun x hx=> ?_⟩
       rcases List.mem_cons.1 hx with rfl | hx
       ·have:=h3 y List.mem_cons_self;simp;omega
       ·have:=h3 x (List.mem_cons_of_mem _ hx);simp;omega
end Go.Proofs.YtadefjgbcapakaaGreatDoor.Vm
namespace Go.Proofs.YtadefjgbcapakaaGreatDoor.Pl
open IntKind (i64)
open Go Vm
def D6 (c:UInt8):Bool:=decide (48<=c.toNat)&&decide (c.toNat<=57)
def FI (d:Bs):Nat:=d.foldl (fun v c=>10*v+(c.toNat - 48)) 0
theorem Ab1 (d:Bs) (c:UInt8):FI (d++[c])=10*FI d+(c.toNat - 48):=by simp [FI,List.foldl_append]
theorem AlW: ∀(d:Bs) (v k:Nat),d.all D6=true->v<10 ^ k->d.foldl (fun v c=>10*v+(c.toNat - 48)) v<10 ^ (k+d.length):=by
  intro d
  induction d with
  | nil=>intro v k _ h;exact h
  | cons c d ih =>
    intro v k h hv
    rw[List.all_cons,Bool.and_eq_true]at h
    have h2:=h.1
    unfold D6 at h2
    simp only[Bool.and_eq_true,decide_eq_true_eq]at h2
    have:=ih (10*v+(c.toNat - 48)) (k+1) h.2 (by rw[Nat.pow_succ];omega)
    rw[List.length_cons,show k+(d.length+1)=k+1+d.length by omega]
    exact this
theorem Agx (d:Bs) (h:d.all D6=true):FI d<10 ^ d.length:=by
  have:=AlW d 0 0 h (by decide)
  rwa [Nat.zero_add]at this
def uQ (d:Bs):Bool:= !(decide (d.length=0)||decide (10<d.length)||(decide ((d.getD 0 0).toNat=48)&&decide (1<d.length)))&&(d.all D6&&decide (FI d<=2147483647))
def KF (d:Bs):Option Nat:=if uQ d then some (FI d)else none
def Ai0:Option Nat->Int
  | none=> -1
  | some n=>n
theorem AdJ {c:Nat} (h1:48<=c) (h2:c<=57):i64.wrap (IntKind.u8.wrap ((c:Int) - 48))=((c - 48:Nat):Int):=by
  rw[w8,w64 (by omega) (by omega)];omega
theorem Al8 {ρ :Type} (N:Nat) (s:Bs) (hs:s.length<=10) (hN:10<N) (bad:Option ρ) (fin:Int->Option ρ) :
    Am (X:=Int×Int) (Y:=Int) (U2 fun t3a t4a k7 x8 =>
     bif decide (t4a<(s.length:Int))then Vm.chk (decide ((0:Int)<=t4a)) (Vm.chk (decide (t4a<(s.length:Int)))
       (Vm.chk (decide ((0:Int)<=t4a)||decide (((s.getD t4a.toNat 0).toNat:Int)<(48:Int)))
         (Vm.chk (decide (t4a<(s.length:Int))||decide (((s.getD t4a.toNat 0).toNat:Int)<(48:Int)))
           (bif decide (((s.getD t4a.toNat 0).toNat:Int)<(48:Int))||decide (((s.getD t4a.toNat 0).toNat:Int)>(57:Int))then bad
            else Vm.chk (decide ((0:Int)<=t4a)) (Vm.chk (decide (t4a<(s.length:Int)))
             (k7 (i64.wrap ((i64.wrap ((10:Int)*t3a))+i64.wrap (IntKind.u8.wrap (((s.getD t4a.toNat 0).toNat:Int) - (48:Int)))),i64.wrap (t4a+(1:Int)))))))))
     else x8 t3a) N (0,0) fin=if s.all D6=true then fin ((FI s:Nat):Int)else bad:=by
  refine Jb (I:=fun x=> ∃ i:Nat,x=(((FI (s.take i):Nat):Int),(i:Int))/\i<=s.length/\(s.take i).all D6=true) (μ :=fun x=>s.length - x.2.toNat) (fun _=>if s.all D6=true then fin ((FI s:Nat):Int)else bad) ?_ N (0,0) ⟨0,rfl,by omega,rfl⟩ (by show s.length - 0<N;omega)
  rintro x ⟨i,rfl,hi,hd⟩ k hk
  show(bif decide ((i:Int)<(s.length:Int))then _ else _)=_
  by_cases hl:i<s.length
  ·have hv:=Agx (s.take i) hd
   have h10:(10:Nat) ^ (s.take i).length<=10 ^ 9:=Nat.pow_le_pow_right (by decide) (by simp;omega)
   have hg:s.getD ((i:Int)).toNat 0=s[i]:=getD_lt s i 0 hl
   rw[decide_eq_true (by omega),cond_true,hg,decide_eq_true (show(0:Int)<=(i:Int) by omega)]
   simp only[Bool.true_or,A8]
   have htake:s.take (i+1)=s.take i++[s[i]]:=by rw[List.take_add_one,List.getElem?_eq_getElem hl];rfl
   by_cases hc:D6 s[i]=true
   ·have hc':=hc
    unfold D6 at hc'
    simp only[Bool.and_eq_true,decide_eq_true_eq]at hc'
    rw[decide_eq_false (by omega),decide_eq_false (by omega)]
    simp only[Bool.or_self,cond_false]
    rw[AdJ hc'.1 hc'.2,w64 (x:=(10:Int)*((FI (s.take i):Nat):Int)) (by omega) (by omega),w64 (x:=(10:Int)*((FI (s.take i):Nat):Int)+_) (by omega) (by omega),w64 (x:=(i:Int)+1) (by omega) (by omega)]
    refine hk _ ⟨i+1,?_,by omega,by rw[htake,List.all_append,hd];simpa using hc⟩ (by show s.length - ((i:Int)+1).toNat<s.length - ((i:Int)).toNat;omega)
    rw[htake,Ab1]
    push_cast
    rfl
   ·have hall: ¬(s.all D6=true):=fun h=>hc (Agr h hl)
    rw[if_neg hall]
    have:(decide (((s[i].toNat:Nat):Int)<48)||decide (((s[i].toNat:Nat):Int)>57))=true:=by
      unfold D6 at hc
      simp only[Bool.and_eq_true,decide_eq_true_eq]at hc
      simp only[Bool.or_eq_true,decide_eq_true_eq]
      omega
    rw[this,cond_true]
  ·have:i=s.length:=by omega
   subst this
   rw[decide_eq_false (by omega),cond_false]
   rw[List.take_length]at hd
   rw[if_pos hd,List.take_length]
theorem Air (N:Nat) (s:Bs) (hN:16<N):Yy N s=some (Ai0 (KF s)):=by
  unfold Yy
  try simp only[clR]
  by_cases h0:s.length=0
  ·have:s=[]:=List.eq_nil_of_length_eq_zero h0
   subst this
   rfl
  ·have hne:(s==([]:Bs))=false:=by cases s with | nil=>exact absurd rfl h0 | cons _ _=>rfl
   rw[hne,decide_eq_true (show(0:Int)<(s.length:Int) by omega)]
   simp only[Bool.false_or,Bool.true_or,A8]
   unfold KF uQ
   by_cases h1:10<s.length
   ·rw[decide_eq_true (show(s.length:Int)>10 by omega),decide_eq_true h1]
    simp [A8,Ai0]
   ·rw[decide_eq_false (show ¬((s.length:Int)>10) by omega),decide_eq_false h1,decide_eq_false h0]
    simp only[Bool.or_false,Bool.false_or,Bool.not_false,Bool.true_and,Bool.not_or_self,A8]
    by_cases h2:(s.getD 0 0).toNat=48/\1<s.length
    ·rw[show(((s.getD 0 0).toNat:Int)==48)=true from by rw[beq_iff_eq];omega,decide_eq_true (show(s.length:Int)>1 by omega),decide_eq_true h2.1,decide_eq_true h2.2]
     rfl
    ·have e:((((s.getD 0 0).toNat:Int)==48)&&decide ((s.length:Int)>1))=false:=by
       rw[Bool.and_eq_false_iff]
       simp only[beq_eq_false_iff_ne,decide_eq_false_iff_not]
       omega
     have e':(decide ((s.getD 0 0).toNat=48)&&decide (1<s.length))=false:=by
       rw[Bool.and_eq_false_iff]
       simp only[decide_eq_false_iff_not]
       omega
     rw[e,e',cond_false]
     refine Eq.trans (Al8 N s (by omega) (by omega) _ _) ?_
     by_cases h3:s.all D6=true
     ·rw[if_pos h3,h3]
      by_cases h4:FI s<=2147483647
      ·rw[decide_eq_false (by omega),decide_eq_true h4];rfl
      ·rw[decide_eq_true (by omega),decide_eq_false h4];rfl
     ·rw[if_neg h3,show s.all D6=false by simpa using h3];rfl
def Nv (l:List Nat):Bool:=(decide (l.getD 0 0<=1)&&decide (l.getD 1 0<=39))||decide (l.getD 0 0=2)
def FM (s:Bs):Option (List Nat) :=
  if(BI 46 s).length<2\/12<(BI 46 s).length then none
  else match Iu KF (BI 46 s)with
    | none=>none
    | some l=>if Nv l=true then some l else none
def ints (l:List Nat):List Int:=l.map fun(n:Nat)=>(n:Int)
def Apy:Option (List Nat)->List Int
  | none=>[]
  | some l=>ints l
theorem AnH {s:Bs} {n:Nat} (h:KF s=some n):n<=2147483647:=by
  unfold KF at h
  split at h
  ·rename_i hk
   injection h with h
   unfold uQ at hk
   simp only[Bool.and_eq_true,decide_eq_true_eq]at hk
   omega
  ·cases h
theorem Am6 {α β :Type} {f: α ->Option β}: ∀ {l:List α} {r:List β},Iu f l=some r-> ∀ b∈r,∃ a∈l,f a=some b:=by
  intro l
  induction l with
  | nil=>intro r h b hb;injection h with h;subst h;cases hb
  | cons a t ih =>
    intro r h b hb
    unfold Iu at h
    split at h
    ·rename_i x q h1 h2
     injection h with h;subst h
     rcases List.mem_cons.1 hb with rfl | hb
     ·exact⟨a,List.mem_cons_self,h1⟩
     ·obtain⟨y,h3,h4⟩:=ih h2 b hb
      exact⟨y,List.mem_cons_of_mem _ h3,h4⟩
    ·cases h
theorem AfR (N:Nat) (a b:Nat):Z9 N (a:Int) (b:Int)=some ((decide (a<=1)&&decide (b<=39))||decide (a=2)):=by
  unfold Z9
  try simp only[clR]
  have e1:decide ((a:Int)<=1)=decide (a<=1):=by rw[decide_eq_decide];omega
  have e2:decide ((b:Int)<=39)=decide (b<=39):=by rw[decide_eq_decide];omega
  have e3:((a:Int)==2)=decide (a=2):=by rw[Bool.eq_iff_iff,beq_iff_eq,decide_eq_true_eq];omega
  rw[e1,e2,e3]
theorem oK (N:Nat) (s:Bs) (hN:16<N) (hs:s.length<=1048576):UQ N s=some (Apy (FM s)):=by
  unfold UQ
  try simp only[clR]
  have hsp:strings_Split N s [46]=some (BI 46 s):=by
    unfold strings_Split
    rw[decide_eq_true (by omega),Afc];rfl
  rw[hsp,Ae]
  unfold FM
  have hlen:=ZQ 46 s
  generalize hp:BI 46 s=p at hlen ⊢
  by_cases h1:p.length<2\/12<p.length
  ·rw[if_pos h1,show(decide ((p.length:Int)<2)||decide ((p.length:Int)>12))=true by simp only[Bool.or_eq_true,decide_eq_true_eq];omega]
   rfl
  ·rw[if_neg h1,show(decide ((p.length:Int)<2)||decide ((p.length:Int)>12))=false by simp only[Bool.or_eq_false_iff,decide_eq_false_iff_not];omega,cond_false]
   refine Eq.trans (JL (S:=List Int) (mk:=fun i a=>(i,a)) (out:=fun a=>a) p [] (fun i a=>a.length=i) (TE KF (fun a v=>a++[(v:Int)]) (some [])) ?_ ?_ N [] rfl (by omega)) ?_
   ·intro i a hi ha
    have hg:p.getD ((i:Int)).toNat []=p[i]:=getD_lt p i [] hi
    rw[getD_lt p i [] hi]
    have key: ∀(K:Int->Option (List Int)),(Vm.chk (decide ((0:Int)<=(i:Int))) (Vm.chk (decide ((i:Int)<(p.length:Int))) (Ac (Yy N (p.getD ((i:Int)).toNat [])) K)))=K (Ai0 (KF p[i])):=by
      intro K
      rw[decide_eq_true (show(0:Int)<=(i:Int) by omega),decide_eq_true (show(i:Int)<(p.length:Int) by omega),A8,A8,hg,Air N _ hN,Ae]
    refine Afd (fun hv k=> ?_) (fun v hv=>⟨fun k=> ?_,by simp [ha]⟩)
    ·dsimp only[U2]
     rw[key,hv,decide_eq_true (show(i:Int)<(p.length:Int) by omega)]
     rfl
    ·dsimp only[U2]
     rw[key,hv,decide_eq_true (show(i:Int)<(p.length:Int) by omega),cond_true]
     rw[show Ai0 (some v)=(v:Int)from rfl,decide_eq_false (show ¬((v:Int)<0) by omega),cond_false,decide_eq_true (show(a.length+1)*9<=140737488355328 by omega),A8,w64 (by omega) (by omega)]
   ·intro a k ha
    dsimp only[U2]
    rw[decide_eq_false (by omega),cond_false]
   ·rw[AeX]
    cases hm:Iu KF p with
    | none=>rfl
    | some l =>
      have hl:=sN hm
      have hf:l.foldl (fun(a:List Int) (v:Nat)=>a++[(v:Int)]) []=l.map (fun(v:Nat)=>(v:Int)):=by rw[Ab6,List.nil_append]
      dsimp only[Option.elim]
      rw[hf]
      have e1:(l.map (fun(v:Nat)=>(v:Int))).length=l.length:=List.length_map ..
      rw[e1,decide_eq_true (show(0:Int)<(l.length:Int) by omega),decide_eq_true (show 0<l.length by omega),decide_eq_true (show(1:Int)<(l.length:Int) by omega),decide_eq_true (show 1<l.length by omega)]
      simp only[A8]
      have g0:(l.map (fun(v:Nat)=>(v:Int))).getD 0 0=((l.getD 0 0:Nat):Int):=by
        rw[getD_lt _ 0 0 (by rw[e1];omega),getD_lt _ 0 0 (by omega)];simp
      have g1:(l.map (fun(v:Nat)=>(v:Int))).getD 1 0=((l.getD 1 0:Nat):Int):=by
        rw[getD_lt _ 1 0 (by rw[e1];omega),getD_lt _ 1 0 (by omega)];simp
      rw[g0,g1,AfR,Ae]
      show(bif !(Nv l)then _ else _)=_
      cases Nv l<;>rfl
def Xb (cur:Bs) (out:List Nat):Option (List Nat):=if out.length=12 then none else(KF cur).map fun v=>out++[v]
def KU:Bs->List Nat->Bs->Option (List Nat)
  | cur,out,[]=>Xb cur out
  | cur,out,c::r=>if c=46 then(Xb cur out).bind fun o=>KU [] o r else if D6 c=true then KU (cur++[c]) out r else none
theorem AbX (cur:Bs) (out:List Nat) (r:Bs):KU cur out (46::r)=(Xb cur out).bind fun o=>KU [] o r:=if_pos rfl
theorem AbV (cur:Bs) (out:List Nat) (c:UInt8) (r:Bs) (h1:c≠46) (h2: ¬ D6 c=true):KU cur out (c::r)=none:=by
  show(if c=46 then _ else if D6 c=true then _ else _)=_
  rw[if_neg h1,if_neg h2]
theorem AbW (cur:Bs) (out:List Nat) (c:UInt8) (r:Bs) (h1:c≠46) (h2:D6 c=true):KU cur out (c::r)=KU (cur++[c]) out r:=by
  show(if c=46 then _ else if D6 c=true then _ else _)=_
  rw[if_neg h1,if_pos h2]
def NV (l:List Nat):Option (List Nat):=if 2<=l.length/\Nv l=true then some l else none
def uB:Option (List Nat)->List Int×Bool
  | none=>([],false)
  | some l=>(ints l,true)
theorem AfY {ρ :Type} (N:Nat) (d:Bs) (out:List Int) (hs:d.length<=10) (hd:d.all D6=true) (hN:10<N) (fin:Int×List Int->Option ρ) :
    Am (X:=Int×Int×List Int) (Y:=Int×List Int) (U3 fun t8b t9b l1004096b k11 x12 =>
     bif decide (t9b<(d.length:Int))then Vm.chk (decide (0<=t9b)) (Vm.chk (decide (t9b<(d.length:Int)))
       (k11 (i64.wrap (i64.wrap (10*t8b)+i64.wrap (IntKind.u8.wrap (((d.getD t9b.toNat 0).toNat:Int) - 48))),i64.wrap (t9b+1),l1004096b)))
     else x12 (t8b,l1004096b)) N (0,0,out) fin=fin ((FI d:Nat),out):=by
  refine Jb (I:=fun x=> ∃ i:Nat,x=(((FI (d.take i):Nat):Int),(i:Int),out)/\i<=d.length) (μ :=fun x=>d.length - x.2.1.toNat) (fun _=>fin ((FI d:Nat),out)) ?_ N (0,0,out) ⟨0,rfl,by omega⟩ (by show d.length - 0<N;omega)
  rintro x ⟨i,rfl,hi⟩ k hk
  dsimp only[U3]
  by_cases hl:i<d.length
  ·have hdi:(d.take i).all D6=true:=List.all_eq_true.2 fun x hx=>List.all_eq_true.1 hd x (List.mem_of_mem_take hx)
   have hv:=Agx (d.take i) hdi
   have h10:(10:Nat) ^ (d.take i).length<=10 ^ 9:=Nat.pow_le_pow_right (by decide) (by simp;omega)
   have hg:d.getD ((i:Int)).toNat 0=d[i]:=getD_lt d i 0 hl
   have htake:d.take (i+1)=d.take i++[d[i]]:=by rw[List.take_add_one,List.getElem?_eq_getElem hl];rfl
   have hc:=Agr hd hl
   unfold D6 at hc
   simp only[Bool.and_eq_true,decide_eq_true_eq]at hc
   rw[decide_eq_true (by omega),cond_true,hg,decide_eq_true (show(0:Int)<=(i:Int) by omega),A8,A8]
   rw[AdJ hc.1 hc.2,w64 (x:=(10:Int)*((FI (d.take i):Nat):Int)) (by omega) (by omega),w64 (x:=(10:Int)*((FI (d.take i):Nat):Int)+_) (by omega) (by omega),w64 (x:=(i:Int)+1) (by omega) (by omega)]
   refine hk _ ⟨i+1,?_,by omega⟩ (by show d.length - ((i:Int)+1).toNat<d.length - ((i:Int)).toNat;omega)
   rw[htake,Ab1]
   push_cast
   rfl
  ·have:i=d.length:=by omega
   subst this
   rw[decide_eq_false (by omega),cond_false,List.take_length]
theorem Al7 {d:Bs} (hd:d.all D6=true):KF d=if d.length=0\/10<d.length\/((d.getD 0 0).toNat=48/\1<d.length)\/2147483647<FI d then none else some (FI d):=by
  unfold KF uQ
  rw[hd]
  by_cases h:d.length=0\/10<d.length\/((d.getD 0 0).toNat=48/\1<d.length)\/2147483647<FI d
  ·rw[if_pos h,if_neg]
   simp only[Bool.and_eq_true,Bool.not_eq_true',Bool.or_eq_false_iff,decide_eq_false_iff_not,Bool.and_eq_false_iff,decide_eq_true_eq]
   omega
  ·rw[if_neg h,if_pos]
   have h1:d.length≠0:=by omega
   have h2: ¬ 10<d.length:=by omega
   have h3:FI d<=2147483647:=by omega
   have h4:(decide ((d.getD 0 0).toNat=48)&&decide (1<d.length))=false:=by
     rw[Bool.and_eq_false_iff,decide_eq_false_iff_not,decide_eq_false_iff_not];omega
   rw[decide_eq_false h1,decide_eq_false h2,decide_eq_true h3,h4];rfl
theorem AnZ {d:Bs} (o:List Nat) (hd:d.all D6=true):Xb d o=if(d.length=0\/10<d.length\/((d.getD 0 0).toNat=48/\1<d.length))\/o.length=12\/2147483647<FI d then none else some (o++[FI d]):=by
  unfold Xb
  rw[Al7 hd]
  by_cases h1:o.length=12
  ·rw[if_pos h1,if_pos (.inr (.inl h1))]
  ·rw[if_neg h1]
   by_cases h2:d.length=0\/10<d.length\/((d.getD 0 0).toNat=48/\1<d.length)\/2147483647<FI d
   ·rw[if_pos h2,if_pos (by omega)];rfl
   ·rw[if_neg h2,if_neg (by omega)];rfl
theorem Ab0 (s:Bs) {a j:Nat} (ha:a<=j) (hj:j<s.length):AB s a (j+1)=AB s a j++[s[j]]:=by
  unfold AB
  rw[List.take_add_one,List.getElem?_eq_getElem hj,List.drop_append_of_le_length (by simp;omega)]
  rfl
theorem VH {α :Type} (s:List α) (a:Nat):AB s a a=[]:=by
  unfold AB
  exact List.drop_eq_nil_of_le (by simp;omega)
theorem Akn (o:List Nat) (v:Nat):ints o++[(v:Int)]=ints (o++[v]):=by simp [ints]
theorem DY (o:List Nat):(ints o).length=o.length:=List.length_map ..
theorem Aoy (o:List Nat):(Vm.chk (decide (0<((ints o).length:Int))||decide (((ints o).length:Int)<2))
        (Vm.chk (decide (0<(ints o).length)||decide (((ints o).length:Int)<2))
          (Vm.chk (decide (0<((ints o).length:Int))||(decide (((ints o).length:Int)<2)||decide ((ints o).getD 0 0>2)))
            (Vm.chk (decide (0<(ints o).length)||(decide (((ints o).length:Int)<2)||decide ((ints o).getD 0 0>2)))
              (Vm.chk (decide (1<((ints o).length:Int))|| !(!(decide (((ints o).length:Int)<2)||decide ((ints o).getD 0 0>2))&&decide ((ints o).getD 0 0<2)))
                (Vm.chk (decide (1<(ints o).length)|| !(!(decide (((ints o).length:Int)<2)||decide ((ints o).getD 0 0>2))&&decide ((ints o).getD 0 0<2)))
                  (Vm.chk (!decide ((ints o).getD 0 0<2)|| !(decide (((ints o).length:Int)<2)||decide ((ints o).getD 0 0>2))&&decide ((ints o).getD 0 0<2)||(decide (((ints o).length:Int)<2)||decide ((ints o).getD 0 0>2)))
                    (bif decide (((ints o).length:Int)<2)||decide ((ints o).getD 0 0>2)||decide ((ints o).getD 0 0<2)&&decide ((ints o).getD 1 0>39)then some (([]:List Int),false)else some (ints o,true)))))))))=some (uB (NV o)):=by
  by_cases h:o.length<2
  ·have e:NV o=none:=if_neg (by omega)
   rw[e,DY,decide_eq_true (show(o.length:Int)<2 by omega)]
   simp [A8,uB]
  ·match o,h with
   | a::b::r,_ =>
     have e0:(ints (a::b::r)).getD 0 0=(a:Int):=rfl
     have e1:(ints (a::b::r)).getD 1 0=(b:Int):=rfl
     have e2:(ints (a::b::r)).length=r.length+2:=by rw[DY];rfl
     rw[e0,e1,e2,decide_eq_true (show(0:Int)<((r.length+2:Nat):Int) by omega),decide_eq_true (show 0<r.length+2 by omega),decide_eq_true (show(1:Int)<((r.length+2:Nat):Int) by omega),decide_eq_true (show 1<r.length+2 by omega),decide_eq_false (show ¬(((r.length+2:Nat):Int)<2) by omega)]
     have hr:Nv (a::b::r)= !(decide ((a:Int)>2)||(decide ((a:Int)<2)&&decide ((b:Int)>39))):=by
       show((decide (a<=1)&&decide (b<=39))||decide (a=2))=_
       rw[Bool.eq_iff_iff]
       simp only[Bool.or_eq_true,Bool.and_eq_true,decide_eq_true_eq,Bool.not_eq_true',Bool.or_eq_false_iff,Bool.and_eq_false_iff,decide_eq_false_iff_not]
       omega
     unfold NV
     rw[hr]
     cases decide ((a:Int)>2)<;>cases decide ((a:Int)<2)<;>cases decide ((b:Int)>39)<;>simp [Vm.chk,uB]
   | [],h=>exact absurd (by decide) h
   | [a],h=>exact absurd (by simp) h
theorem AgD (c:UInt8) (k:Nat):(((c.toNat:Nat):Int) != (k:Int))=decide (c.toNat≠k):=by
  rw[Bool.eq_iff_iff,bne_iff_ne,decide_eq_true_eq];omega
theorem AcK (N:Nat) (s:Bs) (hN:16<N) (hs:s.length<=1048576) (hl:s.length+1<N):Tz N s=some (uB ((KU [] [] s).bind NV)):=by
  unfold Tz
  try simp only[clR]
  generalize hR:KU [] [] s=R0
  refine Jb (I:=fun x=> ∃(a j:Nat) (o:List Nat),x=((a:Int),(j:Int),ints o)/\a<=j/\o.length<=12/\((j<=s.length/\(AB s a j).all D6=true/\KU (AB s a j) o (s.drop j)=R0)\/(j=s.length+1/\some o=R0))) (μ :=fun x=>s.length+1 - x.2.1.toNat) (fun _=>some (uB (R0.bind NV))) ?_ N (0,0,[]) ⟨0,0,[],rfl,by omega,by simp,.inl ⟨by omega,by rw[VH];rfl,by rw[VH,List.drop_zero];exact hR⟩⟩ (by show s.length+1 - 0<N;omega)
  rintro x ⟨a,j,o,rfl,ha,ho,hx⟩ k hk
  dsimp only[U3]
  rcases hx with ⟨hj,hd,hsc⟩ | ⟨rfl,hsc⟩
  ·have hmu: ∀ j':Nat,j<j'->s.length+1 - ((j':Int)).toNat<s.length+1 - ((j:Int)).toNat:=fun j' h=>by omega
   rw[decide_eq_true (show(j:Int)<=(s.length:Int) by omega),cond_true,decide_eq_true (show(0:Int)<=(j:Int) by omega)]
   simp only[Bool.true_or,A8]
   have proc: ∀(d:Bs),d.all D6=true->(if j<s.length then(Xb d o).bind fun o=>KU [] o (s.drop (j+1))else Xb d o)=R0 ->
       (Vm.chk (decide ((0:Int)<=(a:Int))) (Vm.chk (decide ((a:Int)<=(j:Int)))
         (Vm.chk (decide (0<(d.length:Int))|| !(!((d.length:Int)==0||decide ((d.length:Int)>10))&&decide ((d.length:Int)>1)))
           (Vm.chk (!decide ((d.length:Int)>1)|| !((d.length:Int)==0||decide ((d.length:Int)>10))&&decide ((d.length:Int)>1)||((d.length:Int)==0||decide ((d.length:Int)>10)))
             (bif (d.length:Int)==0||decide ((d.length:Int)>10)||decide ((d.length:Int)>1)&&((d.getD 0 0).toNat:Int)==48||((ints o).length:Int)==12 then some (([]:List Int),false)
              else Am (X:=Int×Int×List Int) (Y:=Int×List Int) (U3 fun t8b t9b l1004096b k11 x12 =>
                 bif decide (t9b<(d.length:Int))then Vm.chk (decide (0<=t9b)) (Vm.chk (decide (t9b<(d.length:Int)))
                   (k11 (i64.wrap (i64.wrap (10*t8b)+i64.wrap (IntKind.u8.wrap (((d.getD t9b.toNat 0).toNat:Int) - 48))),i64.wrap (t9b+1),l1004096b)))
                 else x12 (t8b,l1004096b)) N (0,0,ints o) (U2 fun t8c l1008192c=>bif decide (t8c>2147483647)then some ([],false)else Vm.chk (decide ((l1008192c.length+1)*9<=140737488355328)) (k (i64.wrap ((j:Int)+1),i64.wrap ((j:Int)+1),l1008192c++[t8c]))))))))=some (uB (R0.bind NV)):=by
     intro d hd hsc
     rw[decide_eq_true (show(0:Int)<=(a:Int) by omega),decide_eq_true (show(a:Int)<=(j:Int) by omega)]
     simp only[A8]
     have c0:(((d.length:Nat):Int)==0)=decide (d.length=0):=by rw[Bool.eq_iff_iff,beq_iff_eq,decide_eq_true_eq];omega
     have c1:decide (((d.length:Nat):Int)>10)=decide (10<d.length):=by rw[decide_eq_decide];omega
     have c2:decide (((d.length:Nat):Int)>1)=decide (1<d.length):=by rw[decide_eq_decide];omega
     have c3:((((d.getD 0 0).toNat:Nat):Int)==48)=decide ((d.getD 0 0).toNat=48):=by rw[Bool.eq_iff_iff,beq_iff_eq,decide_eq_true_eq];omega
     have c4:(((ints o).length:Int)==12)=decide (o.length=12):=by rw[DY,Bool.eq_iff_iff,beq_iff_eq,decide_eq_true_eq];omega
     have c5:decide (0<((d.length:Nat):Int))= !(decide (d.length=0)):=by rw[Bool.eq_iff_iff,decide_eq_true_eq,Bool.not_eq_true',decide_eq_false_iff_not];omega
     rw[c0,c1,c2,c3,c4,c5]
     have t1:((!(decide (d.length=0)))|| !(!(decide (d.length=0)||decide (10<d.length))&&decide (1<d.length)))=true:=by cases decide (d.length=0)<;>cases decide (10<d.length)<;>cases decide (1<d.length)<;>rfl
     have t2:(!decide (1<d.length)|| !(decide (d.length=0)||decide (10<d.length))&&decide (1<d.length)||(decide (d.length=0)||decide (10<d.length)))=true:=by cases decide (d.length=0)<;>cases decide (10<d.length)<;>cases decide (1<d.length)<;>rfl
     rw[t1,t2,A8,A8]
     have hE:=AnZ o hd
     by_cases hb:(d.length=0\/10<d.length\/((d.getD 0 0).toNat=48/\1<d.length))\/o.length=12
     ·rw[show(decide (d.length=0)||decide (10<d.length)||decide (1<d.length)&&decide ((d.getD 0 0).toNat=48)||decide (o.length=12))=true by simp only[Bool.or_eq_true,Bool.and_eq_true,decide_eq_true_eq];omega,cond_true]
      rw[if_pos (by omega)]at hE
      have:R0=none:=by rw[<- hsc,hE];split<;>rfl
      rw[this];rfl
     ·rw[show(decide (d.length=0)||decide (10<d.length)||decide (1<d.length)&&decide ((d.getD 0 0).toNat=48)||decide (o.length=12))=false by simp only[Bool.or_eq_false_iff,Bool.and_eq_false_iff,decide_eq_false_iff_not];omega,cond_false]
      refine Eq.trans (AfY N d (ints o) (by omega) hd (by omega) _) ?_
      dsimp only[U2]
      by_cases hv:2147483647<FI d
      ·rw[decide_eq_true (show((FI d:Nat):Int)>2147483647 by omega),cond_true]
       rw[if_pos (by omega)]at hE
       have:R0=none:=by rw[<- hsc,hE];split<;>rfl
       rw[this];rfl
      ·rw[decide_eq_false (show ¬((FI d:Nat):Int)>2147483647 by omega),cond_false,DY,decide_eq_true (show(o.length+1)*9<=140737488355328 by omega),A8,w64 (by omega) (by omega),Akn]
       rw[if_neg (by omega)]at hE
       rw[hE]at hsc
       refine hk _ ⟨j+1,j+1,o++[FI d],rfl,by omega,by simp;omega,?_⟩ (hmu (j+1) (by omega))
       by_cases hjl:j<s.length
       ·rw[if_pos hjl]at hsc
        exact .inl ⟨by omega,by rw[VH];rfl,by rw[VH];exact hsc⟩
       ·rw[if_neg hjl]at hsc
        exact .inr ⟨by omega,hsc⟩
   by_cases hjl:j<s.length
   ·have hg:s.getD ((j:Int)).toNat 0=s[j]:=getD_lt s j 0 hjl
    rw[decide_eq_true (show(j:Int)<(s.length:Int) by omega),hg]
    simp only[Bool.true_or,A8,Bool.true_and]
    by_cases h46:s[j].toNat=46
    ·rw[show(((s[j].toNat:Nat):Int) != 46)=false by rw[show(46:Int)=((46:Nat):Int)from rfl,AgD,decide_eq_false (by simp [h46])],cond_false]
     have he:s[j]=46:=UInt8.toNat.inj (by rw[h46];rfl)
     refine proc _ hd ?_
     rw[if_pos hjl,<- hsc,List.drop_eq_getElem_cons hjl,he,AbX];rfl
    ·rw[show(((s[j].toNat:Nat):Int) != 46)=true by rw[show(46:Int)=((46:Nat):Int)from rfl,AgD,decide_eq_true (by simp [h46])],cond_true]
     have hne:s[j]≠46:=fun e=>h46 (by rw[e];rfl)
     rw[List.drop_eq_getElem_cons hjl]at hsc
     by_cases hdg:D6 s[j]=true
     ·rw[AbW _ _ _ _ hne hdg]at hsc
      have hc:=hdg
      unfold D6 at hc
      simp only[Bool.and_eq_true,decide_eq_true_eq]at hc
      rw[decide_eq_false (show ¬((s[j].toNat:Nat):Int)<48 by omega),decide_eq_false (show ¬((s[j].toNat:Nat):Int)>57 by omega)]
      simp only[Bool.or_self,cond_false]
      rw[w64 (by omega) (by omega)]
      refine hk _ ⟨a,j+1,o,rfl,by omega,ho,.inl ⟨by omega,?_,?_⟩⟩ (hmu (j+1) (by omega))
      ·rw[Ab0 s ha hjl,List.all_append,hd];simpa using hdg
      ·rw[Ab0 s ha hjl];exact hsc
     ·rw[AbV _ _ _ _ hne hdg]at hsc
      have:(decide (((s[j].toNat:Nat):Int)<48)||decide (((s[j].toNat:Nat):Int)>57))=true:=by
        unfold D6 at hdg
        simp only[Bool.and_eq_true,decide_eq_true_eq]at hdg
        simp only[Bool.or_eq_true,decide_eq_true_eq]
        omega
      rw[this,cond_true,<- hsc];rfl
   ·rw[decide_eq_false (show ¬(j:Int)<(s.length:Int) by omega)]
    simp only[Bool.false_and,cond_false]
    refine proc _ hd ?_
    rw[if_neg hjl,<- hsc,List.drop_eq_nil_of_le (by omega)];rfl
  ·rw[decide_eq_false (show ¬((s.length+1:Nat):Int)<=(s.length:Int) by omega),cond_false,<- hsc]
   exact Aoy o
theorem AiH (c b:UInt8) (hb:b≠c): ∀ s:Bs,b∈s-> ∃ x∈BI c s,b∈x:=by
  intro s
  induction s with
  | nil=>intro h;cases h
  | cons a r ih =>
    intro h
    by_cases ha:a=c
    ·rcases List.mem_cons.1 h with rfl | h
     ·exact absurd ha hb
     ·obtain⟨x,h1,h2⟩:=ih h
      refine⟨x,?_,h2⟩
      show x∈(if a=c then _ else _)
      rw[if_pos ha]
      exact List.mem_cons_of_mem _ h1
    ·rw[QR _ _ _ ha]
     rcases List.mem_cons.1 h with rfl | h
     ·exact⟨_,List.mem_cons_self,List.mem_cons_self⟩
     ·obtain⟨x,h1,h2⟩:=ih h
      have hn:=Acb c r
      cases hs:BI c r with
      | nil=>exact absurd hs hn
      | cons y t =>
        rw[hs]at h1
        rcases List.mem_cons.1 h1 with rfl | h1
        ·exact⟨_,List.mem_cons_self,List.mem_cons_of_mem _ h2⟩
        ·exact⟨x,List.mem_cons_of_mem _ h1,h2⟩
theorem Ak6 {α β :Type} {f: α ->Option β}: ∀ {l:List α} {a: α},a∈l->f a=none->Iu f l=none:=by
  intro l
  induction l with
  | nil=>intro a h;cases h
  | cons x t ih =>
    intro a h ha
    unfold Iu
    rcases List.mem_cons.1 h with rfl | h
    ·rw[ha]
    ·rw[ih h ha]
     split
     ·rename_i h1 h2;cases h2
     ·rfl
theorem VU {α β :Type} (f: α ->Option β) (a: α) (l:List α):Iu f (a::l)=(f a).bind fun b=>(Iu f l).map fun r=>b::r:=by
  show(match f a,Iu f l with | some b,some bs=>some (b::bs) | _,_=>none)=_
  cases f a<;>cases Iu f l<;>rfl
theorem vP {d:Bs} (h:d.all D6=true):(46:UInt8)∉d:=by
  intro hm
  have:=List.all_eq_true.1 h _ hm
  revert this;decide
theorem Ao5: ∀(s cur:Bs) (out:List Nat),cur.all D6=true->out.length<=12->KU cur out s=if 12<out.length+(BI 46 (cur++s)).length then none else(Iu KF (BI 46 (cur++s))).map fun r=>out++r:=by
  intro s
  induction s with
  | nil =>
    intro cur out hc ho
    rw[List.append_nil,oP _ _ (vP hc),VU]
    show Xb cur out=_
    unfold Xb
    by_cases h:out.length=12
    ·rw[if_pos h,if_pos (by simp only[List.length_singleton];omega)]
    ·rw[if_neg h,if_neg (by simp only[List.length_singleton];omega)]
     cases KF cur<;>rfl
  | cons c r ih =>
    intro cur out hc ho
    by_cases h1:c=46
    ·subst h1
     rw[AbX,Aca _ _ _ (vP hc),VU]
     unfold Xb
     have hl:=(ZQ 46 r).2.1
     by_cases h:out.length=12
     ·rw[if_pos h,if_pos (by rw[List.length_cons];omega)];rfl
     ·rw[if_neg h]
      cases hv:KF cur with
      | none=>simp
      | some v =>
        have:=ih [] (out++[v]) rfl (by simp;omega)
        rw[List.nil_append]at this
        show KU [] (out++[v]) r=_
        rw[this]
        simp only[List.length_append,List.length_singleton,List.length_cons,List.length_nil,Option.bind_some,Option.map_map]
        by_cases h3:12<out.length+(0+1)+(BI 46 r).length
        ·rw[if_pos h3,if_pos (by omega)]
        ·rw[if_neg h3,if_neg (by omega)]
         cases Iu KF (BI 46 r)<;>simp
    ·by_cases h2:D6 c=true
     ·rw[AbW _ _ _ _ h1 h2,ih (cur++[c]) out (by simp [hc,h2]) ho,List.append_assoc]
      rfl
     ·rw[AbV _ _ _ _ h1 h2]
      obtain⟨x,hx1,hx2⟩:=AiH 46 c h1 (cur++c::r) (by simp)
      rw[Ak6 hx1 (by
        unfold KF uQ
        rw[if_neg]
        have:x.all D6=false:=by
          apply Bool.eq_false_iff.2
          intro h
          exact h2 (List.all_eq_true.1 h _ hx2)
        rw[this]
        simp)]
      split<;>rfl
theorem Aji (s:Bs):(KU [] [] s).bind NV=FM s:=by
  rw[Ao5 s [] [] rfl (by decide)]
  unfold FM
  simp only[List.length_nil,Nat.zero_add,List.nil_append]
  by_cases h:12<(BI 46 s).length
  ·rw[if_pos h,if_pos (Or.inr h)];rfl
  ·rw[if_neg h]
   cases hm:Iu KF (BI 46 s)with
   | none=>split<;>rfl
   | some l =>
     have hl:=sN hm
     show NV l=_
     unfold NV
     have h3: ∀ q:Option (List Nat),(if(BI 46 s).length<2\/12<(BI 46 s).length then none else q)=if 2<=l.length then q else none:=by
       intro q
       by_cases h2:2<=l.length
       ·rw[if_neg (by omega),if_pos h2]
       ·rw[if_pos (Or.inl (by omega)),if_neg h2]
     rw[h3]
     dsimp only
     by_cases h2:2<=l.length<;>by_cases hr:Nv l=true<;>simp [h2,hr]
theorem Abi (N:Nat) (s:Bs) (hN:16<N) (hs:s.length<=1048576) (hl:s.length+1<N):Tz N s=some (uB (FM s)):=by
  rw[AcK N s hN hs hl,Aji]
def hi (m:Nat):List Nat:=if m=0 then []else hi (m / 128)++[m % 128+128]
termination_by m
decreasing_by omega
theorem Aec:hi 0=[]:=by rw[hi];rfl
theorem Aml {m:Nat} (h:m≠0):hi m=hi (m / 128)++[m % 128+128]:=by rw[hi,if_neg h]
def Vd (n:Nat):List Nat:=hi (n / 128)++[n % 128]
def cnt (m:Nat):Nat:=(hi m).length
theorem vO:cnt 0=0:=by unfold cnt;rw[Aec];rfl
theorem Aho {m:Nat} (h:m≠0):cnt m=cnt (m / 128)+1:=by unfold cnt;rw[Aml h];simp
theorem cnt_le: ∀(k m:Nat),m<128 ^ k->cnt m<=k:=by
  intro k
  induction k with
  | zero=>intro m h;have:m=0:=by rw[Nat.pow_zero]at h;omega
          rw[this,vO];omega
  | succ k ih =>
    intro m h
    by_cases h0:m=0
    ·rw[h0,vO];omega
    ·rw[Aho h0]
     have:=ih (m / 128) (by rw[Nat.pow_succ]at h;omega)
     omega
def Xw (m:Nat):Nat->List Nat
  | 0=>[]
  | t+1=>(m / 128 ^ t % 128+128)::Xw m t
theorem div_pow (m t:Nat):m / 128 ^ (t+1)=m / 128 / 128 ^ t:=by
  rw[Nat.pow_succ,Nat.div_div_eq_div_mul,Nat.mul_comm]
theorem Alq: ∀(t m:Nat),Xw m (t+1)=Xw (m / 128) t++[m % 128+128]:=by
  intro t
  induction t with
  | zero=>intro m;show [m / 128 ^ 0 % 128+128]=_;rw[Nat.pow_zero,Nat.div_one];rfl
  | succ t ih =>
    intro m
    show(m / 128 ^ (t+1) % 128+128)::Xw m (t+1)=_
    rw[ih,div_pow]
    rfl
theorem AoD: ∀(k m:Nat),m<128 ^ k->Xw m (cnt m)=hi m:=by
  intro k
  induction k with
  | zero=>intro m h;have:m=0:=by rw[Nat.pow_zero]at h;omega
          rw[this,vO,Aec];rfl
  | succ k ih =>
    intro m h
    by_cases h0:m=0
    ·rw[h0,vO,Aec];rfl
    ·rw[Aho h0,Alq,ih _ (by rw[Nat.pow_succ]at h;omega),<- Aml h0]
theorem sh7 (n t:Nat) (ht:t<=9):(n:Int).fdiv (2 ^ min (IntKind.u64.wrap (7*IntKind.u64.wrap (t:Int))).toNat 64)=((n / 128 ^ t:Nat):Int):=by
  rw[wu64 (x:=(t:Int)) (by omega) (by omega),wu64 (by omega) (by omega),show min ((7:Int)*(t:Int)).toNat 64=7*t by omega]
  have h:(2:Nat) ^ (7*t)=128 ^ t:=by rw[Nat.pow_mul]
  have e:(2:Int) ^ (7*t)=((128 ^ t:Nat):Int):=by rw[<- h];push_cast;rfl
  rw[e]
  exact(Int.ofNat_fdiv _ _).symm
theorem Ad3 (n:Nat) (h:n<9223372036854775808):Bi .and .i64 (n:Int) 127=((n % 128:Nat):Int):=by
  show i64.wrap (((BitVec.ofInt 64 (n:Int)) &&& (BitVec.ofInt 64 ((127:Nat):Int))).toNat:Int)=_
  rw[show(BitVec.ofInt 64 (n:Int))=BitVec.ofNat 64 n by simp,show(BitVec.ofInt 64 ((127:Nat):Int))=BitVec.ofNat 64 127 by simp]
  rw[BitVec.toNat_and,BitVec.toNat_ofNat,BitVec.toNat_ofNat,Nat.mod_eq_of_lt (by omega),Nat.mod_eq_of_lt (by omega)]
  rw[show(127:Nat)=2 ^ 7 - 1 by decide,Nat.and_two_pow_sub_one_eq_mod]
  exact w64 (by omega) (by omega)
theorem Aqx (a:Nat) (h:a<128):Bi .or .i64 (a:Int) 128=((a+128:Nat):Int):=by
  have: ∀ a:Fin 128,Bi .or .i64 ((a.val:Nat):Int) 128=((a.val+128:Nat):Int):=by decide +kernel
  exact this ⟨a,h⟩
theorem AoK {ρ :Type} (N n:Nat) (l:List Int) (hn:n<34359738368) (hN:16<N) (fin:Int×List Int->Option ρ) :
    Am (X:=Int×List Int) (Y:=Int×List Int) (U2 fun t5a l0a k1 x2 =>
     Vm.chk (decide (0<=IntKind.u64.wrap (7*IntKind.u64.wrap t5a)))
       (bif decide ((n:Int).fdiv (2 ^ min (IntKind.u64.wrap (7*IntKind.u64.wrap t5a)).toNat 64)>0)then
         k1 (i64.wrap (t5a+1),l0a)
       else x2 (t5a,l0a))) N (1,l) fin=fin (((1+cnt (n / 128):Nat):Int),l):=by
  refine Eq.trans (Jb (I:=fun x:Int×List Int=> ∃ t:Nat,x=((t:Int),l)/\1<=t/\t<=5) (μ :=fun x=>5 - x.1.toNat) (F:=fun x=>fin (((x.1.toNat+cnt (n / 128 ^ x.1.toNat):Nat):Int),l)) ?_ N (1,l) ⟨1,rfl,by omega,by omega⟩ (by show 5 - 1<N;omega)) rfl
  rintro x ⟨t,rfl,h1,h2⟩ k hk
  dsimp only[U2]
  rw[sh7 n t (by omega),decide_eq_true (show(0:Int)<=IntKind.u64.wrap (7*IntKind.u64.wrap (t:Int)) by rw[wu64 (x:=(t:Int)) (by omega) (by omega),wu64 (by omega) (by omega)];omega),A8]
  have ht:((t:Int)).toNat=t:=by omega
  rw[ht]
  generalize hm:n / 128 ^ t=m
  by_cases h0:m=0
  ·rw[h0,decide_eq_false (by omega),cond_false,vO];rfl
  ·rw[decide_eq_true (by omega),cond_true,w64 (by omega) (by omega)]
   have h5:t<5:=by
     refine Nat.lt_of_le_of_ne h2 fun e=>h0 ?_
     rw[<- hm,e]
     exact Nat.div_eq_of_lt hn
   have e1:((t:Int)+1).toNat=t+1:=by omega
   rw[hk _ ⟨t+1,by push_cast;rfl,by omega,by omega⟩ (by show 5 - ((t:Int)+1).toNat<5 - (t:Int).toNat;omega)]
   show fin (((((t:Int)+1).toNat+cnt (n / 128 ^ ((t:Int)+1).toNat):Nat):Int),l)=_
   rw[e1,Nat.pow_succ,<- Nat.div_div_eq_div_mul,hm,Aho h0]
   congr 2
   omega
theorem Aj6 {ρ :Type} (N n:Nat) (hn:n<34359738368) (hN:16<N) (fin:List Int->Option ρ) (t:Nat) (l:List Int) (ht:t<=5) (hl:l.length<=2000000) :
    Am (X:=Int×List Int) (Y:=List Int) (U2 fun t6c l1008192c k3 x4 =>
         bif decide (t6c>0)then
           Vm.chk (decide (0<=IntKind.u64.wrap (7*IntKind.u64.wrap t6c)))
             (Vm.chk (decide ((l1008192c.length+1)*2<=140737488355328))
               (k3
                 (i64.wrap (t6c - 1),
                   l1008192c ++
                     [IntKind.u8.wrap
                         (Bi BinOp.or i64
                           (Bi BinOp.and i64
                             ((n:Int).fdiv (2 ^ min (IntKind.u64.wrap (7*IntKind.u64.wrap t6c)).toNat 64)) 127)
                           128)])))
         else x4 l1008192c) N ((t:Int),l) fin=fin (l++ints (Xw (n / 128) t)):=by
  refine Eq.trans (Jb (I:=fun x:Int×List Int=> ∃(t:Nat) (l:List Int),x=((t:Int),l)/\t<=5/\l.length+t<=2000005) (μ :=fun x=>x.1.toNat) (F:=fun x=>fin (x.2++ints (Xw (n / 128) x.1.toNat))) ?_ N ((t:Int),l) ⟨t,l,rfl,ht,by omega⟩ (by show(t:Int).toNat<N;omega)) rfl
  rintro x ⟨t,l,rfl,h2,h3⟩ k hk
  have ht:((t:Int)).toNat=t:=by omega
  cases t with
  | zero =>
    dsimp only[U2]
    rw[decide_eq_false (by omega),cond_false]
    show _=fin (l++[])
    rw[List.append_nil]
  | succ t =>
    dsimp only[U2]
    rw[sh7 n (t+1) (by omega),decide_eq_true (show(0:Int)<=IntKind.u64.wrap (7*IntKind.u64.wrap ((t+1:Nat):Int)) by rw[wu64 (x:=((t+1:Nat):Int)) (by omega) (by omega),wu64 (by omega) (by omega)];omega),A8,decide_eq_true (show((t+1:Nat):Int)>0 by omega),cond_true,decide_eq_true (by omega),A8]
    have hd:n / 128 ^ (t+1)<=n:=Nat.div_le_self _ _
    rw[Ad3 _ (by omega),Aqx _ (by omega),w8,w64 (by omega) (by omega),ht]
    have e1:(((t+1:Nat):Int) - 1).toNat=t:=by omega
    rw[hk _ ⟨t,_,by congr 1;omega,by omega,by rw[List.length_append,List.length_singleton];omega⟩ (by show(((t+1:Nat):Int) - 1).toNat<((t+1:Nat):Int).toNat;omega)]
    show fin ((l++_)++ints (Xw (n / 128) (((t+1:Nat):Int) - 1).toNat))=fin (l++ints ((n / 128 / 128 ^ t % 128+128)::Xw (n / 128) t))
    rw[e1,div_pow,List.append_assoc]
    congr 2
    show _=((n / 128 / 128 ^ t % 128+128:Nat):Int)::ints (Xw (n / 128) t)
    rw[show(((n / 128 / 128 ^ t % 128+128:Nat):Int)) % 256=((n / 128 / 128 ^ t % 128+128:Nat):Int) by omega]
    rfl
theorem xY (N:Nat) (l:List Int) (n:Nat) (hn:n<34359738368) (hN:16<N) (hl:l.length<=1000000):Yz N l (n:Int)=some (l++ints (Vd n)):=by
  unfold Yz
  have hc:cnt (n / 128)<=4:=cnt_le 4 _ (by omega)
  have h1:=AoD 4 (n / 128) (by omega)
  rw[AoK N n l hn hN]
  dsimp only[U2]
  rw[w64 (by omega) (by omega),show((1+cnt (n / 128):Nat):Int) - 1=((cnt (n / 128):Nat):Int) by omega,Aj6 N n hn hN _ _ _ (by omega) (by omega),h1]
  have hlen:(l++ints (hi (n / 128))).length<=1000004:=by
    rw[List.length_append,DY]
    show l.length+cnt (n / 128)<=_
    omega
  rw[decide_eq_true (by omega),A8,Ad3 _ (by omega),w8,show(((n % 128:Nat):Int)) % 256=((n % 128:Nat):Int) by omega,List.append_assoc]
  unfold Vd ints
  rw[List.map_append]
  rfl
theorem Aqs: ∀(k m:Nat),m<128 ^ k-> ∀ x∈hi m,x<256:=by
  intro k
  induction k with
  | zero =>
    intro m h x hx
    rw[Nat.pow_zero]at h
    rw[show m=0 by omega,Aec]at hx
    cases hx
  | succ k ih =>
    intro m h x hx
    by_cases h0:m=0
    ·rw[h0,Aec]at hx;cases hx
    ·rw[Aml h0,List.mem_append,List.mem_singleton]at hx
     rcases hx with hx | rfl
     ·exact ih _ (by rw[Nat.pow_succ]at h;omega) x hx
     ·omega
theorem AgJ (n:Nat) (h:n<34359738368): ∀ x∈Vd n,x<256:=by
  intro x hx
  unfold Vd at hx
  rw[List.mem_append,List.mem_singleton]at hx
  rcases hx with hx | rfl
  ·exact Aqs 5 _ (by omega) x hx
  ·omega
theorem ZN (n:Nat) (h:n<34359738368):(Vd n).length<=5:=by
  unfold Vd
  rw[List.length_append]
  have:=cnt_le 4 (n / 128) (by omega)
  unfold cnt at this
  simp only[List.length_singleton];omega
def gQ (l:List Nat):List Nat:=Vd (40*l.getD 0 0+l.getD 1 0)++(l.drop 2).flatMap Vd
def encR:Option (List Nat)->Bs×Int
  | none=>([],11)
  | some l=>((gQ l).map UInt8.ofNat,0)
theorem YI {s:Bs} {l:List Nat} (h:FM s=some l):2<=l.length/\l.length<=12/\(∀ x∈l,x<=2147483647)/\Nv l=true:=by
  unfold FM at h
  split at h
  ·cases h
  ·cases hm:Iu KF (BI 46 s)with
   | none=>rw[hm]at h;cases h
   | some r =>
     rw[hm]at h
     dsimp only at h
     split at h
     ·rename_i hr
      injection h with h;subst h
      have hl:=sN hm
      refine⟨by omega,by omega,fun x hx=> ?_,hr⟩
      obtain⟨a,_,ha⟩:=Am6 hm x hx
      exact AnH ha
     ·cases h
theorem rD {l:List Nat} (h1:2<=l.length) (h2: ∀ x∈l,x<=2147483647) (h3:Nv l=true):40*l.getD 0 0+l.getD 1 0<34359738368/\l.getD 0 0<=2/\l.getD 1 0<=2147483647:=by
  have:=h2 (l.getD 1 0) (by rw[getD_lt l 1 0 (by omega)];exact List.getElem_mem _)
  unfold Nv at h3
  simp only[Bool.or_eq_true,Bool.and_eq_true,decide_eq_true_eq]at h3
  omega
theorem Akl {l:List Nat} (h: ∀ x∈l,x<256):(ints l).all Vm.isByte=true/\(ints l).map Vm.byteOf=l.map UInt8.ofNat:=by
  constructor
  ·rw[List.all_eq_true]
   intro x hx
   obtain⟨n,hn,rfl⟩:=List.mem_map.1 hx
   have:=h n hn
   unfold Vm.isByte
   simp only[Bool.and_eq_true,decide_eq_true_eq]
   omega
  ·unfold ints
   rw[List.map_map]
   rfl
theorem AnY {l:List Nat} (h1:2<=l.length) (h2: ∀ x∈l,x<=2147483647) (h3:Nv l=true): ∀ x∈gQ l,x<256:=by
  intro x hx
  unfold gQ at hx
  rw[List.mem_append]at hx
  rcases hx with hx | hx
  ·exact AgJ _ (rD h1 h2 h3).1 x hx
  ·obtain⟨n,hn,hx⟩:=List.mem_flatMap.1 hx
   have:=h2 n (List.mem_of_mem_drop hn)
   exact AgJ n (by omega) x hx
theorem VO (l:List Nat) (i:Nat):(ints l).getD i 0=((l.getD i 0:Nat):Int):=by
  unfold ints
  by_cases h:i<l.length
  ·rw[getD_lt _ _ _ (by rw[List.length_map];exact h),getD_lt _ _ _ h,List.getElem_map]
  ·rw[List.getD_eq_getElem?_getD,List.getD_eq_getElem?_getD,List.getElem?_eq_none (by rw[List.length_map];omega),List.getElem?_eq_none (by omega)];rfl
theorem Amt (l:List Nat):AB (ints l) 2 (ints l).length=ints (l.drop 2):=by
  unfold AB ints
  rw[List.take_length,List.map_drop]
theorem rV (a b:List Nat):ints (a++b)=ints a++ints b:=by unfold ints;rw[List.map_append]
theorem AjU (f:Nat->List Nat): ∀(l:List Nat) (a:List Int),l.foldl (fun a n=>a++ints (f n)) a=a++ints (l.flatMap f):=by
  intro l
  induction l with
  | nil=>intro a;show a=a++[];rw[List.append_nil]
  | cons x r ih =>
    intro a
    rw[List.foldl_cons,ih,List.flatMap_cons,rV,List.append_assoc]
theorem Amh (f:Nat->List Nat) (k:Nat): ∀(l:List Nat),(∀ x∈l,(f x).length<=k)->(l.flatMap f).length<=k*l.length:=by
  intro l
  induction l with
  | nil=>intro _;exact Nat.zero_le _
  | cons x r ih =>
    intro h
    rw[List.flatMap_cons,List.length_append,List.length_cons,Nat.mul_succ]
    have:=ih (fun y hy=>h y (List.mem_cons_of_mem _ hy))
    have:=h x List.mem_cons_self
    omega
theorem AmW {X E S ρ :Type} {g:S->E->S} {e:E} {s:S} {b:(X->Option ρ)->Option ρ} {nx:S->X} {I:S->Prop} (h:(∀ k,b k=k (nx (g s e)))/\I (g s e)):jY b nx I (TE some g (none:Option ρ) e s):=h
theorem Ak7 {α :Type}: ∀ l:List α,Iu some l=some l:=by
  intro l
  induction l with
  | nil=>rfl
  | cons a r ih=>rw[VU,ih];rfl
theorem aH (N:Nat) (s:Bs) (hN:16<N) (hs:s.length<=1048576):Px N s=some (encR (FM s)):=by
  unfold Px
  rw[oK N s hN hs,Ae]
  cases ha:FM s with
  | none=>rfl
  | some l =>
    obtain⟨h1,h2,h3,h4⟩:=YI ha
    have hf:=rD h1 h3 h4
    show(bif (ints l).isEmpty then _ else _)=_
    rw[show Apy (some l)=ints l from rfl,show(ints l).isEmpty=false by rw[List.isEmpty_eq_false_iff_exists_mem];exact⟨_,List.mem_map.2 ⟨l.getD 0 0,by rw[getD_lt l 0 0 (by omega)];exact List.getElem_mem _,rfl⟩⟩,cond_false,DY,decide_eq_true (by omega),A8,decide_eq_true (by omega),A8,VO,VO]
    rw[w64 (x:=40*((l.getD 0 0:Nat):Int)) (by omega) (by omega),w64 (by omega) (by omega),show(40:Int)*((l.getD 0 0:Nat):Int)+((l.getD 1 0:Nat):Int)=((40*l.getD 0 0+l.getD 1 0:Nat):Int) by omega]
    dsimp only
    rw[xY N [] _ hf.1 hN (Nat.zero_le _),Ae]
    rw[decide_eq_true (by omega),A8,<- DY l,Amt]
    generalize hd:l.drop 2=d
    have hdl:d.length<=10:=by rw[<- hd,List.length_drop];omega
    have hdm: ∀ x∈d,x<=2147483647:=fun x hx=>h3 x (List.mem_of_mem_drop (hd▸hx))
    refine Eq.trans (JL (S:=List Int) (mk:=fun i a=>(i,a)) (out:=fun a=>a) d 0 (fun i a=>a.length<=5*(i+1)) (TE some (fun a n=>a++ints (Vd n)) none) ?_ ?_ N _ (by rw[List.nil_append,DY];have:=ZN _ hf.1;omega) (by omega)) ?_
    ·intro i a hi ha
     rw[getD_lt d i 0 hi]
     have hn:=hdm d[i] (List.getElem_mem hi)
     refine AmW ⟨fun k=> ?_,?_⟩
     ·dsimp only[U2]
      rw[DY,decide_eq_true (by omega),cond_true,decide_eq_true (by omega),A8,A8,show((i:Int)).toNat=i by omega,VO,getD_lt d i 0 hi,xY N a _ (by omega) hN (by omega),Ae,w64 (by omega) (by omega)]
     ·have:=ZN d[i] (by omega)
      rw[List.length_append,DY];omega
    ·intro a k ha
     dsimp only[U2]
     rw[DY,decide_eq_false (by omega),cond_false]
    ·rw[AeX,Ak7]
     dsimp only[Option.elim]
     rw[AjU,List.nil_append,<- rV]
     have hb:=Akl (AnY h1 h3 h4)
     unfold gQ at hb
     rw[hd]at hb
     rw[hb.1,hb.2,A8]
     show _=some ((gQ l).map UInt8.ofNat,0)
     unfold gQ
     rw[hd]
theorem zO (N:Nat) (s:Bs) (hN:16<N) (hs:s.length<=1048576) (hl:s.length+1<N):BF N s=some (FM s).isSome/\Y5 N s=some (FM s).isSome:=by
  unfold BF Y5
  rw[oK N s hN hs,Abi N s hN hs hl,Ae,Ae]
  cases ha:FM s with
  | none=>exact⟨rfl,rfl⟩
  | some l =>
    obtain⟨h1,h2,h3,h4⟩:=YI ha
    refine⟨?_,rfl⟩
    show some (!(ints l).isEmpty)=_
    rw[show(ints l).isEmpty=false by rw[List.isEmpty_eq_false_iff_exists_mem];exact⟨_,List.mem_map.2 ⟨l.getD 0 0,by rw[getD_lt l 0 0 (by omega)];exact List.getElem_mem _,rfl⟩⟩]
    rfl
abbrev dd (n:Nat):Bs:=Lib.decDigits n
theorem AdH {n:Nat} (h:n<10):dd n=[UInt8.ofNat (48+n)]:=Lib.decDigits_one h
theorem Agw {n:Nat} (h: ¬ n<10):dd n=dd (n / 10)++[UInt8.ofNat (48+n % 10)]:=by
  show Lib.decDigits n=_
  rw[Lib.decDigits,dif_neg h]
theorem Aqk (n:Nat):dd n≠ []:=by
  by_cases h:n<10
  ·rw[AdH h];simp
  ·rw[Agw h];simp
theorem Apc (k n:Nat) (h:n<10 ^ (k+1)):1<=(dd n).length/\(dd n).length<=k+1:=by
  constructor
  ·exact List.length_pos_iff.2 (Aqk n)
  ·induction k generalizing n with
   | zero=>rw[AdH (by simpa using h)];exact Nat.le_refl _
   | succ k ih =>
     by_cases h1:n<10
     ·rw[AdH h1];simp
     ·rw[Agw h1,List.length_append,List.length_singleton]
      have:=ih (n / 10) (by rw[Nat.pow_succ]at h;omega)
      omega
theorem AnD (N n:Nat) (h:n<10000000000):strconv_Itoa N (n:Int)=some (dd n):=by
  unfold strconv_Itoa
  rw[decide_eq_true (by omega),decide_eq_true (by omega)]
  show some (Lib.itoa (n:Int))=_
  unfold Lib.itoa
  rw[if_neg (by omega)]
  rfl
def F8 (lim:Nat):Bs->Nat->Bool->List Nat->Option (List Nat)
  | [],_,mid,acc=>if mid=true then none else some acc
  | b::r,cur,mid,acc =>
    if mid=false/\b.toNat=128 then none
    else if lim<cur*128+b.toNat % 128 then none
    else if 128<=b.toNat then F8 lim r (cur*128+b.toNat % 128) true acc
    else F8 lim r 0 false (acc++[cur*128+b.toNat % 128])
theorem IP (lim:Nat) (b:UInt8) (r:Bs) (cur:Nat) (mid:Bool) (acc:List Nat):F8 lim (b::r) cur mid acc=if mid=false/\b.toNat=128 then none
    else if lim<cur*128+b.toNat % 128 then none
    else if 128<=b.toNat then F8 lim r (cur*128+b.toNat % 128) true acc
    else F8 lim r 0 false (acc++[cur*128+b.toNat % 128]):=rfl
theorem or7 (t b:Nat) (ht:t<36028797018963968) (hb:b<128):Bi .or .i64 (((t*128:Nat)):Int) (b:Int)=((t*128+b:Nat):Int):=by
  have e: ∀ n:Nat,n<2 ^ 64->(BitVec.ofInt 64 (n:Int))=BitVec.ofNat 64 n:=fun n _=>by simp
  show i64.wrap _=_
  rw[show(BitVec.ofInt (i64).bits ((t*128:Nat):Int))=BitVec.ofNat 64 (t*128)from e _ (by omega),show(BitVec.ofInt (i64).bits ((b:Nat):Int))=BitVec.ofNat 64 b from e _ (by omega)]
  show i64.wrap (((BitVec.ofNat 64 (t*128)) ||| (BitVec.ofNat 64 b)).toNat:Int)=_
  rw[BitVec.toNat_or,BitVec.toNat_ofNat,BitVec.toNat_ofNat,Nat.mod_eq_of_lt (by omega),Nat.mod_eq_of_lt (by omega)]
  rw[show t*128=t <<< 7 by rw[Nat.shiftLeft_eq],<- Nat.shiftLeft_add_eq_or_of_lt (by omega:b<2 ^ 7),Nat.shiftLeft_eq]
  exact w64 (by omega) (by omega)
def numO:Option (List Nat)->Option (List Int)
  | none=>some []
  | some l=>some (ints l)
theorem AmE (v:Nat) (hv:v<=4294967294) (b:UInt8):Bi BinOp.or i64 (i64.wrap ((v:Int)*128)) (Bi BinOp.and i64 (i64.wrap (b.toNat:Int)) 127)=((v*128+b.toNat % 128:Nat):Int):=by
  have:=aA b
  rw[w64 (x:=(b.toNat:Int)) (by omega) (by omega),Ad3 _ (by omega),w64 (by omega) (by omega),show(v:Int)*128=((v*128:Nat):Int) by omega,or7 _ _ (by omega) (by omega)]
theorem AmD {ρ :Type} (N:Nat) (s:Bs) (hN:s.length+1<N) (hs:s.length<=1048576) (G:Option (List Nat)->Option ρ) (kx:Int×List Int->Option ρ) (bad:Option ρ) (hbad:G none=bad)
    (i:Nat) (acc:List Nat) (hi:i<=s.length) (ha:acc.length<=i)
    (hk: ∀(j:Nat) (a:List Nat),i<j->j<=s.length->a.length<=j->kx ((j:Int),ints a)=G (F8 4294967294 (s.drop j) 0 false a)) :
    Am (X:=Int×Int×List Int) (Y:=(Int×List Int) ⊕ Unit) (U3 fun t4b t5b l1004096b k3 x4 =>
              bif decide (t4b< ↑(List.length s))then
                Vm.chk (decide (0<=t4b))
                  (Vm.chk (decide (t4b< ↑(List.length s)))
                    (bif
                        decide
                          (Bi BinOp.or i64 (i64.wrap (t5b*128))
                            (Bi BinOp.and i64 (i64.wrap ↑(List.getD s t4b.toNat 0).toNat)
                              127) >
                            4294967294)then
                      bad
                    else
                      bif decide (i64.wrap ↑(List.getD s t4b.toNat 0).toNat<128)then
                        Vm.chk (decide ((l1004096b.length+1)*9<=140737488355328))
                          (x4
                            (Sum.inl
                              (i64.wrap (t4b+1),
                                l1004096b ++
                                  [Bi BinOp.or i64 (i64.wrap (t5b*128))
                                    (Bi BinOp.and i64
                                      (i64.wrap ↑(List.getD s t4b.toNat 0).toNat) 127)])))
                      else
                        k3
                          (i64.wrap (t4b+1),
                            Bi BinOp.or i64 (i64.wrap (t5b*128))
                             (Bi BinOp.and i64 (i64.wrap ↑(List.getD s t4b.toNat 0).toNat)
                               127),
                            l1004096b)))
              else x4 (Sum.inr ())) N ((i:Int),0,ints acc) (Sum.elim (U2 fun t4c l42240c=>kx (t4c,l42240c)) fun x=>bad)=G (F8 4294967294 (s.drop i) 0 true acc):=by
  refine Eq.trans (Jb (I:=fun x:Int×Int×List Int=> ∃(j v:Nat),x=((j:Int),(v:Int),ints acc)/\i<=j/\j<=s.length/\v<=4294967294) (μ :=fun x=>s.length - x.1.toNat) (F:=fun x=>G (F8 4294967294 (s.drop x.1.toNat) x.2.1.toNat true acc)) ?_ N _ ⟨i,0,rfl,Nat.le_refl _,hi,by omega⟩ (by show s.length - ((i:Int)).toNat<N;omega)) ?_
  ·rintro x ⟨j,v,rfl,h1,h2,h3⟩ k hk2
   dsimp only[U3]
   rw[show((j:Int)).toNat=j by omega,show((v:Int)).toNat=v by omega]
   by_cases hl:j<s.length
   ·have hg:s.getD j 0=s[j]:=getD_lt s j 0 hl
    have hb:=aA s[j]
    rw[hg,AmE v h3,List.drop_eq_getElem_cons hl,IP,if_neg (fun h=>by cases h.1),decide_eq_true (by omega),cond_true,decide_eq_true (by omega),A8,A8]
    by_cases hv:4294967294<v*128+s[j].toNat % 128
    ·rw[if_pos hv,decide_eq_true (by omega),cond_true,hbad]
    ·rw[if_neg hv,decide_eq_false (by omega),cond_false,w64 (x:=(s[j].toNat:Int)) (by omega) (by omega),w64 (by omega) (by omega)]
     by_cases hc:128<=s[j].toNat
     ·rw[if_pos hc,decide_eq_false (by omega),cond_false,show((j:Int)+1)=((j+1:Nat):Int)from rfl,hk2 _ ⟨j+1,_,rfl,by omega,by omega,by omega⟩ (by show s.length - ((j+1:Nat):Int).toNat<s.length - ((j:Int)).toNat;omega)]
      show G (F8 _ (s.drop ((j+1:Nat):Int).toNat) ((v*128+s[j].toNat % 128:Nat):Int).toNat true acc)=_
      rw[show((j+1:Nat):Int).toNat=j+1 by omega,show((v*128+s[j].toNat % 128:Nat):Int).toNat=v*128+s[j].toNat % 128 by omega]
     ·rw[if_neg hc,decide_eq_true (by omega),cond_true,DY,decide_eq_true (by omega),A8]
      show kx ((j:Int)+1,ints acc++ints [v*128+s[j].toNat % 128])=_
      rw[<- rV]
      exact hk (j+1) _ (by omega) (by omega) (by rw[List.length_append,List.length_singleton];omega)
   ·rw[decide_eq_false (by omega),cond_false,show j=s.length by omega,List.drop_length]
    show bad=G none
    exact hbad.symm
  ·show G (F8 _ (s.drop ((i:Int)).toNat) (0:Int).toNat true acc)=_
   rw[show((i:Int)).toNat=i by omega]
   rfl
theorem AaV (N:Nat) (s:Bs) (hs:s.length<=1048576) (hN:s.length+1<N):QL N s=numO (F8 4294967294 s 0 false []):=by
  unfold QL
  refine Eq.trans (Jb (I:=fun x:Int×List Int=> ∃(j:Nat) (a:List Nat),x=((j:Int),ints a)/\j<=s.length/\a.length<=j) (μ :=fun x=>s.length - x.1.toNat) (F:=fun x=>numO (F8 4294967294 (s.drop x.1.toNat) 0 false (x.2.map Int.toNat))) ?_ N _ ⟨0,[],rfl,Nat.zero_le _,Nat.zero_le _⟩ (by show s.length - 0<N;omega)) rfl
  rintro x ⟨j,a,rfl,h1,h2⟩ k hk
  dsimp only[U2]
  have hmap: ∀ a:List Nat,(ints a).map Int.toNat=a:=by
    intro a
    unfold ints
    rw[List.map_map]
    exact(List.map_congr_left fun x _=>by rfl).trans (List.map_id _)
  rw[show((j:Int)).toNat=j by omega,hmap]
  by_cases hl:j<s.length
  ·have hg:s.getD j 0=s[j]:=getD_lt s j 0 hl
   have hb:=aA s[j]
   rw[hg,decide_eq_true (by omega),cond_true,decide_eq_true (by omega),A8,A8]
   by_cases h8:s[j].toNat=128
   ·rw[List.drop_eq_getElem_cons hl,IP,if_pos ⟨rfl,h8⟩,h8]
    rfl
   ·have hbe:(((s[j].toNat:Nat):Int)==128)=false:=by
      apply Bool.eq_false_iff.2
      intro h
      have:=eq_of_beq h
      omega
    rw[hbe,cond_false]
    have he:F8 4294967294 (s.drop j) 0 false a=F8 4294967294 (s.drop j) 0 true a:=by
      rw[List.drop_eq_getElem_cons hl,IP,IP]
      simp only[h8,and_false,if_false]
    rw[he]
    refine AmD N s hN hs numO k (some []) rfl j a h1 h2 ?_
    intro i a' hi1 hi2 ha'
    rw[hk _ ⟨i,a',rfl,hi2,ha'⟩ (by show s.length - ((i:Int)).toNat<s.length - ((j:Int)).toNat;omega)]
    show numO (F8 _ (s.drop ((i:Int)).toNat) 0 false ((ints a').map Int.toNat))=_
    rw[hmap,show((i:Int)).toNat=i by omega]
  ·rw[decide_eq_false (by omega),cond_false,show j=s.length by omega,List.drop_length]
   rfl
