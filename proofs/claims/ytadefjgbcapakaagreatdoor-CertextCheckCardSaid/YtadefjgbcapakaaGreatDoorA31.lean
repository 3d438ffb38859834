/-
  CertextCheck: the law returns true whatever the input; machine, functions, plain law (part 31 of 47.)
-/
import Derived.Test.YtadefjgbcapakaaGreatDoorA30
import Derived.Lib.SplitLaws
set_option linter.unusedVariables false
set_option linter.unusedSimpArgs false
namespace Go.Proofs.YtadefjgbcapakaaGreatDoor.Vm
open IntKind (i64)
open Go
def Bo (c:UInt8):Bs→List Bs
  | []=>[[]]
  | b::r=>if b=c then []::Bo c r else match Bo c r with
    | []=>[[b]]
    | h::t=>(b::h)::t
theorem Ac4 (c:UInt8) (s:Bs):Bo c s≠ []:=by
  cases s with
  | nil=>simp [Bo]
  | cons b r =>
    unfold Bo
    split
    ·simp
    ·split<;>simp
theorem QU (c b:UInt8) (r:Bs) (h:b≠c):Bo c (b::r)=(b::(Bo c r).headD [])::(Bo c r).tail:=by
  have hn:=Ac4 c r
  show(if b=c then _ else _)=_
  rw[if_neg h]
  cases hs:Bo c r with
  | nil=>exact absurd hs hn
  | cons x t=>rfl
theorem Lp (c:UInt8): ∀(a r:Bs),c∉a→Bo c (a++c::r)=a::Bo c r:=by
  intro a
  induction a with
  | nil =>
    intro r _
    show(if c=c then _ else _)=_
    rw[if_pos rfl]
  | cons b a ih =>
    intro r h
    have hb:b≠c:=fun e=>h (by rw[e];exact List.mem_cons_self)
    have:=ih r (fun hm=>h (List.mem_cons_of_mem _ hm))
    show Bo c (b::(a++c::r))=_
    rw[QU _ _ _ hb,this]
    rfl
theorem QV (c:UInt8): ∀ a:Bs,c∉a→Bo c a=[a]:=by
  intro a
  induction a with
  | nil=>intro _;rfl
  | cons b a ih =>
    intro h
    have hb:b≠c:=fun e=>h (by rw[e];exact List.mem_cons_self)
    rw[QU _ _ _ hb,ih (fun hm=>h (List.mem_cons_of_mem _ hm))]
    rfl
theorem index_none (c:UInt8): ∀ s:Bs,c∉s→Lib.index s [c]= -1:=by
  intro s
  induction s with
  | nil=>intro _;rfl
  | cons b r ih =>
    intro h
    have hb: ¬ c=b:=fun e=>h (by rw[e];exact List.mem_cons_self)
    have h2:=ih (fun hm=>h (List.mem_cons_of_mem _ hm))
    show(if List.isPrefixOf [c] (b::r)=true then(0:Int)else if Lib.index r [c]== -1 then -1 else Lib.index r [c]+1)= -1
    rw[h2,if_neg (by simp [List.isPrefixOf,hb])]
    rfl
theorem uI (c:UInt8): ∀(a r:Bs),c∉a→Lib.index (a++c::r) [c]=(a.length:Int):=by
  intro a
  induction a with
  | nil =>
    intro r _
    show(if List.isPrefixOf [c] (c::r)=true then(0:Int)else _)=_
    rw[if_pos (by simp [List.isPrefixOf])]
    rfl
  | cons b a ih =>
    intro r h
    have hb: ¬ c=b:=fun e=>h (by rw[e];exact List.mem_cons_self)
    have h2:=ih r (fun hm=>h (List.mem_cons_of_mem _ hm))
    show(if List.isPrefixOf [c] (b::(a++c::r))=true then(0:Int)else if Lib.index (a++c::r) [c]== -1 then -1 else Lib.index (a++c::r) [c]+1)=_
    rw[h2,if_neg (by simp [List.isPrefixOf,hb]),if_neg (by simp)]
    simp
theorem Ri (c:UInt8) (s:Bs):c∉s∨ ∃ a r,s=a++c::r∧c∉a:=by
  induction s with
  | nil=>left;simp
  | cons b t ih =>
    by_cases hb:b=c
    ·right;exact⟨[],t,by rw[hb];rfl,by simp⟩
    ·rcases ih with h | ⟨a,r,h1,h2⟩
     ·left
      intro hm
      rcases List.mem_cons.1 hm with h3 | h3
      ·exact hb h3.symm
      ·exact h h3
     ·right
      refine⟨b::a,r,by rw[h1];rfl,fun hm=> ?_⟩
      rcases List.mem_cons.1 hm with h3 | h3
      ·exact hb h3.symm
      ·exact h2 h3
theorem AkS (c:UInt8): ∀(n:Nat) (s:Bs),s.length≤n→Lib.splitK [c] 0 (Lib.count s [c]) s=Bo c s:=by
  intro n
  induction n with
  | zero =>
    intro s h
    have:s=[]:=List.eq_nil_of_length_eq_zero (by omega)
    subst this
    rfl
  | succ n ih =>
    intro s h
    rcases Ri c s with hn | ⟨a,r,rfl,ha⟩
    ·rw[Lib.count_miss (index_none c s hn),QV c s hn];rfl
    ·have hi:=uI c a r ha
     rw[Lib.count_hit (by simp) hi,Nat.add_comm]
     show(if Lib.index (a++c::r) [c]== -1 then _ else _)=_
     rw[hi,if_neg (by simp),Lp c a r ha]
     have e1:(a++c::r).take ((a.length:Int).toNat+0)=a:=by simp
     have e2:(a++c::r).drop ((a.length:Int).toNat+ [c].length)=r:=by
       rw[show((a.length:Int).toNat+ [c].length)=a.length+1 from by simp]
       rw[← List.drop_drop,List.drop_left]
       rfl
     have e3:(a++c::r).drop (a.length+ [c].length)=r:=by
       rw[show(a.length+ [c].length)=a.length+1 from by simp, ←List.drop_drop,List.drop_left]
       rfl
     rw[e1,e2,e3,ih r (by simp at h;omega)]
theorem Agd (c:UInt8) (s:Bs):Lib.split s [c]=Bo c s:=AkS c s.length s (Nat.le_refl _)
theorem PR (c:UInt8): ∀ s:Bs,(Bo c s).length≤s.length+1∧0<(Bo c s).length∧ ∀ x∈Bo c s,x.length≤s.length:=by
  intro s
  induction s with
  | nil=>exact⟨by simp [Bo],by simp [Bo],by intro x hx;simp [Bo]at hx;simp [hx]⟩
  | cons b r ih =>
    obtain⟨h1,h2,h3⟩:=ih
    by_cases hb:b=c
    ·have e:Bo c (b::r)=[]::Bo c r:=by show(if b=c then _ else _)=_;rw[if_pos hb]
     rw[e]
     refine⟨by simp;omega,by simp,fun x hx=> ?_⟩
     rcases List.mem_cons.1 hx with rfl | hx
     ·simp
     ·have:=h3 x hx;simp;omega
    ·rw[QU _ _ _ hb]
     cases hs:Bo c r with
     | nil=>rw[hs]at h2;simp at h2
     | cons y t =>
       rw[hs]at h1 h3
       refine⟨by simp at h1 ⊢;omega,by simp,fun x hx=> ?_⟩
       rcases List.mem_cons.1 hx with rfl | hx
       ·have:=h3 y List.mem_cons_self;simp;omega
       ·have:=h3 x (List.mem_cons_of_mem _ hx);simp;omega
end Go.Proofs.YtadefjgbcapakaaGreatDoor.Vm
namespace Go.Proofs.YtadefjgbcapakaaGreatDoor.Pl
open IntKind (i64)
open Go Vm
def Dn (c:UInt8):Bool:=decide (48≤c.toNat)&&decide (c.toNat≤57)
def EM (d:Bs):Nat:=d.foldl (fun v c=>10*v+(c.toNat - 48)) 0
theorem AbU (d:Bs) (c:UInt8):EM (d++[c])=10*EM d+(c.toNat - 48):=by simp [EM,List.foldl_append]
theorem Al5: ∀(d:Bs) (v k:Nat),d.all Dn=true→v<10 ^ k→d.foldl (fun v c=>10*v+(c.toNat - 48)) v<10 ^ (k+d.length):=by
  intro d
  induction d with
  | nil=>intro v k _ h;exact h
  | cons c d ih =>
    intro v k h hv
    rw[List.all_cons,Bool.and_eq_true]at h
    have h2:=h.1
    unfold Dn at h2
    simp only[Bool.and_eq_true,decide_eq_true_eq]at h2
    have:=ih (10*v+(c.toNat - 48)) (k+1) h.2 (by rw[Nat.pow_succ];omega)
    rw[List.length_cons,show k+(d.length+1)=k+1+d.length by omega]
    exact this
theorem Ahq (d:Bs) (h:d.all Dn=true):EM d<10 ^ d.length:=by
  have:=Al5 d 0 0 h (by decide)
  rwa [Nat.zero_add]at this
def wW (d:Bs):Bool:= !(decide (d.length=0)||decide (10<d.length)||(decide ((d.getD 0 0).toNat=48)&&decide (1<d.length)))&&(d.all Dn&&decide (EM d≤2147483647))
def Ko (d:Bs):Option Nat:=if wW d then some (EM d)else none
def Ajc:Option Nat→Int
  | none=> -1
  | some n=>n
theorem AeA {c:Nat} (h1:48≤c) (h2:c≤57):i64.wrap (IntKind.u8.wrap ((c:Int) - 48))=((c - 48:Nat):Int):=by
  rw[w8,w64 (by omega) (by omega)];omega
theorem Aln {ρ :Type} (N:Nat) (s:Bs) (hs:s.length≤10) (hN:10<N) (bad:Option ρ) (fin:Int→Option ρ) :
    Ak (X:=Int×Int) (Y:=Int) (U2 fun t3a t4a k7 x8 =>
     bif decide (t4a<(s.length:Int))then Vm.chk (decide ((0:Int)≤t4a)) (Vm.chk (decide (t4a<(s.length:Int)))
       (Vm.chk (decide ((0:Int)≤t4a)||decide (((s.getD t4a.toNat 0).toNat:Int)<(48:Int)))
         (Vm.chk (decide (t4a<(s.length:Int))||decide (((s.getD t4a.toNat 0).toNat:Int)<(48:Int)))
           (bif decide (((s.getD t4a.toNat 0).toNat:Int)<(48:Int))||decide (((s.getD t4a.toNat 0).toNat:Int)>(57:Int))then bad
            else Vm.chk (decide ((0:Int)≤t4a)) (Vm.chk (decide (t4a<(s.length:Int)))
             (k7 (i64.wrap ((i64.wrap ((10:Int)*t3a))+i64.wrap (IntKind.u8.wrap (((s.getD t4a.toNat 0).toNat:Int) - (48:Int)))),i64.wrap (t4a+(1:Int)))))))))
     else x8 t3a) N (0,0) fin=if s.all Dn=true then fin ((EM s:Nat):Int)else bad:=by
  refine Fe (I:=fun x=> ∃ i:Nat,x=(((EM (s.take i):Nat):Int),(i:Int))∧i≤s.length∧(s.take i).all Dn=true) (μ :=fun x=>s.length - x.2.toNat) (fun _=>if s.all Dn=true then fin ((EM s:Nat):Int)else bad) ?_ N (0,0) ⟨0,rfl,by omega,rfl⟩ (by show s.length - 0<N;omega)
  rintro x ⟨i,rfl,hi,hd⟩ k hk
  show(bif decide ((i:Int)<(s.length:Int))then _ else _)=_
  by_cases hl:i<s.length
  ·have hv:=Ahq (s.take i) hd
   have h10:(10:Nat) ^ (s.take i).length≤10 ^ 9:=Nat.pow_le_pow_right (by decide) (by simp;omega)
   have hg:s.getD ((i:Int)).toNat 0=s[i]:=getD_lt s i 0 hl
   rw[decide_eq_true (by omega),cond_true,hg,decide_eq_true (show(0:Int)≤(i:Int) by omega)]
   simp only[Bool.true_or,Aj]
   have htake:s.take (i+1)=s.take i++[s[i]]:=by rw[List.take_add_one,List.getElem?_eq_getElem hl];rfl
   by_cases hc:Dn s[i]=true
   ·have hc':=hc
    unfold Dn at hc'
    simp only[Bool.and_eq_true,decide_eq_true_eq]at hc'
    rw[decide_eq_false (by omega),decide_eq_false (by omega)]
    simp only[Bool.or_self,cond_false]
    rw[AeA hc'.1 hc'.2,w64 (x:=(10:Int)*((EM (s.take i):Nat):Int)) (by omega) (by omega),w64 (x:=(10:Int)*((EM (s.take i):Nat):Int)+_) (by omega) (by omega),w64 (x:=(i:Int)+1) (by omega) (by omega)]
    refine hk _ ⟨i+1,?_,by omega,by rw[htake,List.all_append,hd];simpa using hc⟩ (by show s.length - ((i:Int)+1).toNat<s.length - ((i:Int)).toNat;omega)
    rw[htake,AbU]
    push_cast
    rfl
   ·have hall: ¬(s.all Dn=true):=fun h=>hc (Ahk h hl)
    rw[if_neg hall]
    have:(decide (((s[i].toNat:Nat):Int)<48)||decide (((s[i].toNat:Nat):Int)>57))=true:=by
      unfold Dn at hc
      simp only[Bool.and_eq_true,decide_eq_true_eq]at hc
      simp only[Bool.or_eq_true,decide_eq_true_eq]
      omega
    rw[this,cond_true]
  ·have:i=s.length:=by omega
   subst this
   rw[decide_eq_false (by omega),cond_false]
   rw[List.take_length]at hd
   rw[if_pos hd,List.take_length]
theorem AiV (N:Nat) (s:Bs) (hN:16<N):XY N s=some (Ajc (Ko s)):=by
  unfold XY
  try simp only[clR]
  by_cases h0:s.length=0
  ·have:s=[]:=List.eq_nil_of_length_eq_zero h0
   subst this
   rfl
  ·have hne:(s==([]:Bs))=false:=by cases s with | nil=>exact absurd rfl h0 | cons _ _=>rfl
   rw[hne,decide_eq_true (show(0:Int)<(s.length:Int) by omega)]
   simp only[Bool.false_or,Bool.true_or,Aj]
   unfold Ko wW
   by_cases h1:10<s.length
   ·rw[decide_eq_true (show(s.length:Int)>10 by omega),decide_eq_true h1]
    simp [Aj,Ajc]
   ·rw[decide_eq_false (show ¬((s.length:Int)>10) by omega),decide_eq_false h1,decide_eq_false h0]
    simp only[Bool.or_false,Bool.false_or,Bool.not_false,Bool.true_and,Bool.not_or_self,Aj]
    by_cases h2:(s.getD 0 0).toNat=48∧1<s.length
    ·rw[show(((s.getD 0 0).toNat:Int)==48)=true from by rw[beq_iff_eq];omega,decide_eq_true (show(s.length:Int)>1 by omega),decide_eq_true h2.1,decide_eq_true h2.2]
     rfl
    ·have e:((((s.getD 0 0).toNat:Int)==48)&&decide ((s.length:Int)>1))=false:=by
       rw[Bool.and_eq_false_iff]
       simp only[beq_eq_false_iff_ne,decide_eq_false_iff_not]
       omega
     have e':(decide ((s.getD 0 0).toNat=48)&&decide (1<s.length))=false:=by
       rw[Bool.and_eq_false_iff]
       simp only[decide_eq_false_iff_not]
       omega
     rw[e,e',cond_false]
     refine Eq.trans (Aln N s (by omega) (by omega) _ _) ?_
     by_cases h3:s.all Dn=true
     ·rw[if_pos h3,h3]
      by_cases h4:EM s≤2147483647
      ·rw[decide_eq_false (by omega),decide_eq_true h4];rfl
      ·rw[decide_eq_true (by omega),decide_eq_false h4];rfl
     ·rw[if_neg h3,show s.all Dn=false by simpa using h3];rfl
def Ns (l:List Nat):Bool:=(decide (l.getD 0 0≤1)&&decide (l.getD 1 0≤39))||decide (l.getD 0 0=2)
def DL (s:Bs):Option (List Nat) :=
  if(Bo 46 s).length<2∨12<(Bo 46 s).length then none
  else match I8 Ko (Bo 46 s)with
    | none=>none
    | some l=>if Ns l=true then some l else none
def ints (l:List Nat):List Int:=l.map fun(n:Nat)=>(n:Int)
def AnP:Option (List Nat)→List Int
  | none=>[]
  | some l=>ints l
theorem AmJ {s:Bs} {n:Nat} (h:Ko s=some n):n≤2147483647:=by
  unfold Ko at h
  split at h
  ·rename_i hk
   injection h with h
   unfold wW at hk
   simp only[Bool.and_eq_true,decide_eq_true_eq]at hk
   omega
  ·cases h
theorem AlV {α β :Type} {f: α →Option β}: ∀ {l:List α} {r:List β},I8 f l=some r→ ∀ b∈r,∃ a∈l,f a=some b:=by
  intro l
  induction l with
  | nil=>intro r h b hb;injection h with h;subst h;cases hb
  | cons a t ih =>
    intro r h b hb
    unfold I8 at h
    split at h
    ·rename_i x q h1 h2
     injection h with h;subst h
     rcases List.mem_cons.1 hb with rfl | hb
     ·exact⟨a,List.mem_cons_self,h1⟩
     ·obtain⟨y,h3,h4⟩:=ih h2 b hb
      exact⟨y,List.mem_cons_of_mem _ h3,h4⟩
    ·cases h
theorem AgL (N:Nat) (a b:Nat):Zu N (a:Int) (b:Int)=some ((decide (a≤1)&&decide (b≤39))||decide (a=2)):=by
  unfold Zu
  try simp only[clR]
  have e1:decide ((a:Int)≤1)=decide (a≤1):=by rw[decide_eq_decide];omega
  have e2:decide ((b:Int)≤39)=decide (b≤39):=by rw[decide_eq_decide];omega
  have e3:((a:Int)==2)=decide (a=2):=by rw[Bool.eq_iff_iff,beq_iff_eq,decide_eq_true_eq];omega
  rw[e1,e2,e3]
theorem qV (N:Nat) (s:Bs) (hN:16<N) (hs:s.length≤1048576):UG N s=some (AnP (DL s)):=by
  unfold UG
  try simp only[clR]
  have hsp:strings_Split N s [46]=some (Bo 46 s):=by
    unfold strings_Split
    rw[decide_eq_true (by omega),Agd];rfl
  rw[hsp,Ae]
  unfold DL
  have hlen:=PR 46 s
  generalize hp:Bo 46 s=p at hlen ⊢
  by_cases h1:p.length<2∨12<p.length
  ·rw[if_pos h1,show(decide ((p.length:Int)<2)||decide ((p.length:Int)>12))=true by simp only[Bool.or_eq_true,decide_eq_true_eq];omega]
   rfl
  ·rw[if_neg h1,show(decide ((p.length:Int)<2)||decide ((p.length:Int)>12))=false by simp only[Bool.or_eq_false_iff,decide_eq_false_iff_not];omega,cond_false]
   refine Eq.trans (Ez (S:=List Int) (mk:=fun i a=>(i,a)) (out:=fun a=>a) p [] (fun i a=>a.length=i) (TQ Ko (fun a v=>a++[(v:Int)]) (some [])) ?_ ?_ N [] rfl (by omega)) ?_
   ·intro i a hi ha
    have hg:p.getD ((i:Int)).toNat []=p[i]:=getD_lt p i [] hi
    rw[getD_lt p i [] hi]
    have key: ∀(K:Int→Option (List Int)),(Vm.chk (decide ((0:Int)≤(i:Int))) (Vm.chk (decide ((i:Int)<(p.length:Int))) (Ad (XY N (p.getD ((i:Int)).toNat [])) K)))=K (Ajc (Ko p[i])):=by
      intro K
      rw[decide_eq_true (show(0:Int)≤(i:Int) by omega),decide_eq_true (show(i:Int)<(p.length:Int) by omega),Aj,Aj,hg,AiV N _ hN,Ae]
    refine Amr (fun hv k=> ?_) (fun v hv=>⟨fun k=> ?_,by simp [ha]⟩)
    ·dsimp only[U2]
     rw[key,hv,decide_eq_true (show(i:Int)<(p.length:Int) by omega)]
     rfl
    ·dsimp only[U2]
     rw[key,hv,decide_eq_true (show(i:Int)<(p.length:Int) by omega),cond_true]
     rw[show Ajc (some v)=(v:Int)from rfl,decide_eq_false (show ¬((v:Int)<0) by omega),cond_false,decide_eq_true (show(a.length+1)*9≤140737488355328 by omega),Aj,w64 (by omega) (by omega)]
   ·intro a k ha
    dsimp only[U2]
    rw[decide_eq_false (by omega),cond_false]
   ·rw[Aga]
    cases hm:I8 Ko p with
    | none=>rfl
    | some l =>
      have hl:=vG hm
      have hf:l.foldl (fun(a:List Int) (v:Nat)=>a++[(v:Int)]) []=l.map (fun(v:Nat)=>(v:Int)):=by rw[Ake,List.nil_append]
      dsimp only[Option.elim]
      rw[hf]
      have e1:(l.map (fun(v:Nat)=>(v:Int))).length=l.length:=List.length_map ..
      rw[e1,decide_eq_true (show(0:Int)<(l.length:Int) by omega),decide_eq_true (show 0<l.length by omega),decide_eq_true (show(1:Int)<(l.length:Int) by omega),decide_eq_true (show 1<l.length by omega)]
      simp only[Aj]
      have g0:(l.map (fun(v:Nat)=>(v:Int))).getD 0 0=((l.getD 0 0:Nat):Int):=by
        rw[getD_lt _ 0 0 (by rw[e1];omega),getD_lt _ 0 0 (by omega)];simp
      have g1:(l.map (fun(v:Nat)=>(v:Int))).getD 1 0=((l.getD 1 0:Nat):Int):=by
        rw[getD_lt _ 1 0 (by rw[e1];omega),getD_lt _ 1 0 (by omega)];simp
      rw[g0,g1,AgL,Ae]
      show(bif !(Ns l)then _ else _)=_
      cases Ns l<;>rfl
def WG (cur:Bs) (out:List Nat):Option (List Nat):=if out.length=12 then none else(Ko cur).map fun v=>out++[v]
def KF:Bs→List Nat→Bs→Option (List Nat)
  | cur,out,[]=>WG cur out
  | cur,out,c::r=>if c=46 then(WG cur out).bind fun o=>KF [] o r else if Dn c=true then KF (cur++[c]) out r else none
theorem Ac1 (cur:Bs) (out:List Nat) (r:Bs):KF cur out (46::r)=(WG cur out).bind fun o=>KF [] o r:=if_pos rfl
theorem Acz (cur:Bs) (out:List Nat) (c:UInt8) (r:Bs) (h1:c≠46) (h2: ¬ Dn c=true):KF cur out (c::r)=none:=by
  show(if c=46 then _ else if Dn c=true then _ else _)=_
  rw[if_neg h1,if_neg h2]
theorem Ac0 (cur:Bs) (out:List Nat) (c:UInt8) (r:Bs) (h1:c≠46) (h2:Dn c=true):KF cur out (c::r)=KF (cur++[c]) out r:=by
  show(if c=46 then _ else if Dn c=true then _ else _)=_
  rw[if_neg h1,if_pos h2]
def WH (l:List Nat):Option (List Nat):=if 2≤l.length∧Ns l=true then some l else none
def lC:Option (List Nat)→List Int×Bool
  | none=>([],false)
  | some l=>(ints l,true)
theorem AgV {ρ :Type} (N:Nat) (d:Bs) (out:List Int) (hs:d.length≤10) (hd:d.all Dn=true) (hN:10<N) (fin:Int×List Int→Option ρ) :
    Ak (X:=Int×Int×List Int) (Y:=Int×List Int) (U3 fun t8b t9b l1004096b k11 x12 =>
     bif decide (t9b<(d.length:Int))then Vm.chk (decide (0≤t9b)) (Vm.chk (decide (t9b<(d.length:Int)))
       (k11 (i64.wrap (i64.wrap (10*t8b)+i64.wrap (IntKind.u8.wrap (((d.getD t9b.toNat 0).toNat:Int) - 48))),i64.wrap (t9b+1),l1004096b)))
     else x12 (t8b,l1004096b)) N (0,0,out) fin=fin ((EM d:Nat),out):=by
  refine Fe (I:=fun x=> ∃ i:Nat,x=(((EM (d.take i):Nat):Int),(i:Int),out)∧i≤d.length) (μ :=fun x=>d.length - x.2.1.toNat) (fun _=>fin ((EM d:Nat),out)) ?_ N (0,0,out) ⟨0,rfl,by omega⟩ (by show d.length - 0<N;omega)
  rintro x ⟨i,rfl,hi⟩ k hk
  dsimp only[U3]
  by_cases hl:i<d.length
  ·have hdi:(d.take i).all Dn=true:=List.all_eq_true.2 fun x hx=>List.all_eq_true.1 hd x (List.mem_of_mem_take hx)
   have hv:=Ahq (d.take i) hdi
   have h10:(10:Nat) ^ (d.take i).length≤10 ^ 9:=Nat.pow_le_pow_right (by decide) (by simp;omega)
   have hg:d.getD ((i:Int)).toNat 0=d[i]:=getD_lt d i 0 hl
   have htake:d.take (i+1)=d.take i++[d[i]]:=by rw[List.take_add_one,List.getElem?_eq_getElem hl];rfl
   have hc:=Ahk hd hl
   unfold Dn at hc
   simp only[Bool.and_eq_true,decide_eq_true_eq]at hc
   rw[decide_eq_true (by omega),cond_true,hg,decide_eq_true (show(0:Int)≤(i:Int) by omega),Aj,Aj]
   rw[AeA hc.1 hc.2,w64 (x:=(10:Int)*((EM (d.take i):Nat):Int)) (by omega) (by omega),w64 (x:=(10:Int)*((EM (d.take i):Nat):Int)+_) (by omega) (by omega),w64 (x:=(i:Int)+1) (by omega) (by omega)]
   refine hk _ ⟨i+1,?_,by omega⟩ (by show d.length - ((i:Int)+1).toNat<d.length - ((i:Int)).toNat;omega)
   rw[htake,AbU]
   push_cast
   rfl
  ·have:i=d.length:=by omega
   subst this
   rw[decide_eq_false (by omega),cond_false,List.take_length]
theorem Alm {d:Bs} (hd:d.all Dn=true):Ko d=if d.length=0∨10<d.length∨((d.getD 0 0).toNat=48∧1<d.length)∨2147483647<EM d then none else some (EM d):=by
  unfold Ko wW
  rw[hd]
  by_cases h:d.length=0∨10<d.length∨((d.getD 0 0).toNat=48∧1<d.length)∨2147483647<EM d
  ·rw[if_pos h,if_neg]
   simp only[Bool.and_eq_true,Bool.not_eq_true',Bool.or_eq_false_iff,decide_eq_false_iff_not,Bool.and_eq_false_iff,decide_eq_true_eq]
   omega
  ·rw[if_neg h,if_pos]
   have h1:d.length≠0:=by omega
   have h2: ¬ 10<d.length:=by omega
   have h3:EM d≤2147483647:=by omega
   have h4:(decide ((d.getD 0 0).toNat=48)&&decide (1<d.length))=false:=by
     rw[Bool.and_eq_false_iff,decide_eq_false_iff_not,decide_eq_false_iff_not];omega
   rw[decide_eq_false h1,decide_eq_false h2,decide_eq_true h3,h4];rfl
theorem AmR {d:Bs} (o:List Nat) (hd:d.all Dn=true):WG d o=if(d.length=0∨10<d.length∨((d.getD 0 0).toNat=48∧1<d.length))∨o.length=12∨2147483647<EM d then none else some (o++[EM d]):=by
  unfold WG
  rw[Alm hd]
  by_cases h1:o.length=12
  ·rw[if_pos h1,if_pos (.inr (.inl h1))]
  ·rw[if_neg h1]
   by_cases h2:d.length=0∨10<d.length∨((d.getD 0 0).toNat=48∧1<d.length)∨2147483647<EM d
   ·rw[if_pos h2,if_pos (by omega)];rfl
   ·rw[if_neg h2,if_neg (by omega)];rfl
theorem gU (s:Bs) {a j:Nat} (ha:a≤j) (hj:j<s.length):AO s a (j+1)=AO s a j++[s[j]]:=by
  unfold AO
  rw[List.take_add_one,List.getElem?_eq_getElem hj,List.drop_append_of_le_length (by simp;omega)]
  rfl
theorem Oq {α :Type} (s:List α) (a:Nat):AO s a a=[]:=by
  unfold AO
  exact List.drop_eq_nil_of_le (by simp;omega)
theorem Akn (o:List Nat) (v:Nat):ints o++[(v:Int)]=ints (o++[v]):=by simp [ints]
theorem Df (o:List Nat):(ints o).length=o.length:=List.length_map ..
theorem Anj (o:List Nat):(Vm.chk (decide (0<((ints o).length:Int))||decide (((ints o).length:Int)<2))
        (Vm.chk (decide (0<(ints o).length)||decide (((ints o).length:Int)<2))
          (Vm.chk (decide (0<((ints o).length:Int))||(decide (((ints o).length:Int)<2)||decide ((ints o).getD 0 0>2)))
            (Vm.chk (decide (0<(ints o).length)||(decide (((ints o).length:Int)<2)||decide ((ints o).getD 0 0>2)))
              (Vm.chk (decide (1<((ints o).length:Int))|| !(!(decide (((ints o).length:Int)<2)||decide ((ints o).getD 0 0>2))&&decide ((ints o).getD 0 0<2)))
                (Vm.chk (decide (1<(ints o).length)|| !(!(decide (((ints o).length:Int)<2)||decide ((ints o).getD 0 0>2))&&decide ((ints o).getD 0 0<2)))
                  (Vm.chk (!decide ((ints o).getD 0 0<2)|| !(decide (((ints o).length:Int)<2)||decide ((ints o).getD 0 0>2))&&decide ((ints o).getD 0 0<2)||(decide (((ints o).length:Int)<2)||decide ((ints o).getD 0 0>2)))
                    (bif decide (((ints o).length:Int)<2)||decide ((ints o).getD 0 0>2)||decide ((ints o).getD 0 0<2)&&decide ((ints o).getD 1 0>39)then some (([]:List Int),false)else some (ints o,true)))))))))=some (lC (WH o)):=by
  by_cases h:o.length<2
  ·have e:WH o=none:=if_neg (by omega)
   rw[e,Df,decide_eq_true (show(o.length:Int)<2 by omega)]
   simp [Aj,lC]
  ·match o,h with
   | a::b::r,_ =>
     have e0:(ints (a::b::r)).getD 0 0=(a:Int):=rfl
     have e1:(ints (a::b::r)).getD 1 0=(b:Int):=rfl
     have e2:(ints (a::b::r)).length=r.length+2:=by rw[Df];rfl
     rw[e0,e1,e2,decide_eq_true (show(0:Int)<((r.length+2:Nat):Int) by omega),decide_eq_true (show 0<r.length+2 by omega),decide_eq_true (show(1:Int)<((r.length+2:Nat):Int) by omega),decide_eq_true (show 1<r.length+2 by omega),decide_eq_false (show ¬(((r.length+2:Nat):Int)<2) by omega)]
     have hr:Ns (a::b::r)= !(decide ((a:Int)>2)||(decide ((a:Int)<2)&&decide ((b:Int)>39))):=by
       show((decide (a≤1)&&decide (b≤39))||decide (a=2))=_
       rw[Bool.eq_iff_iff]
       simp only[Bool.or_eq_true,Bool.and_eq_true,decide_eq_true_eq,Bool.not_eq_true',Bool.or_eq_false_iff,Bool.and_eq_false_iff,decide_eq_false_iff_not]
       omega
     unfold WH
     rw[hr]
     cases decide ((a:Int)>2)<;>cases decide ((a:Int)<2)<;>cases decide ((b:Int)>39)<;>simp [Vm.chk,lC]
   | [],h=>exact absurd (by decide) h
   | [a],h=>exact absurd (by simp) h
theorem Ah0 (c:UInt8) (k:Nat):(((c.toNat:Nat):Int) != (k:Int))=decide (c.toNat≠k):=by
  rw[Bool.eq_iff_iff,bne_iff_ne,decide_eq_true_eq];omega
theorem Adw (N:Nat) (s:Bs) (hN:16<N) (hs:s.length≤1048576) (hl:s.length+1<N):LX N s=some (lC ((KF [] [] s).bind WH)):=by
  unfold LX
  try simp only[clR]
  generalize hR:KF [] [] s=R0
  refine Fe (I:=fun x=> ∃(a j:Nat) (o:List Nat),x=((a:Int),(j:Int),ints o)∧a≤j∧o.length≤12∧((j≤s.length∧(AO s a j).all Dn=true∧KF (AO s a j) o (s.drop j)=R0)∨(j=s.length+1∧some o=R0))) (μ :=fun x=>s.length+1 - x.2.1.toNat) (fun _=>some (lC (R0.bind WH))) ?_ N (0,0,[]) ⟨0,0,[],rfl,by omega,by simp,.inl ⟨by omega,by rw[Oq];rfl,by rw[Oq,List.drop_zero];exact hR⟩⟩ (by show s.length+1 - 0<N;omega)
  rintro x ⟨a,j,o,rfl,ha,ho,hx⟩ k hk
  dsimp only[U3]
  rcases hx with ⟨hj,hd,hsc⟩ | ⟨rfl,hsc⟩
  ·have hmu: ∀ j':Nat,j<j'→s.length+1 - ((j':Int)).toNat<s.length+1 - ((j:Int)).toNat:=fun j' h=>by omega
   rw[decide_eq_true (show(j:Int)≤(s.length:Int) by omega),cond_true,decide_eq_true (show(0:Int)≤(j:Int) by omega)]
   simp only[Bool.true_or,Aj]
   have proc: ∀(d:Bs),d.all Dn=true→(if j<s.length then(WG d o).bind fun o=>KF [] o (s.drop (j+1))else WG d o)=R0 →
       (Vm.chk (decide ((0:Int)≤(a:Int))) (Vm.chk (decide ((a:Int)≤(j:Int)))
         (Vm.chk (decide (0<(d.length:Int))|| !(!((d.length:Int)==0||decide ((d.length:Int)>10))&&decide ((d.length:Int)>1)))
           (Vm.chk (!decide ((d.length:Int)>1)|| !((d.length:Int)==0||decide ((d.length:Int)>10))&&decide ((d.length:Int)>1)||((d.length:Int)==0||decide ((d.length:Int)>10)))
             (bif (d.length:Int)==0||decide ((d.length:Int)>10)||decide ((d.length:Int)>1)&&((d.getD 0 0).toNat:Int)==48||((ints o).length:Int)==12 then some (([]:List Int),false)
              else Ak (X:=Int×Int×List Int) (Y:=Int×List Int) (U3 fun t8b t9b l1004096b k11 x12 =>
                 bif decide (t9b<(d.length:Int))then Vm.chk (decide (0≤t9b)) (Vm.chk (decide (t9b<(d.length:Int)))
                   (k11 (i64.wrap (i64.wrap (10*t8b)+i64.wrap (IntKind.u8.wrap (((d.getD t9b.toNat 0).toNat:Int) - 48))),i64.wrap (t9b+1),l1004096b)))
                 else x12 (t8b,l1004096b)) N (0,0,ints o) (U2 fun t8c l1008192c=>bif decide (t8c>2147483647)then some ([],false)else Vm.chk (decide ((l1008192c.length+1)*9≤140737488355328)) (k (i64.wrap ((j:Int)+1),i64.wrap ((j:Int)+1),l1008192c++[t8c]))))))))=some (lC (R0.bind WH)):=by
     intro d hd hsc
     rw[decide_eq_true (show(0:Int)≤(a:Int) by omega),decide_eq_true (show(a:Int)≤(j:Int) by omega)]
     simp only[Aj]
     have c0:(((d.length:Nat):Int)==0)=decide (d.length=0):=by rw[Bool.eq_iff_iff,beq_iff_eq,decide_eq_true_eq];omega
     have c1:decide (((d.length:Nat):Int)>10)=decide (10<d.length):=by rw[decide_eq_decide];omega
     have c2:decide (((d.length:Nat):Int)>1)=decide (1<d.length):=by rw[decide_eq_decide];omega
     have c3:((((d.getD 0 0).toNat:Nat):Int)==48)=decide ((d.getD 0 0).toNat=48):=by rw[Bool.eq_iff_iff,beq_iff_eq,decide_eq_true_eq];omega
     have c4:(((ints o).length:Int)==12)=decide (o.length=12):=by rw[Df,Bool.eq_iff_iff,beq_iff_eq,decide_eq_true_eq];omega
     have c5:decide (0<((d.length:Nat):Int))= !(decide (d.length=0)):=by rw[Bool.eq_iff_iff,decide_eq_true_eq,Bool.not_eq_true',decide_eq_false_iff_not];omega
     rw[c0,c1,c2,c3,c4,c5]
     have t1:((!(decide (d.length=0)))|| !(!(decide (d.length=0)||decide (10<d.length))&&decide (1<d.length)))=true:=by cases decide (d.length=0)<;>cases decide (10<d.length)<;>cases decide (1<d.length)<;>rfl
     have t2:(!decide (1<d.length)|| !(decide (d.length=0)||decide (10<d.length))&&decide (1<d.length)||(decide (d.length=0)||decide (10<d.length)))=true:=by cases decide (d.length=0)<;>cases decide (10<d.length)<;>cases decide (1<d.length)<;>rfl
     rw[t1,t2,Aj,Aj]
     have hE:=AmR o hd
     by_cases hb:(d.length=0∨10<d.length∨((d.getD 0 0).toNat=48∧1<d.length))∨o.length=12
     ·rw[show(decide (d.length=0)||decide (10<d.length)||decide (1<d.length)&&decide ((d.getD 0 0).toNat=48)||decide (o.length=12))=true by simp only[Bool.or_eq_true,Bool.and_eq_true,decide_eq_true_eq];omega,cond_true]
      rw[if_pos (by omega)]at hE
      have:R0=none:=by rw[← hsc,hE];split<;>rfl
      rw[this];rfl
     ·rw[show(decide (d.length=0)||decide (10<d.length)||decide (1<d.length)&&decide ((d.getD 0 0).toNat=48)||decide (o.length=12))=false by simp only[Bool.or_eq_false_iff,Bool.and_eq_false_iff,decide_eq_false_iff_not];omega,cond_false]
      refine Eq.trans (AgV N d (ints o) (by omega) hd (by omega) _) ?_
      dsimp only[U2]
      by_cases hv:2147483647<EM d
      ·rw[decide_eq_true (show((EM d:Nat):Int)>2147483647 by omega),cond_true]
       rw[if_pos (by omega)]at hE
       have:R0=none:=by rw[← hsc,hE];split<;>rfl
       rw[this];rfl
      ·rw[decide_eq_false (show ¬((EM d:Nat):Int)>2147483647 by omega),cond_false,Df,decide_eq_true (show(o.length+1)*9≤140737488355328 by omega),Aj,w64 (by omega) (by omega),Akn]
       rw[if_neg (by omega)]at hE
       rw[hE]at hsc
       refine hk _ ⟨j+1,j+1,o++[EM d],rfl,by omega,by simp;omega,?_⟩ (hmu (j+1) (by omega))
       by_cases hjl:j<s.length
       ·rw[if_pos hjl]at hsc
        exact .inl ⟨by omega,by rw[Oq];rfl,by rw[Oq];exact hsc⟩
       ·rw[if_neg hjl]at hsc
        exact .inr ⟨by omega,hsc⟩
   by_cases hjl:j<s.length
   ·have hg:s.getD ((j:Int)).toNat 0=s[j]:=getD_lt s j 0 hjl
    rw[decide_eq_true (show(j:Int)<(s.length:Int) by omega),hg]
    simp only[Bool.true_or,Aj,Bool.true_and]
    by_cases h46:s[j].toNat=46
    ·rw[show(((s[j].toNat:Nat):Int) != 46)=false by rw[show(46:Int)=((46:Nat):Int)from rfl,Ah0,decide_eq_false (by simp [h46])],cond_false]
     have he:s[j]=46:=UInt8.toNat.inj (by rw[h46];rfl)
     refine proc _ hd ?_
     rw[if_pos hjl, ←hsc,List.drop_eq_getElem_cons hjl,he,Ac1];rfl
    ·rw[show(((s[j].toNat:Nat):Int) != 46)=true by rw[show(46:Int)=((46:Nat):Int)from rfl,Ah0,decide_eq_true (by simp [h46])],cond_true]
     have hne:s[j]≠46:=fun e=>h46 (by rw[e];rfl)
     rw[List.drop_eq_getElem_cons hjl]at hsc
     by_cases hdg:Dn s[j]=true
     ·rw[Ac0 _ _ _ _ hne hdg]at hsc
      have hc:=hdg
      unfold Dn at hc
      simp only[Bool.and_eq_true,decide_eq_true_eq]at hc
      rw[decide_eq_false (show ¬((s[j].toNat:Nat):Int)<48 by omega),decide_eq_false (show ¬((s[j].toNat:Nat):Int)>57 by omega)]
      simp only[Bool.or_self,cond_false]
      rw[w64 (by omega) (by omega)]
      refine hk _ ⟨a,j+1,o,rfl,by omega,ho,.inl ⟨by omega,?_,?_⟩⟩ (hmu (j+1) (by omega))
      ·rw[gU s ha hjl,List.all_append,hd];simpa using hdg
      ·rw[gU s ha hjl];exact hsc
     ·rw[Acz _ _ _ _ hne hdg]at hsc
      have:(decide (((s[j].toNat:Nat):Int)<48)||decide (((s[j].toNat:Nat):Int)>57))=true:=by
        unfold Dn at hdg
        simp only[Bool.and_eq_true,decide_eq_true_eq]at hdg
        simp only[Bool.or_eq_true,decide_eq_true_eq]
        omega
      rw[this,cond_true, ←hsc];rfl
   ·rw[decide_eq_false (show ¬(j:Int)<(s.length:Int) by omega)]
    simp only[Bool.false_and,cond_false]
    refine proc _ hd ?_
    rw[if_neg hjl, ←hsc,List.drop_eq_nil_of_le (by omega)];rfl
  ·rw[decide_eq_false (show ¬((s.length+1:Nat):Int)≤(s.length:Int) by omega),cond_false, ←hsc]
   exact Anj o
theorem Ajp (c b:UInt8) (hb:b≠c): ∀ s:Bs,b∈s→ ∃ x∈Bo c s,b∈x:=by
  intro s
  induction s with
  | nil=>intro h;cases h
  | cons a r ih =>
    intro h
    by_cases ha:a=c
    ·rcases List.mem_cons.1 h with rfl | h
     ·exact absurd ha hb
     ·obtain⟨x,h1,h2⟩:=ih h
      refine⟨x,?_,h2⟩
      show x∈(if a=c then _ else _)
      rw[if_pos ha]
      exact List.mem_cons_of_mem _ h1
    ·rw[QU _ _ _ ha]
     rcases List.mem_cons.1 h with rfl | h
     ·exact⟨_,List.mem_cons_self,List.mem_cons_self⟩
     ·obtain⟨x,h1,h2⟩:=ih h
      have hn:=Ac4 c r
      cases hs:Bo c r with
      | nil=>exact absurd hs hn
      | cons y t =>
        rw[hs]at h1
        rcases List.mem_cons.1 h1 with rfl | h1
        ·exact⟨_,List.mem_cons_self,List.mem_cons_of_mem _ h2⟩
        ·exact⟨x,List.mem_cons_of_mem _ h1,h2⟩
theorem Ak2 {α β :Type} {f: α →Option β}: ∀ {l:List α} {a: α},a∈l→f a=none→I8 f l=none:=by
  intro l
  induction l with
  | nil=>intro a h;cases h
  | cons x t ih =>
    intro a h ha
    unfold I8
    rcases List.mem_cons.1 h with rfl | h
    ·rw[ha]
    ·rw[ih h ha]
     split
     ·rename_i h1 h2;cases h2
     ·rfl
theorem jJ {α β :Type} (f: α →Option β) (a: α) (l:List α):I8 f (a::l)=(f a).bind fun b=>(I8 f l).map fun r=>b::r:=by
  show(match f a,I8 f l with | some b,some bs=>some (b::bs) | _,_=>none)=_
  cases f a<;>cases I8 f l<;>rfl
theorem xU {d:Bs} (h:d.all Dn=true):(46:UInt8)∉d:=by
  intro hm
  have:=List.all_eq_true.1 h _ hm
  revert this;decide
theorem Ann: ∀(s cur:Bs) (out:List Nat),cur.all Dn=true→out.length≤12→KF cur out s=if 12<out.length+(Bo 46 (cur++s)).length then none else(I8 Ko (Bo 46 (cur++s))).map fun r=>out++r:=by
  intro s
  induction s with
  | nil =>
    intro cur out hc ho
    rw[List.append_nil,QV _ _ (xU hc),jJ]
    show WG cur out=_
    unfold WG
    by_cases h:out.length=12
    ·rw[if_pos h,if_pos (by simp only[List.length_singleton];omega)]
    ·rw[if_neg h,if_neg (by simp only[List.length_singleton];omega)]
     cases Ko cur<;>rfl
  | cons c r ih =>
    intro cur out hc ho
    by_cases h1:c=46
    ·subst h1
     rw[Ac1,Lp _ _ _ (xU hc),jJ]
     unfold WG
     have hl:=(PR 46 r).2.1
     by_cases h:out.length=12
     ·rw[if_pos h,if_pos (by rw[List.length_cons];omega)];rfl
     ·rw[if_neg h]
      cases hv:Ko cur with
      | none=>simp
      | some v =>
        have:=ih [] (out++[v]) rfl (by simp;omega)
        rw[List.nil_append]at this
        show KF [] (out++[v]) r=_
        rw[this]
        simp only[List.length_append,List.length_singleton,List.length_cons,List.length_nil,Option.bind_some,Option.map_map]
        by_cases h3:12<out.length+(0+1)+(Bo 46 r).length
        ·rw[if_pos h3,if_pos (by omega)]
        ·rw[if_neg h3,if_neg (by omega)]
         cases I8 Ko (Bo 46 r)<;>simp
    ·by_cases h2:Dn c=true
     ·rw[Ac0 _ _ _ _ h1 h2,ih (cur++[c]) out (by simp [hc,h2]) ho,List.append_assoc]
      rfl
     ·rw[Acz _ _ _ _ h1 h2]
      obtain⟨x,hx1,hx2⟩:=Ajp 46 c h1 (cur++c::r) (by simp)
      rw[Ak2 hx1 (by
        unfold Ko wW
        rw[if_neg]
        have:x.all Dn=false:=by
          apply Bool.eq_false_iff.2
          intro h
          exact h2 (List.all_eq_true.1 h _ hx2)
        rw[this]
        simp)]
      split<;>rfl
theorem AjA (s:Bs):(KF [] [] s).bind WH=DL s:=by
  rw[Ann s [] [] rfl (by decide)]
  unfold DL
  simp only[List.length_nil,Nat.zero_add,List.nil_append]
  by_cases h:12<(Bo 46 s).length
  ·rw[if_pos h,if_pos (Or.inr h)];rfl
  ·rw[if_neg h]
   cases hm:I8 Ko (Bo 46 s)with
   | none=>split<;>rfl
   | some l =>
     have hl:=vG hm
     show WH l=_
     unfold WH
     have h3: ∀ q:Option (List Nat),(if(Bo 46 s).length<2∨12<(Bo 46 s).length then none else q)=if 2≤l.length then q else none:=by
       intro q
       by_cases h2:2≤l.length
       ·rw[if_neg (by omega),if_pos h2]
       ·rw[if_pos (Or.inl (by omega)),if_neg h2]
     rw[h3]
     dsimp only
     by_cases h2:2≤l.length<;>by_cases hr:Ns l=true<;>simp [h2,hr]
theorem Yf (N:Nat) (s:Bs) (hN:16<N) (hs:s.length≤1048576) (hl:s.length+1<N):LX N s=some (lC (DL s)):=by
  rw[Adw N s hN hs hl,AjA]
