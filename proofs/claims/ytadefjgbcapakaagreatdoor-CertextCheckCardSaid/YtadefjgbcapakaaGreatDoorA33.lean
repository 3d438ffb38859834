/-
  CertextCheck: the law returns true whatever the input; machine, functions, plain law (part 33 of 47.)
-/
import Derived.Test.YtadefjgbcapakaaGreatDoorA32
import Derived.Lib.TrimUEq
set_option linter.unusedVariables false
set_option linter.unusedSimpArgs false
namespace Go.Proofs.YtadefjgbcapakaaGreatDoor.Pl
open IntKind (i64)
open Go Vm
def chR (n b0 b1 b2 b3:Nat):Option Nat :=
  if b0<32∨b0=127 then none
  else if b0<128 then some 1
  else if 192≤b0∧b0<224 then
    (if n≤1∨b1 / 64≠2 then none
     else if b0 % 32*64+b1 % 64<128 then none else some 2)
  else if 224≤b0∧b0<240 then
    (if n≤2∨b1 / 64≠2∨b2 / 64≠2 then none
     else if b0 % 16*4096+b1 % 64*64+b2 % 64<2048∨(55296≤b0 % 16*4096+b1 % 64*64+b2 % 64∧b0 % 16*4096+b1 % 64*64+b2 % 64<57344)then none else some 3)
  else if 240≤b0∧b0<248 then
    (if n≤3∨b1 / 64≠2∨b2 / 64≠2∨b3 / 64≠2 then none
     else if b0 % 8*262144+b1 % 64*4096+b2 % 64*64+b3 % 64<65536∨1114111<b0 % 8*262144+b1 % 64*4096+b2 % 64*64+b3 % 64 then none else some 4)
  else none
set_option maxHeartbeats 4000000 in
theorem AnB (n b0 b1 b2 b3:Nat) (h0:b0<256) (h1:b1<256) (h2:b2<256) (h3:b3<256) :
    chR n b0 b1 b2 b3=if(Lib.decodeN n b0 b1 b2 b3).1<32∨(Lib.decodeN n b0 b1 b2 b3).1=127∨((Lib.decodeN n b0 b1 b2 b3).1=65533∧ ¬(3≤n∧b0=239∧b1=191∧b2=189))then none else some (Lib.decodeN n b0 b1 b2 b3).2:=by
  by_cases c1:b0<128
  ·have hd:Lib.decodeN n b0 b1 b2 b3=(b0,1):=by unfold Lib.decodeN;rw[if_pos c1]
   rw[hd]
   unfold chR
   dsimp only
   by_cases c2:b0<32∨b0=127
   ·rw[if_pos c2,if_pos (by omega)]
   ·rw[if_neg c2,if_pos c1,if_neg (by omega)]
  ·unfold chR Lib.decodeN
   rw[if_neg c1,if_neg (by omega),if_neg c1]
   by_cases c2:192≤b0∧b0<224
   ·rw[if_pos c2]
    repeat' split
    all_goals first | rfl | (exfalso;dsimp only at *;omega)
   ·rw[if_neg c2,if_neg (show ¬(b0 / 32=6∧(1<n∧b1 / 64=2)) by omega)]
    by_cases c3:224≤b0∧b0<240
    ·rw[if_pos c3]
     repeat' split
     all_goals first | rfl | (exfalso;dsimp only at *;omega)
    ·rw[if_neg c3,if_neg (show ¬(b0 / 16=14∧(1<n∧b1 / 64=2)∧(2<n∧b2 / 64=2)) by omega)]
     repeat' split
     all_goals first | rfl | (exfalso;dsimp only at *;omega)
def AaD (s:Bs) (i:Nat):Option Nat:=chR (s.length - i) (s.getD i 0).toNat (s.getD (i+1) 0).toNat (s.getD (i+2) 0).toNat (s.getD (i+3) 0).toNat
def GR (s:Bs):Nat→Nat→Bool
  | 0,_=>true
  | n+1,i=>if i<s.length then(match AaD s i with
     | none=>false
     | some w=>GR s n (i+w))else true
theorem Af4 (l:Bs):Lib.hasPrefix l [239,191,189]=true↔3≤l.length∧(l.getD 0 0).toNat=239∧(l.getD 1 0).toNat=191∧(l.getD 2 0).toNat=189:=by
  have hb: ∀(x:UInt8) (k:Nat),k<256→((UInt8.ofNat k==x)=true↔x.toNat=k):=by
    intro x k hk
    rw[beq_iff_eq]
    constructor
    ·intro h;rw[← h,UInt8.toNat_ofNat'];omega
    ·intro h;rw[← h,UInt8.ofNat_toNat]
  match l with
  | []=>simp [Lib.hasPrefix,List.isPrefixOf]
  | [x]=>simp [Lib.hasPrefix,List.isPrefixOf]
  | [x,y]=>simp [Lib.hasPrefix,List.isPrefixOf]
  | x::y::z::r =>
    show((UInt8.ofNat 239==x)&&((UInt8.ofNat 191==y)&&((UInt8.ofNat 189==z)&&true)))=true↔3≤r.length+1+1+1∧x.toNat=239∧y.toNat=191∧z.toNat=189
    rw[Bool.and_eq_true,Bool.and_eq_true,Bool.and_true,hb _ _ (by decide),hb _ _ (by decide),hb _ _ (by decide)]
    exact⟨fun h=>⟨by omega,h⟩,fun h=>h.2⟩
theorem Aoo (s:Bs): ∀(n i:Nat),Jj ⟨s.toArray⟩ n i=GR s n i:=by
  intro n
  induction n with
  | zero=>intro i;rfl
  | succ n ih =>
    intro i
    have hd:=Lib.decode_N ⟨s.toArray⟩ i
    have hc:=AnB (s.length - i) (s.getD i 0).toNat (s.getD (i+1) 0).toNat (s.getD (i+2) 0).toNat (s.getD (i+3) 0).toNat (NK _) (NK _) (NK _) (NK _)
    have hp:=Af4 (s.drop i)
    rw[List.length_drop,Lib.getD_dropU,Lib.getD_dropU,Lib.getD_dropU,Nat.add_zero]at hp
    unfold Jj GR
    show(if i<s.length then _ else _)=_
    by_cases hl:i<s.length
    ·rw[if_pos hl,if_pos hl]
     show(let d:=Utf8.decode ⟨s.toArray⟩ i;if d.1<32∨d.1=127 then false else if d.1=65533∧Lib.hasPrefix (s.drop i) [239,191,189]=false then false else Jj ⟨s.toArray⟩ n (i+d.2))=_
     unfold AaD
     have hd':Utf8.decode ⟨s.toArray⟩ i=Lib.decodeN (s.length - i) (s.getD i 0).toNat (s.getD (i+1) 0).toNat (s.getD (i+2) 0).toNat (s.getD (i+3) 0).toNat:=hd
     rw[hc,hd']
     generalize Lib.decodeN (s.length - i) (s.getD i 0).toNat (s.getD (i+1) 0).toNat (s.getD (i+2) 0).toNat (s.getD (i+3) 0).toNat=d
     dsimp only
     by_cases h1:d.1<32∨d.1=127
     ·rw[if_pos h1,if_pos (by omega)]
     ·rw[if_neg h1]
      by_cases h2:d.1=65533∧Lib.hasPrefix (s.drop i) [239,191,189]=false
      ·have h3: ¬(3≤s.length - i∧(s.getD i 0).toNat=239∧(s.getD (i+1) 0).toNat=191∧(s.getD (i+2) 0).toNat=189):=fun h=>by
         have:=hp.2 h
         rw[h2.2]at this
         cases this
       rw[if_pos h2,if_pos (Or.inr (Or.inr ⟨h2.1,h3⟩))]
      ·have h3: ¬(d.1<32∨d.1=127∨(d.1=65533∧ ¬(3≤s.length - i∧(s.getD i 0).toNat=239∧(s.getD (i+1) 0).toNat=191∧(s.getD (i+2) 0).toNat=189))):=by
         rintro (h | h | ⟨h,h4⟩)
         ·exact h1 (Or.inl h)
         ·exact h1 (Or.inr h)
         ·refine h2 ⟨h,?_⟩
          apply Bool.eq_false_iff.2
          intro h5
          exact h4 (hp.1 h5)
       rw[if_neg h2,if_neg h3]
       exact ih _
    ·rw[if_neg hl,if_neg hl]
theorem Aot {n b0 b1 b2 b3 w:Nat} (hn:1≤n) (h:chR n b0 b1 b2 b3=some w):1≤w∧w≤n:=by
  unfold chR at h
  repeat' split at h
  all_goals first | (cases h;done) | (injection h with h;omega)
theorem AgM (s:Bs): ∀(n m i:Nat),s.length - i≤n→s.length - i≤m→GR s n i=GR s m i:=by
  intro n
  induction n with
  | zero =>
    intro m i h1 _
    cases m with
    | zero=>rfl
    | succ m=>unfold GR;rw[if_neg (by omega)]
  | succ n ih =>
    intro m i h1 h2
    cases m with
    | zero=>unfold GR;rw[if_neg (by omega)]
    | succ m =>
      unfold GR
      by_cases hl:i<s.length
      ·rw[if_pos hl,if_pos hl]
       cases hc:AaD s i with
       | none=>rfl
       | some w =>
         have:=Aot (by omega) hc
         exact ih m (i+w) (by omega) (by omega)
      ·rw[if_neg hl,if_neg hl]
def JH (s:Bs) (i:Nat):Nat→Bool
  | 0=>true
  | k+1=>JH s i k&&decide ((s.getD (i+(k+1)) 0).toNat / 64=2)
def Nv (s:Bs) (i r:Nat):Nat→Nat
  | 0=>r
  | k+1=>64*Nv s i r k+(s.getD (i+(k+1)) 0).toNat % 64
theorem Al3 (s:Bs) (i r:Nat) (hr:r<32): ∀ k,Nv s i r k<32*64 ^ k:=by
  intro k
  induction k with
  | zero=>show r<32*64 ^ 0;rw[Nat.pow_zero];omega
  | succ k ih=>show 64*Nv s i r k+_<_;rw[Nat.pow_succ];omega
theorem gK {ρ :Type} (N:Nat) (s:Bs) (i k r:Nat) (hk:k≤3) (hN:16<N) (hr:r<32) (hi:i+k<s.length) (hs:s.length≤1048576) (bad:Option ρ) (fin:Int→Option ρ) :
    Ak (X:=Int×Int) (Y:=Int) (U2 fun t7c t8c k4 x5 =>
                   bif decide (t8c≤(k:Int))then
                     Vm.chk (decide (0≤i64.wrap ((i:Int)+t8c)))
                       (Vm.chk (decide (i64.wrap ((i:Int)+t8c)< ↑(List.length s)))
                         (bif
                             IntKind.u8.wrap
                                 ((↑(List.getD s (i64.wrap ((i:Int)+t8c)).toNat 0).toNat:Int).tdiv 64) !=
                               2 then
                           bad
                         else
                           Vm.chk (decide (0≤i64.wrap ((i:Int)+t8c)))
                             (Vm.chk (decide (i64.wrap ((i:Int)+t8c)< ↑(List.length s)))
                               (k4
                                 (i64.wrap
                                     (i64.wrap (64*t7c) +
                                       i64.wrap
                                         ((↑(List.getD s (i64.wrap ((i:Int)+t8c)).toNat 0).toNat:Int).tmod
                                           64)),
                                   i64.wrap (t8c+1))))))
                   else x5 t7c) N ((r:Int),1) fin=if JH s i k=true then fin ((Nv s i r k:Nat):Int)else bad:=by
  refine Aks (P:=fun(x:Int×Int) v=> ∃ j:Nat,x=(((Nv s i r j:Nat):Int),((j+1:Nat):Int))∧j≤k∧JH s i j=true∧v=if JH s i k=true then fin ((Nv s i r k:Nat):Int)else bad) (μ :=fun x=>k+1 - x.2.toNat) ?_ N _ _ ⟨0,rfl,Nat.zero_le _,rfl,rfl⟩ (by show k+1 - 1<N;omega)
  rintro x v ⟨j,rfl,h1,h2,rfl⟩ kk hkk
  have hv:=Al3 s i r hr j
  have hp:(64:Nat) ^ j≤64 ^ 3:=Nat.pow_le_pow_right (by decide) (by omega)
  dsimp only[U2]
  by_cases hj:j<k
  ·have hb:=NK (s.getD (i+(j+1)) 0)
   rw[decide_eq_true (by omega),cond_true,w64 (x:=(i:Int)+((j+1:Nat):Int)) (by omega) (by omega),show((i:Int)+((j+1:Nat):Int)).toNat=i+(j+1) by omega,decide_eq_true (by omega),Aj,decide_eq_true (by omega),Aj,Aj,Aj]
   rw[show((((s.getD (i+(j+1)) 0).toNat:Nat):Int)).tdiv 64=(((s.getD (i+(j+1)) 0).toNat / 64:Nat):Int)from rfl,show((((s.getD (i+(j+1)) 0).toNat:Nat):Int)).tmod 64=(((s.getD (i+(j+1)) 0).toNat % 64:Nat):Int)from rfl,w8]
   by_cases hc:(s.getD (i+(j+1)) 0).toNat / 64=2
   ·rw[hc,show(((2:Nat):Int) % 256 != 2)=false from rfl,cond_false,w64 (x:=64*((Nv s i r j:Nat):Int)) (by omega) (by omega),w64 (x:=(((s.getD (i+(j+1)) 0).toNat % 64:Nat):Int)) (by omega) (by omega),w64 (by omega) (by omega),w64 (by omega) (by omega)]
    refine hkk _ _ ⟨j+1,?_,by omega,by show(JH s i j&&decide _)=true;rw[h2,hc];rfl,rfl⟩ (by show k+1 - (((j+1:Nat):Int)+1).toNat<k+1 - ((j+1:Nat):Int).toNat;omega)
    refine Prod.ext ?_ rfl
    show 64*((Nv s i r j:Nat):Int)+_=((64*Nv s i r j+(s.getD (i+(j+1)) 0).toNat % 64:Nat):Int)
    omega
   ·have hne:((((s.getD (i+(j+1)) 0).toNat / 64:Nat):Int) % 256 != 2)=true:=by
      rw[bne_iff_ne];omega
    rw[hne,cond_true]
    have hbad:JH s i k=false:=by
      have: ∀ d,JH s i (j+1+d)=false:=by
        intro d
        induction d with
        | zero=>show(JH s i j&&decide _)=false;rw[decide_eq_false hc,Bool.and_false]
        | succ d ih=>show(JH s i (j+1+d)&&_)=false;rw[ih,Bool.false_and]
      have h:=this (k - (j+1))
      rwa [show j+1+(k - (j+1))=k by omega]at h
    rw[hbad];rfl
  ·have:j=k:=by omega
   subst this
   rw[decide_eq_false (by omega),cond_false,h2];rfl
theorem Aoq (a:Nat) (h:a<256):BP .and .i64 (a:Int) 15=((a % 16:Nat):Int):=by
  have: ∀ a:Fin 256,BP .and .i64 ((a.val:Nat):Int) 15=((a.val % 16:Nat):Int):=by decide +kernel
  exact this ⟨a,h⟩
theorem and7 (a:Nat) (h:a<256):BP .and .i64 (a:Int) 7=((a % 8:Nat):Int):=by
  have: ∀ a:Fin 256,BP .and .i64 ((a.val:Nat):Int) 7=((a.val % 8:Nat):Int):=by decide +kernel
  exact this ⟨a,h⟩
theorem AbG (V:Nat) (mn:Int) (X Y:Option Bool):Vm.chk
        (!decide ((V:Int)≥55296) ||
            !(decide ((V:Int)<mn)||decide ((V:Int)>1114111)) &&
              decide ((V:Int)≥55296) ||
          (decide ((V:Int)<mn)||decide ((V:Int)>1114111)))
        (bif
            decide ((V:Int)<mn)||decide ((V:Int)>1114111) ||
              decide ((V:Int)≥55296)&&decide ((V:Int)<57344)then
          X
        else Y)=if(V:Int)<mn∨1114111<V∨(55296≤V∧V<57344)then X else Y:=by
  by_cases hc:(V:Int)<mn∨1114111<V∨(55296≤V∧V<57344)
  ·rw[if_pos hc]
   by_cases h1:(V:Int)<mn<;>by_cases h2:(V:Int)>1114111<;>by_cases h3:(V:Int)≥55296<;>by_cases h4:(V:Int)<57344<;>simp only[h1,h2,h3,h4,decide_true,decide_false]<;>first | rfl | (exfalso;omega)
  ·rw[if_neg hc]
   by_cases h1:(V:Int)<mn<;>by_cases h2:(V:Int)>1114111<;>by_cases h3:(V:Int)≥55296<;>by_cases h4:(V:Int)<57344<;>simp only[h1,h2,h3,h4,decide_true,decide_false]<;>first | rfl | (exfalso;omega)
theorem Adz (N:Nat) (s:Bs) (hN:s.length<N) (hN2:16<N) (hs:s.length≤1048576):P9 N s=some (GR s s.length 0):=by
  unfold P9
  try simp only[clR]
  refine Eq.trans (Fe (I:=fun x:Int=> ∃ i:Nat,x=(i:Int)∧i≤s.length) (μ :=fun x=>s.length - x.toNat) (F:=fun x=>some (GR s (s.length - x.toNat) x.toNat)) ?_ N 0 ⟨0,rfl,Nat.zero_le _⟩ (by show s.length - 0<N;omega)) rfl
  rintro x ⟨i,rfl,h1⟩ k hk
  rw[show((i:Int)).toNat=i by omega]
  by_cases hl:i<s.length
  ·obtain⟨n,hn⟩: ∃ n,s.length - i=n+1:=⟨s.length - i - 1,by omega⟩
   have hgo: ∀ w:Nat,AaD s i=some w→1≤w→i+w≤s.length→k (((i+w:Nat)):Int)=some (GR s (s.length - i) i):=by
     intro w hw hw1 hw2
     rw[hk _ ⟨i+w,rfl,hw2⟩ (by show s.length - ((i+w:Nat):Int).toNat<s.length - ((i:Int)).toNat;omega)]
     rw[show(((i+w:Nat)):Int).toNat=i+w by omega,hn]
     conv=>rhs;unfold GR
     rw[if_pos hl,hw]
     exact congrArg some (AgM s _ _ _ (Nat.le_refl _) (by omega))
   have hno:AaD s i=none→(some false:Option Bool)=some (GR s (s.length - i) i):=by
     intro hw
     rw[hn]
     unfold GR
     rw[if_pos hl,hw]
   have hb:=NK (s.getD i 0)
   unfold AaD at hgo hno
   unfold chR at hgo hno
   generalize hb0:(s.getD i 0).toNat=b0 at *
   rw[decide_eq_true (show(i:Int)<(s.length:Int) by omega),cond_true,decide_eq_true (show(0:Int)≤(i:Int) by omega),Aj,Aj,Oz]
   by_cases c1:b0<32∨b0=127
   ·rw[if_pos c1]at hno
    have hq:(decide ((b0:Int)<32)||((b0:Int)==127))=true:=by
      rw[Bool.or_eq_true,decide_eq_true_eq,beq_iff_eq];omega
    rw[hq,cond_true]
    exact hno rfl
   ·rw[if_neg c1]at hno
    simp only[if_neg c1]at hgo
    have hq:(decide ((b0:Int)<32)||((b0:Int)==127))=false:=by
      apply Bool.eq_false_iff.2
      rw[Ne,Bool.or_eq_true,decide_eq_true_eq,beq_iff_eq];omega
    rw[hq,cond_false]
    by_cases c2:b0<128
    ·simp only[if_pos c2]at hgo
     rw[decide_eq_true (by omega),cond_true,w64 (by omega) (by omega)]
     exact hgo 1 rfl (Nat.le_refl _) (by omega)
    ·rw[if_neg c2]at hno
     simp only[if_neg c2]at hgo
     rw[decide_eq_false (show ¬(b0:Int)<128 by omega),cond_false]
     by_cases c3:192≤b0∧b0<224
     ·rw[if_pos c3]at hno
      simp only[if_pos c3]at hgo
      rw[decide_eq_true (show(b0:Int)≥192 by omega),decide_eq_true (show(b0:Int)<224 by omega),Bool.and_self,cond_true]
      dsimp only[U3]
      by_cases c4:s.length - i≤1
      ·rw[if_pos (Or.inl c4)]at hno
       rw[w64 (x:=(s.length:Int) - (i:Int)) (by omega) (by omega),decide_eq_true (show((s.length:Int) - (i:Int))≤1 by omega),cond_true]
       exact hno rfl
      ·rw[w64 (x:=(s.length:Int) - (i:Int)) (by omega) (by omega),decide_eq_false (show ¬((s.length:Int) - (i:Int))≤1 by omega),cond_false]
       rw[show(BP BinOp.and i64 (i64.wrap (b0:Int)) (i64.wrap (i64.wrap (1*2 ^ min (i64.wrap (6 - 1)).toNat 64) - 1)))=((b0 % 32:Nat):Int) by rw[w64 (x:=(b0:Int)) (by omega) (by omega)];exact AhM b0 (by omega)]
       have hcl:=gK N s i 1 (b0 % 32) (by omega) hN2 (by omega) (by omega) hs (some false:Option Bool)
       rw[show(decide ((0:Int)≤i64.wrap (6 - 1)))=true by decide,Aj]
       refine(hcl _).trans ?_
       rw[AbG,show JH s i 1=decide ((s.getD (i+1) 0).toNat / 64=2)from rfl,show Nv s i (b0 % 32) 1=64*(b0 % 32)+(s.getD (i+1) 0).toNat % 64 from rfl]
       have hb1:=NK (s.getD (i+1) 0)
       generalize (s.getD (i+1) 0).toNat=b1 at hno hgo hb1 ⊢
       by_cases c5:b1 / 64=2
       ·rw[if_pos (by rw[decide_eq_true c5])]
        rw[if_neg (by omega)]at hno
        simp only[if_neg (show ¬(s.length - i≤1∨b1 / 64≠2) by omega)]at hgo
        by_cases c6:b0 % 32*64+b1 % 64<128
        ·rw[if_pos c6]at hno
         rw[if_pos (by omega)]
         exact hno rfl
        ·simp only[if_neg c6]at hgo
         rw[if_neg (by omega),w64 (x:=1+1) (by omega) (by omega),w64 (by omega) (by omega)]
         exact hgo 2 rfl (by omega) (by omega)
       ·rw[if_neg (by rw[decide_eq_false c5];decide)]
        rw[if_pos (Or.inr c5)]at hno
        exact hno rfl
     ·rw[if_neg c3]at hno
      simp only[if_neg c3]at hgo
      rw[show(decide ((b0:Int)≥192)&&decide ((b0:Int)<224))=false by simp only[Bool.and_eq_false_iff,decide_eq_false_iff_not];omega,cond_false]
      by_cases d3:224≤b0∧b0<240
      ·rw[if_pos d3]at hno
       simp only[if_pos d3]at hgo
       rw[decide_eq_true (show(b0:Int)≥224 by omega),decide_eq_true (show(b0:Int)<240 by omega),Bool.and_self,cond_true]
       dsimp only[U3]
       by_cases c4:s.length - i≤2
       ·rw[if_pos (Or.inl c4)]at hno
        rw[w64 (x:=(s.length:Int) - (i:Int)) (by omega) (by omega),decide_eq_true (show((s.length:Int) - (i:Int))≤2 by omega),cond_true]
        exact hno rfl
       ·rw[w64 (x:=(s.length:Int) - (i:Int)) (by omega) (by omega),decide_eq_false (show ¬((s.length:Int) - (i:Int))≤2 by omega),cond_false]
        rw[show(BP BinOp.and i64 (i64.wrap (b0:Int)) (i64.wrap (i64.wrap (1*2 ^ min (i64.wrap (6 - 2)).toNat 64) - 1)))=((b0 % 16:Nat):Int) by rw[w64 (x:=(b0:Int)) (by omega) (by omega)];exact Aoq b0 (by omega)]
        have hcl:=gK N s i 2 (b0 % 16) (by omega) hN2 (by omega) (by omega) hs (some false:Option Bool)
        rw[show(decide ((0:Int)≤i64.wrap (6 - 2)))=true by decide,Aj]
        refine(hcl _).trans ?_
        rw[AbG,show JH s i 2=(decide ((s.getD (i+1) 0).toNat / 64=2)&&decide ((s.getD (i+2) 0).toNat / 64=2))from rfl,show Nv s i (b0 % 16) 2=64*(64*(b0 % 16)+(s.getD (i+1) 0).toNat % 64)+(s.getD (i+2) 0).toNat % 64 from rfl]
        have hb1:=NK (s.getD (i+1) 0)
        have hb2:=NK (s.getD (i+2) 0)
        generalize (s.getD (i+1) 0).toNat=b1 at hno hgo hb1 ⊢
        generalize (s.getD (i+2) 0).toNat=b2 at hno hgo hb2 ⊢
        by_cases c5:b1 / 64=2∧b2 / 64=2
        ·rw[if_pos (show(decide (b1 / 64=2)&&decide (b2 / 64=2))=true by simp only[c5,decide_true,Bool.and_self])]
         rw[if_neg (show ¬(s.length - i≤2∨b1 / 64≠2∨b2 / 64≠2) by omega)]at hno
         simp only[if_neg (show ¬(s.length - i≤2∨b1 / 64≠2∨b2 / 64≠2) by omega)]at hgo
         by_cases c6:b0 % 16*4096+b1 % 64*64+b2 % 64<2048∨(55296≤b0 % 16*4096+b1 % 64*64+b2 % 64∧b0 % 16*4096+b1 % 64*64+b2 % 64<57344)
         ·rw[if_pos c6]at hno
          rw[if_pos (by omega)]
          exact hno rfl
         ·simp only[if_neg c6]at hgo
          rw[if_neg (by omega),w64 (x:=2+1) (by omega) (by omega),w64 (by omega) (by omega)]
          exact hgo 3 rfl (by omega) (by omega)
        ·rw[if_neg (show ¬(decide (b1 / 64=2)&&decide (b2 / 64=2))=true by simp only[Bool.and_eq_true,decide_eq_true_eq];omega)]
         rw[if_pos (show s.length - i≤2∨b1 / 64≠2∨b2 / 64≠2 by omega)]at hno
         exact hno rfl
      ·rw[if_neg d3]at hno
       simp only[if_neg d3]at hgo
       rw[show(decide ((b0:Int)≥224)&&decide ((b0:Int)<240))=false by simp only[Bool.and_eq_false_iff,decide_eq_false_iff_not];omega,cond_false]
       by_cases e3:240≤b0∧b0<248
       ·rw[if_pos e3]at hno
        simp only[if_pos e3]at hgo
        rw[decide_eq_true (show(b0:Int)≥240 by omega),decide_eq_true (show(b0:Int)<248 by omega),Bool.and_self,cond_true]
        dsimp only[U3]
        by_cases c4:s.length - i≤3
        ·rw[if_pos (Or.inl c4)]at hno
         rw[w64 (x:=(s.length:Int) - (i:Int)) (by omega) (by omega),decide_eq_true (show((s.length:Int) - (i:Int))≤3 by omega),cond_true]
         exact hno rfl
        ·rw[w64 (x:=(s.length:Int) - (i:Int)) (by omega) (by omega),decide_eq_false (show ¬((s.length:Int) - (i:Int))≤3 by omega),cond_false]
         rw[show(BP BinOp.and i64 (i64.wrap (b0:Int)) (i64.wrap (i64.wrap (1*2 ^ min (i64.wrap (6 - 3)).toNat 64) - 1)))=((b0 % 8:Nat):Int) by rw[w64 (x:=(b0:Int)) (by omega) (by omega)];exact and7 b0 (by omega)]
         have hcl:=gK N s i 3 (b0 % 8) (by omega) hN2 (by omega) (by omega) hs (some false:Option Bool)
         rw[show(decide ((0:Int)≤i64.wrap (6 - 3)))=true by decide,Aj]
         refine(hcl _).trans ?_
         rw[AbG,show JH s i 3=(decide ((s.getD (i+1) 0).toNat / 64=2)&&decide ((s.getD (i+2) 0).toNat / 64=2)&&decide ((s.getD (i+3) 0).toNat / 64=2))from rfl,show Nv s i (b0 % 8) 3=64*(64*(64*(b0 % 8)+(s.getD (i+1) 0).toNat % 64)+(s.getD (i+2) 0).toNat % 64)+(s.getD (i+3) 0).toNat % 64 from rfl]
         have hb1:=NK (s.getD (i+1) 0)
         have hb2:=NK (s.getD (i+2) 0)
         have hb3:=NK (s.getD (i+3) 0)
         generalize (s.getD (i+1) 0).toNat=b1 at hno hgo hb1 ⊢
         generalize (s.getD (i+2) 0).toNat=b2 at hno hgo hb2 ⊢
         generalize (s.getD (i+3) 0).toNat=b3 at hno hgo hb3 ⊢
         by_cases c5:b1 / 64=2∧b2 / 64=2∧b3 / 64=2
         ·rw[if_pos (show(decide (b1 / 64=2)&&decide (b2 / 64=2)&&decide (b3 / 64=2))=true by simp only[c5,decide_true,Bool.and_self])]
          rw[if_neg (show ¬(s.length - i≤3∨b1 / 64≠2∨b2 / 64≠2∨b3 / 64≠2) by omega)]at hno
          simp only[if_neg (show ¬(s.length - i≤3∨b1 / 64≠2∨b2 / 64≠2∨b3 / 64≠2) by omega)]at hgo
          by_cases c6:b0 % 8*262144+b1 % 64*4096+b2 % 64*64+b3 % 64<65536∨1114111<b0 % 8*262144+b1 % 64*4096+b2 % 64*64+b3 % 64
          ·rw[if_pos c6]at hno
           rw[if_pos (by omega)]
           exact hno rfl
          ·simp only[if_neg c6]at hgo
           rw[if_neg (by omega),w64 (x:=3+1) (by omega) (by omega),w64 (by omega) (by omega)]
           exact hgo 4 rfl (by omega) (by omega)
         ·rw[if_neg (show ¬(decide (b1 / 64=2)&&decide (b2 / 64=2)&&decide (b3 / 64=2))=true by simp only[Bool.and_eq_true,decide_eq_true_eq];omega)]
          rw[if_pos (show s.length - i≤3∨b1 / 64≠2∨b2 / 64≠2∨b3 / 64≠2 by omega)]at hno
          exact hno rfl
       ·rw[if_neg e3]at hno
        rw[show(decide ((b0:Int)≥240)&&decide ((b0:Int)<248))=false by simp only[Bool.and_eq_false_iff,decide_eq_false_iff_not];omega,cond_false]
        exact hno rfl
  ·rw[decide_eq_false (by omega),cond_false,show s.length - i=0 by omega]
   rfl
def Lu (t:Int) (s:Bs):Bool:=if t=12 then GR s s.length 0 else if t=19 then s.all prC else if t=22 then s.all iaC else false
theorem AdK (N:Nat) (t:Int) (s:Bs) (hl:s.length<N) (hs:s.length≤1048576):J8 N t s=some (Lu t s):=by
  unfold Lu
  by_cases h1:t=12
  ·subst h1
   rw[if_pos rfl]
   show Ad (ZZ N s) (fun r=>some r)=_
   unfold ZZ
   rw[decide_eq_true (by omega)]
   show some (Aj2 s)=_
   unfold Aj2
   rw[Aoo]
  ·rw[if_neg h1]
   by_cases h2:t=19
   ·subst h2;rw[if_pos rfl];exact Alg N s hl hs
   ·rw[if_neg h2]
    by_cases h3:t=22
    ·subst h3;rw[if_pos rfl];exact Alh N s hl hs
    ·rw[if_neg h3]
     unfold J8
     rw[show(t==12)=false from beq_false_of_ne h1,show(t==19)=false from beq_false_of_ne h2,show(t==22)=false from beq_false_of_ne h3]
     rfl
theorem jW (N:Nat) (t:Int) (s:Bs) (hl:s.length<N) (hs:s.length≤1048576) (hN:16<N):D9 N t s=some (Lu t s):=by
  unfold Lu
  by_cases h1:t=12
  ·subst h1
   rw[if_pos rfl]
   show Ad (P9 N s) (fun r=>some r)=_
   rw[Adz N s hl hN hs];rfl
  ·rw[if_neg h1]
   by_cases h2:t=19
   ·subst h2;rw[if_pos rfl];exact Aew N s hl hs hN
   ·rw[if_neg h2]
    by_cases h3:t=22
    ·subst h3;rw[if_pos rfl];exact Aex N s hl hs
    ·rw[if_neg h3]
     unfold D9
     rw[show(t==12)=false from beq_false_of_ne h1,show(t==19)=false from beq_false_of_ne h2,show(t==22)=false from beq_false_of_ne h3]
     rfl
