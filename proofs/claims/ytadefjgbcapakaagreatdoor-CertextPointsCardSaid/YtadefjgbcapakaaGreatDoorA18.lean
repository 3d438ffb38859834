import Derived.Test.YtadefjgbcapakaaGreatDoorA17
set_option linter.all false
namespace Go.Proofs.YtadefjgbcapakaaGreatDoor.Pl
open IntKind (i64)
open Go Vm
theorem AnC {n b0 b1 b2 b3 w:Nat} (hn:1<=n) (h:chR n b0 b1 b2 b3=some w):1<=w/\w<=n:=by
  unfold chR at h
  repeat' split at h
  all_goals first | (cases h;done) | (injection h with h;omega)
theorem AfF (s:Bs): ∀(n m i:Nat),s.length - i<=n->s.length - i<=m->Gi s n i=Gi s m i:=by
  intro n
  induction n with
  | zero =>
    intro m i h1 _
    cases m with
    | zero=>rfl
    | succ m=>unfold Gi;rw[if_neg (by omega)]
  | succ n ih =>
    intro m i h1 h2
    cases m with
    | zero=>unfold Gi;rw[if_neg (by omega)]
    | succ m =>
      unfold Gi
      by_cases hl:i<s.length
      ·rw[if_pos hl,if_pos hl]
       cases hc:Aal s i with
       | none=>rfl
       | some w =>
         have:=AnC (by omega) hc
         exact ih m (i+w) (by omega) (by omega)
      ·rw[if_neg hl,if_neg hl]
def Je (s:Bs) (i:Nat):Nat->Bool
  | 0=>true
  | k+1=>Je s i k&&decide ((s.getD (i+(k+1)) 0).toNat / 64=2)
def Nc (s:Bs) (i r:Nat):Nat->Nat
  | 0=>r
  | k+1=>64*Nc s i r k+(s.getD (i+(k+1)) 0).toNat % 64
theorem Ake (s:Bs) (i r:Nat) (hr:r<32): ∀ k,Nc s i r k<32*64 ^ k:=by
  intro k
  induction k with
  | zero=>show r<32*64 ^ 0;rw[Nat.pow_zero];omega
  | succ k ih=>show 64*Nc s i r k+_<_;rw[Nat.pow_succ];omega
theorem gY {ρ :Type} (N:Nat) (s:Bs) (i k r:Nat) (hk:k<=3) (hN:16<N) (hr:r<32) (hi:i+k<s.length) (hs:s.length<=1048576) (bad:Option ρ) (fin:Int->Option ρ) :
    Ap (X:=Int×Int) (Y:=Int) (U2 fun t7c t8c k4 x5 =>
                   bif decide (t8c<=(k:Int))then
                     Vm.chk (decide (0<=i64.wrap ((i:Int)+t8c)))
                       (Vm.chk (decide (i64.wrap ((i:Int)+t8c)< ↑(List.length s)))
                         (bif
                             IntKind.u8.wrap
                                 ((↑(List.getD s (i64.wrap ((i:Int)+t8c)).toNat 0).toNat:Int).tdiv 64) !=
                               2 then
                           bad
                         else
                           Vm.chk (decide (0<=i64.wrap ((i:Int)+t8c)))
                             (Vm.chk (decide (i64.wrap ((i:Int)+t8c)< ↑(List.length s)))
                               (k4
                                 (i64.wrap
                                     (i64.wrap (64*t7c) +
                                       i64.wrap
                                         ((↑(List.getD s (i64.wrap ((i:Int)+t8c)).toNat 0).toNat:Int).tmod
                                           64)),
                                   i64.wrap (t8c+1))))))
                   else x5 t7c) N ((r:Int),1) fin=if Je s i k=true then fin ((Nc s i r k:Nat):Int)else bad:=by
  refine Ab5 (P:=fun(x:Int×Int) v=> ∃ j:Nat,x=(((Nc s i r j:Nat):Int),((j+1:Nat):Int))/\j<=k/\Je s i j=true/\v=if Je s i k=true then fin ((Nc s i r k:Nat):Int)else bad) (μ :=fun x=>k+1 - x.2.toNat) ?_ N _ _ ⟨0,rfl,Nat.zero_le _,rfl,rfl⟩ (by show k+1 - 1<N;omega)
  rintro x v ⟨j,rfl,h1,h2,rfl⟩ kk hkk
  have hv:=Ake s i r hr j
  have hp:(64:Nat) ^ j<=64 ^ 3:=Nat.pow_le_pow_right (by decide) (by omega)
  dsimp only[U2]
  by_cases hj:j<k
  ·have hb:=Ic (s.getD (i+(j+1)) 0)
   rw[decide_eq_true (by omega),cond_true,w64 (x:=(i:Int)+((j+1:Nat):Int)) (by omega) (by omega),show((i:Int)+((j+1:Nat):Int)).toNat=i+(j+1) by omega,decide_eq_true (by omega),Ai,decide_eq_true (by omega),Ai,Ai,Ai]
   rw[show((((s.getD (i+(j+1)) 0).toNat:Nat):Int)).tdiv 64=(((s.getD (i+(j+1)) 0).toNat / 64:Nat):Int)from rfl,show((((s.getD (i+(j+1)) 0).toNat:Nat):Int)).tmod 64=(((s.getD (i+(j+1)) 0).toNat % 64:Nat):Int)from rfl,w8]
   by_cases hc:(s.getD (i+(j+1)) 0).toNat / 64=2
   ·rw[hc,show(((2:Nat):Int) % 256 != 2)=false from rfl,cond_false,w64 (x:=64*((Nc s i r j:Nat):Int)) (by omega) (by omega),w64 (x:=(((s.getD (i+(j+1)) 0).toNat % 64:Nat):Int)) (by omega) (by omega),w64 (by omega) (by omega),w64 (by omega) (by omega)]
    refine hkk _ _ ⟨j+1,?_,by omega,by show(Je s i j&&decide _)=true;rw[h2,hc];rfl,rfl⟩ (by show k+1 - (((j+1:Nat):Int)+1).toNat<k+1 - ((j+1:Nat):Int).toNat;omega)
    refine Prod.ext ?_ rfl
    show 64*((Nc s i r j:Nat):Int)+_=((64*Nc s i r j+(s.getD (i+(j+1)) 0).toNat % 64:Nat):Int)
    omega
   ·have hne:((((s.getD (i+(j+1)) 0).toNat / 64:Nat):Int) % 256 != 2)=true:=by
      rw[bne_iff_ne];omega
    rw[hne,cond_true]
    have hbad:Je s i k=false:=by
      have: ∀ d,Je s i (j+1+d)=false:=by
        intro d
        induction d with
        | zero=>show(Je s i j&&decide _)=false;rw[decide_eq_false hc,Bool.and_false]
        | succ d ih=>show(Je s i (j+1+d)&&_)=false;rw[ih,Bool.false_and]
      have h:=this (k - (j+1))
      rwa [show j+1+(k - (j+1))=k by omega]at h
    rw[hbad];rfl
  ·have:j=k:=by omega
   subst this
   rw[decide_eq_false (by omega),cond_false,h2];rfl
theorem An9 (a:Nat) (h:a<256):Ba .and .i64 (a:Int) 15=((a % 16:Nat):Int):=by
  have: ∀ a:Fin 256,Ba .and .i64 ((a.val:Nat):Int) 15=((a.val % 16:Nat):Int):=by decide +kernel
  exact this ⟨a,h⟩
theorem and7 (a:Nat) (h:a<256):Ba .and .i64 (a:Int) 7=((a % 8:Nat):Int):=by
  have: ∀ a:Fin 256,Ba .and .i64 ((a.val:Nat):Int) 7=((a.val % 8:Nat):Int):=by decide +kernel
  exact this ⟨a,h⟩
theorem Abd (V:Nat) (mn:Int) (X Y:Option Bool):Vm.chk
        (!decide ((V:Int)>=55296) ||
            !(decide ((V:Int)<mn)||decide ((V:Int)>1114111)) &&
              decide ((V:Int)>=55296) ||
          (decide ((V:Int)<mn)||decide ((V:Int)>1114111)))
        (bif
            decide ((V:Int)<mn)||decide ((V:Int)>1114111) ||
              decide ((V:Int)>=55296)&&decide ((V:Int)<57344)then
          X
        else Y)=if(V:Int)<mn\/1114111<V\/(55296<=V/\V<57344)then X else Y:=by
  by_cases hc:(V:Int)<mn\/1114111<V\/(55296<=V/\V<57344)
  ·rw[if_pos hc]
   by_cases h1:(V:Int)<mn<;>by_cases h2:(V:Int)>1114111<;>by_cases h3:(V:Int)>=55296<;>by_cases h4:(V:Int)<57344<;>simp only[h1,h2,h3,h4,decide_true,decide_false]<;>first | rfl | (exfalso;omega)
  ·rw[if_neg hc]
   by_cases h1:(V:Int)<mn<;>by_cases h2:(V:Int)>1114111<;>by_cases h3:(V:Int)>=55296<;>by_cases h4:(V:Int)<57344<;>simp only[h1,h2,h3,h4,decide_true,decide_false]<;>first | rfl | (exfalso;omega)
theorem AcH (N:Nat) (s:Bs) (hN:s.length<N) (hN2:16<N) (hs:s.length<=1048576):PI N s=some (Gi s s.length 0):=by
  unfold PI
  try simp only[clR]
  refine Eq.trans (DI (I:=fun x:Int=> ∃ i:Nat,x=(i:Int)/\i<=s.length) (μ :=fun x=>s.length - x.toNat) (F:=fun x=>some (Gi s (s.length - x.toNat) x.toNat)) ?_ N 0 ⟨0,rfl,Nat.zero_le _⟩ (by show s.length - 0<N;omega)) rfl
  rintro x ⟨i,rfl,h1⟩ k hk
  rw[show((i:Int)).toNat=i by omega]
  by_cases hl:i<s.length
  ·obtain⟨n,hn⟩: ∃ n,s.length - i=n+1:=⟨s.length - i - 1,by omega⟩
   have hgo: ∀ w:Nat,Aal s i=some w->1<=w->i+w<=s.length->k (((i+w:Nat)):Int)=some (Gi s (s.length - i) i):=by
     intro w hw hw1 hw2
     rw[hk _ ⟨i+w,rfl,hw2⟩ (by show s.length - ((i+w:Nat):Int).toNat<s.length - ((i:Int)).toNat;omega)]
     rw[show(((i+w:Nat)):Int).toNat=i+w by omega,hn]
     conv=>rhs;unfold Gi
     rw[if_pos hl,hw]
     exact congrArg some (AfF s _ _ _ (Nat.le_refl _) (by omega))
   have hno:Aal s i=none->(some false:Option Bool)=some (Gi s (s.length - i) i):=by
     intro hw
     rw[hn]
     unfold Gi
     rw[if_pos hl,hw]
   have hb:=Ic (s.getD i 0)
   unfold Aal at hgo hno
   unfold chR at hgo hno
   generalize hb0:(s.getD i 0).toNat=b0 at *
   rw[decide_eq_true (show(i:Int)<(s.length:Int) by omega),cond_true,decide_eq_true (show(0:Int)<=(i:Int) by omega),Ai,Ai,FW]
   by_cases c1:b0<32\/b0=127
   ·rw[if_pos c1]at hno
    have hq:(decide ((b0:Int)<32)||((b0:Int)==127))=true:=by
      rw[Bool.or_eq_true,decide_eq_true_eq,beq_iff_eq];omega
    rw[hq,cond_true]
    exact hno rfl
   ·rw[if_neg c1]at hno
    simp only[if_neg c1]at hgo
    have hq:(decide ((b0:Int)<32)||((b0:Int)==127))=false:=by
      apply Bool.eq_false_iff.2
      rw[Ne,Bool.or_eq_true,decide_eq_true_eq,beq_iff_eq];omega
    rw[hq,cond_false]
    by_cases c2:b0<128
    ·simp only[if_pos c2]at hgo
     rw[decide_eq_true (by omega),cond_true,w64 (by omega) (by omega)]
     exact hgo 1 rfl (Nat.le_refl _) (by omega)
    ·rw[if_neg c2]at hno
     simp only[if_neg c2]at hgo
     rw[decide_eq_false (show ¬(b0:Int)<128 by omega),cond_false]
     by_cases c3:192<=b0/\b0<224
     ·rw[if_pos c3]at hno
      simp only[if_pos c3]at hgo
      rw[decide_eq_true (show(b0:Int)>=192 by omega),decide_eq_true (show(b0:Int)<224 by omega),Bool.and_self,cond_true]
      dsimp only[U3]
      by_cases c4:s.length - i<=1
      ·rw[if_pos (Or.inl c4)]at hno
       rw[w64 (x:=(s.length:Int) - (i:Int)) (by omega) (by omega),decide_eq_true (show((s.length:Int) - (i:Int))<=1 by omega),cond_true]
       exact hno rfl
      ·rw[w64 (x:=(s.length:Int) - (i:Int)) (by omega) (by omega),decide_eq_false (show ¬((s.length:Int) - (i:Int))<=1 by omega),cond_false]
       rw[show(Ba BinOp.and i64 (i64.wrap (b0:Int)) (i64.wrap (i64.wrap (1*2 ^ min (i64.wrap (6 - 1)).toNat 64) - 1)))=((b0 % 32:Nat):Int) by rw[w64 (x:=(b0:Int)) (by omega) (by omega)];exact Ag8 b0 (by omega)]
       have hcl:=gY N s i 1 (b0 % 32) (by omega) hN2 (by omega) (by omega) hs (some false:Option Bool)
       rw[show(decide ((0:Int)<=i64.wrap (6 - 1)))=true by decide,Ai]
       refine(hcl _).trans ?_
       rw[Abd,show Je s i 1=decide ((s.getD (i+1) 0).toNat / 64=2)from rfl,show Nc s i (b0 % 32) 1=64*(b0 % 32)+(s.getD (i+1) 0).toNat % 64 from rfl]
       have hb1:=Ic (s.getD (i+1) 0)
       generalize (s.getD (i+1) 0).toNat=b1 at hno hgo hb1 ⊢
       by_cases c5:b1 / 64=2
       ·rw[if_pos (by rw[decide_eq_true c5])]
        rw[if_neg (by omega)]at hno
        simp only[if_neg (show ¬(s.length - i<=1\/b1 / 64≠2) by omega)]at hgo
        by_cases c6:b0 % 32*64+b1 % 64<128
        ·rw[if_pos c6]at hno
         rw[if_pos (by omega)]
         exact hno rfl
        ·simp only[if_neg c6]at hgo
         rw[if_neg (by omega),w64 (x:=1+1) (by omega) (by omega),w64 (by omega) (by omega)]
         exact hgo 2 rfl (by omega) (by omega)
       ·rw[if_neg (by rw[decide_eq_false c5];decide)]
        rw[if_pos (Or.inr c5)]at hno
        exact hno rfl
     ·rw[if_neg c3]at hno
      simp only[if_neg c3]at hgo
      rw[show(decide ((b0:Int)>=192)&&decide ((b0:Int)<224))=false by simp only[Bool.and_eq_false_iff,decide_eq_false_iff_not];omega,cond_false]
      by_cases d3:224<=b0/\b0<240
      ·rw[if_pos d3]at hno
       simp only[if_pos d3]at hgo
       rw[decide_eq_true (show(b0:Int)>=224 by omega),decide_eq_true (show(b0:Int)<240 by omega),Bool.and_self,cond_true]
       dsimp only[U3]
       by_cases c4:s.length - i<=2
       ·rw[if_pos (Or.inl c4)]at hno
        rw[w64 (x:=(s.length:Int) - (i:Int)) (by omega) (by omega),decide_eq_true (show((s.length:Int) - (i:Int))<=2 by omega),cond_true]
        exact hno rfl
       ·rw[w64 (x:=(s.length:Int) - (i:Int)) (by omega) (by omega),decide_eq_false (show ¬((s.length:Int) - (i:Int))<=2 by omega),cond_false]
        rw[show(Ba BinOp.and i64 (i64.wrap (b0:Int)) (i64.wrap (i64.wrap (1*2 ^ min (i64.wrap (6 - 2)).toNat 64) - 1)))=((b0 % 16:Nat):Int) by rw[w64 (x:=(b0:Int)) (by omega) (by omega)];exact An9 b0 (by omega)]
        have hcl:=gY N s i 2 (b0 % 16) (by omega) hN2 (by omega) (by omega) hs (some false:Option Bool)
        rw[show(decide ((0:Int)<=i64.wrap (6 - 2)))=true by decide,Ai]
        refine(hcl _).trans ?_
        rw[Abd,show Je s i 2=(decide ((s.getD (i+1) 0).toNat / 64=2)&&decide ((s.getD (i+2) 0).toNat / 64=2))from rfl,show Nc s i (b0 % 16) 2=64*(64*(b0 % 16)+(s.getD (i+1) 0).toNat % 64)+(s.getD (i+2) 0).toNat % 64 from rfl]
        have hb1:=Ic (s.getD (i+1) 0)
        have hb2:=Ic (s.getD (i+2) 0)
        generalize (s.getD (i+1) 0).toNat=b1 at hno hgo hb1 ⊢
        generalize (s.getD (i+2) 0).toNat=b2 at hno hgo hb2 ⊢
        by_cases c5:b1 / 64=2/\b2 / 64=2
        ·rw[if_pos (show(decide (b1 / 64=2)&&decide (b2 / 64=2))=true by simp only[c5,decide_true,Bool.and_self])]
         rw[if_neg (show ¬(s.length - i<=2\/b1 / 64≠2\/b2 / 64≠2) by omega)]at hno
         simp only[if_neg (show ¬(s.length - i<=2\/b1 / 64≠2\/b2 / 64≠2) by omega)]at hgo
         by_cases c6:b0 % 16*4096+b1 % 64*64+b2 % 64<2048\/(55296<=b0 % 16*4096+b1 % 64*64+b2 % 64/\b0 % 16*4096+b1 % 64*64+b2 % 64<57344)
         ·rw[if_pos c6]at hno
          rw[if_pos (by omega)]
          exact hno rfl
         ·simp only[if_neg c6]at hgo
          rw[if_neg (by omega),w64 (x:=2+1) (by omega) (by omega),w64 (by omega) (by omega)]
          exact hgo 3 rfl (by omega) (by omega)
        ·rw[if_neg (show ¬(decide (b1 / 64=2)&&decide (b2 / 64=2))=true by simp only[Bool.and_eq_true,decide_eq_true_eq];omega)]
         rw[if_pos (show s.length - i<=2\/b1 / 64≠2\/b2 / 64≠2 by omega)]at hno
         exact hno rfl
      ·rw[if_neg d3]at hno
       simp only[if_neg d3]at hgo
       rw[show(decide ((b0:Int)>=224)&&decide ((b0:Int)<240))=false by simp only[Bool.and_eq_false_iff,decide_eq_false_iff_not];omega,cond_false]
       by_cases e3:240<=b0/\b0<248
       ·rw[if_pos e3]at hno
        simp only[if_pos e3]at hgo
        rw[decide_eq_true (show(b0:Int)>=240 by omega),decide_eq_true (show(b0:Int)<248 by omega),Bool.and_self,cond_true]
        dsimp only[U3]
        by_cases c4:s.length - i<=3
        ·rw[if_pos (Or.inl c4)]at hno
         rw[w64 (x:=(s.length:Int) - (i:Int)) (by omega) (by omega),decide_eq_true (show((s.length:Int) - (i:Int))<=3 by omega),cond_true]
         exact hno rfl
        ·rw[w64 (x:=(s.length:Int) - (i:Int)) (by omega) (by omega),decide_eq_false (show ¬((s.length:Int) - (i:Int))<=3 by omega),cond_false]
         rw[show(Ba BinOp.and i64 (i64.wrap (b0:Int)) (i64.wrap (i64.wrap (1*2 ^ min (i64.wrap (6 - 3)).toNat 64) - 1)))=((b0 % 8:Nat):Int) by rw[w64 (x:=(b0:Int)) (by omega) (by omega)];exact and7 b0 (by omega)]
         have hcl:=gY N s i 3 (b0 % 8) (by omega) hN2 (by omega) (by omega) hs (some false:Option Bool)
         rw[show(decide ((0:Int)<=i64.wrap (6 - 3)))=true by decide,Ai]
         refine(hcl _).trans ?_
         rw[Abd,show Je s i 3=(decide ((s.getD (i+1) 0).toNat / 64=2)&&decide ((s.getD (i+2) 0).toNat / 64=2)&&decide ((s.getD (i+3) 0).toNat / 64=2))from rfl,show Nc s i (b0 % 8) 3=64*(64*(64*(b0 % 8)+(s.getD (i+1) 0).toNat % 64)+(s.getD (i+2) 0).toNat % 64)+(s.getD (i+3) 0).toNat % 64 from rfl]
         have hb1:=Ic (s.getD (i+1) 0)
         have hb2:=Ic (s.getD (i+2) 0)
         have hb3:=Ic (s.getD (i+3) 0)
         generalize (s.getD (i+1) 0).toNat=b1 at hno hgo hb1 ⊢
         generalize (s.getD (i+2) 0).toNat=b2 at hno hgo hb2 ⊢
         generalize (s.getD (i+3) 0).toNat=b3 at hno hgo hb3 ⊢
         by_cases c5:b1 / 64=2/\b2 / 64=2/\b3 / 64=2
         ·rw[if_pos (show(decide (b1 / 64=2)&&decide (b2 / 64=2)&&decide (b3 / 64=2))=true by simp only[c5,decide_true,Bool.and_self])]
          rw[if_neg (show ¬(s.length - i<=3\/b1 / 64≠2\/b2 / 64≠2\/b3 / 64≠2) by omega)]at hno
          simp only[if_neg (show ¬(s.length - i<=3\/b1 / 64≠2\/b2 / 64≠2\/b3 / 64≠2) by omega)]at hgo
          by_cases c6:b0 % 8*262144+b1 % 64*4096+b2 % 64*64+b3 % 64<65536\/1114111<b0 % 8*262144+b1 % 64*4096+b2 % 64*64+b3 % 64
          ·rw[if_pos c6]at hno
           rw[if_pos (by omega)]
           exact hno rfl
          ·simp only[if_neg c6]at hgo
           rw[if_neg (by omega),w64 (x:=3+1) (by omega) (by omega),w64 (by omega) (by omega)]
           exact hgo 4 rfl (by omega) (by omega)
         ·rw[if_neg (show ¬(decide (b1 / 64=2)&&decide (b2 / 64=2)&&decide (b3 / 64=2))=true by simp only[Bool.and_eq_true,decide_eq_true_eq];omega)]
          rw[if_pos (show s.length - i<=3\/b1 / 64≠2\/b2 / 64≠2\/b3 / 64≠2 by omega)]at hno
          exact hno rfl
       ·rw[if_neg e3]at hno
        rw[show(decide ((b0:Int)>=240)&&decide ((b0:Int)<248))=false by simp only[Bool.and_eq_false_iff,decide_eq_false_iff_not];omega,cond_false]
        exact hno rfl
  ·rw[decide_eq_false (by omega),cond_false,show s.length - i=0 by omega]
   rfl
def KW (t:Int) (s:Bs):Bool:=if t=12 then Gi s s.length 0 else if t=19 then s.all prC else if t=22 then s.all iaC else false
theorem AcR (N:Nat) (t:Int) (s:Bs) (hl:s.length<N) (hs:s.length<=1048576):IW N t s=some (KW t s):=by
  unfold KW
  by_cases h1:t=12
  ·subst h1
   rw[if_pos rfl]
   show Ac (aT N s) (fun r=>some r)=_
   unfold aT
   rw[decide_eq_true (by omega)]
   show some (Aii s)=_
   unfold Aii
   rw[An7]
  ·rw[if_neg h1]
   by_cases h2:t=19
   ·subst h2;rw[if_pos rfl];exact AjM N s hl hs
   ·rw[if_neg h2]
    by_cases h3:t=22
    ·subst h3;rw[if_pos rfl];exact AjN N s hl hs
    ·rw[if_neg h3]
     unfold IW
     rw[show(t==12)=false from beq_false_of_ne h1,show(t==19)=false from beq_false_of_ne h2,show(t==22)=false from beq_false_of_ne h3]
     rfl
theorem kN (N:Nat) (t:Int) (s:Bs) (hl:s.length<N) (hs:s.length<=1048576) (hN:16<N):Dw N t s=some (KW t s):=by
  unfold KW
  by_cases h1:t=12
  ·subst h1
   rw[if_pos rfl]
   show Ac (PI N s) (fun r=>some r)=_
   rw[AcH N s hl hN hs];rfl
  ·rw[if_neg h1]
   by_cases h2:t=19
   ·subst h2;rw[if_pos rfl];exact Ad6 N s hl hs hN
   ·rw[if_neg h2]
    by_cases h3:t=22
    ·subst h3;rw[if_pos rfl];exact Ad7 N s hl hs
    ·rw[if_neg h3]
     unfold Dw
     rw[show(t==12)=false from beq_false_of_ne h1,show(t==19)=false from beq_false_of_ne h2,show(t==22)=false from beq_false_of_ne h3]
     rfl
abbrev Att:Type:=Bs×Int×Bs
def G5 (e:Att) (seen:List Att):Int :=
  if Dt e.1=none then 11
  else if e.2.2=[]\/KW e.2.1 e.2.2=false then 13
  else if 64<e.2.2.length then 2
  else if seen.any (fun x=>x.1==e.1)=true then 10 else 0
theorem Aj6 (N:Nat) (q:List Att) (e:Att) (hl:q.length<N) (hs:q.length<=1048576) (fin:Unit->Option Int) :
    Ap (X:=Int×Bs×Int×Bs) (Y:=Unit) (U4 fun t43b b33792_0b b33792_1b b33792_2b k3 x4 =>
                         bif decide (t43b< ↑q.length)then
                           Vm.chk (decide (0<=t43b))
                             (Vm.chk (decide (t43b< ↑q.length))
                               (bif (q.getD t43b.toNat ([],0,[])).1==b33792_0b then
                                 some 10
                               else k3 (i64.wrap (t43b+1),b33792_0b,b33792_1b,b33792_2b)))
                         else x4 ()) N (0,e.1,e.2.1,e.2.2) fin=if q.any (fun x=>x.1==e.1)=true then some 10 else fin ():=by
  refine Eq.trans (DY (S:=Unit) (mk:=fun i _=>(i,e.1,e.2.1,e.2.2)) (out:=fun a=>a) q ([],0,[]) (fun _ _=>True) (fun x (_:Unit)=>if(!(x.1==e.1))=true then .inr ()else .inl (some 10)) ?_ ?_ N () trivial hl) ?_
  ·intro i a hi _
   refine Hf (p:=fun x:Att=> !(x.1==e.1)) (fun h k=> ?_) (fun h=>⟨fun k=> ?_,trivial⟩)
   ·dsimp only[U4]
    have h':((q.getD i ([],0,[])).1==e.1)=true:=by simpa using h
    rw[show((i:Int)).toNat=i by omega,decide_eq_true (by omega),cond_true,decide_eq_true (by omega),Ai,Ai,h',cond_true]
   ·dsimp only[U4]
    have h':((q.getD i ([],0,[])).1==e.1)=false:=by simpa using h
    rw[show((i:Int)).toNat=i by omega,decide_eq_true (by omega),cond_true,decide_eq_true (by omega),Ai,Ai,h',cond_false,w64 (by omega) (by omega)]
  ·intro a k _
   dsimp only[U4]
   rw[decide_eq_false (by omega),cond_false]
  ·rw[OA (p:=fun x:Att=> !(x.1==e.1))]
   rw[show q.any (fun x=>x.1==e.1)= !(q.all fun x=> !(x.1==e.1)) by rw[List.not_all_eq_any_not];simp]
   cases q.all fun x=> !(x.1==e.1)<;>rfl
def KO (e:Att):Prop:=e.1.length<=1048576/\e.2.2.length<=1048576
def KX (e:Att) (seen:List Att):Option Int ⊕ List Att:=if G5 e seen=0 then .inr (seen++[e])else .inl (some (G5 e seen))
def AeO (p:List Att):Option Int:=Iu KX (fun _=>some 0) p []
theorem nN (v:Bs):(v==[])=decide (v=[]):=by cases v<;>rfl
theorem AfI (N:Nat) (p:List Att) (hN:1048578<N) (hp: ∀ e∈p,KO e):EC N p=if p=[]then some 14 else if 4<p.length then some 2 else AeO p:=by
  unfold EC
  try simp only[clR]
  by_cases h0:p=[]
  ·subst h0;rfl
  ·have hpos:=List.length_pos_iff.2 h0
   have hb:(((p.length:Nat):Int)==0)=false:=beq_false_of_ne (by omega)
   rw[hb,cond_false,if_neg h0]
   by_cases h4:4<p.length
   ·rw[if_pos h4,decide_eq_true (by omega),cond_true]
   ·rw[if_neg h4,decide_eq_false (by omega),cond_false]
    refine RF (S:=List Att) (mk:=fun i _=>i) p ([],0,[]) (fun i s=>s=p.take i) KX (fun _=>some 0) ?_ ?_ N [] rfl (by omega)
    ·intro i s hi hs
     subst hs
     have hm:=hp p[i] (List.getElem_mem hi)
     have hcut:Ar p 0 i=p.take i:=rfl
     have htk:p.take i++[p[i]]=p.take (i+1):=by rw[List.take_add_one,List.getElem?_eq_getElem hi];rfl
     have hlt:(p.take i).length<=4:=by rw[List.length_take];omega
     rw[getD_lt p i _ hi]
     generalize he:p[i]=e at hm htk
     have ho:=(Ul N e.1 (by omega) hm.1 (by have:=hm.1;omega)).1
     have ht:=AcR N e.2.1 e.2.2 (by have:=hm.2;omega) hm.2
     have hsl:=fun fin=>Aj6 N (p.take i) e (by omega) (by omega) fin
     unfold KX
     by_cases a1:Dt e.1=none
     ·have hat:G5 e (p.take i)=11:=by unfold G5;rw[if_pos a1]
      rw[hat,if_neg (by decide)]
      intro k
      dsimp only
      rw[show((i:Int)).toNat=i by omega,getD_lt p i _ hi,he,decide_eq_true (show(i:Int)<(p.length:Int) by omega),cond_true,decide_eq_true (show(0:Int)<=(i:Int) by omega),Ai,Ai,ho,Ae,a1]
      rfl
     ·have hsome:(Dt e.1).isSome=true:=by cases hq:Dt e.1 with
        | none=>exact absurd hq a1
        | some l=>rfl
      rw[hsome]at ho
      by_cases a2:e.2.2=[]\/KW e.2.1 e.2.2=false
      ·have hat:G5 e (p.take i)=13:=by unfold G5;rw[if_neg a1,if_pos a2]
       rw[hat,if_neg (by decide)]
       intro k
       dsimp only
       rw[show((i:Int)).toNat=i by omega,getD_lt p i _ hi,he,decide_eq_true (show(i:Int)<(p.length:Int) by omega),cond_true,decide_eq_true (show(0:Int)<=(i:Int) by omega),Ai,Ai,ho,Ae,ht,nN]
       rcases a2 with a2 | a2
       ·rw[decide_eq_true a2];rfl
       ·rw[a2];cases decide (e.2.2=[])<;>rfl
      ·have a3: ¬ e.2.2=[]:=fun h=>a2 (Or.inl h)
       have a4:KW e.2.1 e.2.2=true:=by
         cases hq:KW e.2.1 e.2.2 with
         | true=>rfl
         | false=>exact absurd (Or.inr hq) a2
       by_cases a5:64<e.2.2.length
       ·have hat:G5 e (p.take i)=2:=by unfold G5;rw[if_neg a1,if_neg a2,if_pos a5]
        rw[hat,if_neg (by decide)]
        intro k
        dsimp only
        rw[show((i:Int)).toNat=i by omega,getD_lt p i _ hi,he,decide_eq_true (show(i:Int)<(p.length:Int) by omega),cond_true,decide_eq_true (show(0:Int)<=(i:Int) by omega),Ai,Ai,ho,Ae,ht,nN,decide_eq_false a3,a4]
        rw[decide_eq_true (show(e.2.2.length:Int)>64 by omega)]
        rfl
       ·have hat:G5 e (p.take i)=if(p.take i).any (fun x=>x.1==e.1)=true then 10 else 0:=by unfold G5;rw[if_neg a1,if_neg a2,if_neg a5]
        have go: ∀ k:Int->Option Int,(bif decide ((i:Int)<(p.length:Int))then k (i64.wrap ((i:Int)+1))else none)=k ((i:Int)+1):=fun k=>by
          rw[decide_eq_true (by omega),cond_true,w64 (by omega) (by omega)]
        have hw:i64.wrap ((i:Int)+1)=(i:Int)+1:=w64 (by omega) (by omega)
        rw[hat]
        by_cases a6:(p.take i).any (fun x=>x.1==e.1)=true
        ·rw[if_pos a6,if_neg (by decide)]
         intro k
         dsimp only
         rw[show((i:Int)).toNat=i by omega,getD_lt p i _ hi,he,decide_eq_true (show(i:Int)<(p.length:Int) by omega),cond_true,decide_eq_true (show(0:Int)<=(i:Int) by omega),Ai,Ai,ho,Ae,ht,nN,decide_eq_false a3,a4,decide_eq_false (show ¬(e.2.2.length:Int)>64 by omega),decide_eq_true (show(i:Int)<=(p.length:Int) by omega),hcut,hsl,if_pos a6]
         rfl
        ·rw[if_neg a6,if_pos rfl]
         refine⟨fun k=> ?_,htk⟩
         dsimp only
         rw[show((i:Int)).toNat=i by omega,getD_lt p i _ hi,he,decide_eq_true (show(i:Int)<(p.length:Int) by omega),cond_true,decide_eq_true (show(0:Int)<=(i:Int) by omega),Ai,Ai,ho,Ae,ht,nN,decide_eq_false a3,a4,decide_eq_false (show ¬(e.2.2.length:Int)>64 by omega),decide_eq_true (show(i:Int)<=(p.length:Int) by omega),hcut,hsl,if_neg a6,hw]
         rfl
    ·intro s k _
     rw[decide_eq_false (by omega),cond_false]
theorem AhS (N:Nat) (p:List Att) (i:Nat) (e:Att) (hi:i<=p.length) (hl:i<N) (hs:i<=1048576) (fin:Unit->Option Int) :
    Ap (X:=Int×Bs×Int×Bs) (Y:=Unit) (U4 fun t5b b33792_0b b33792_1b b33792_2b k3 x4 =>
                   bif decide (t5b<(i:Int))then
                     Vm.chk (decide (0<=t5b))
                       (Vm.chk (decide (t5b< ↑(List.length p)))
                         (bif (List.getD p t5b.toNat ([],0,[])).1==b33792_0b then some 10
                         else k3 (i64.wrap (t5b+1),b33792_0b,b33792_1b,b33792_2b)))
                   else x4 ()) N (0,e.1,e.2.1,e.2.2) fin=if(p.take i).any (fun x=>x.1==e.1)=true then some 10 else fin ():=by
  have hlen:(p.take i).length=i:=by rw[List.length_take];omega
  refine Eq.trans (DY (S:=Unit) (mk:=fun i _=>(i,e.1,e.2.1,e.2.2)) (out:=fun a=>a) (p.take i) ([],0,[]) (fun _ _=>True) (fun x (_:Unit)=>if(!(x.1==e.1))=true then .inr ()else .inl (some 10)) ?_ ?_ N () trivial (by omega)) ?_
  ·intro j a hj _
   have hg:(p.take i).getD j ([],0,[])=p.getD j ([],0,[]):=by
     rw[getD_lt _ j _ hj,getD_lt p j _ (by omega),List.getElem_take]
   rw[hg]
   refine Hf (p:=fun x:Att=> !(x.1==e.1)) (fun h k=> ?_) (fun h=>⟨fun k=> ?_,trivial⟩)
   ·dsimp only[U4]
    have h':((p.getD j ([],0,[])).1==e.1)=true:=by simpa using h
    rw[show((j:Int)).toNat=j by omega,decide_eq_true (by omega),cond_true,decide_eq_true (by omega),Ai,decide_eq_true (by omega),Ai,h',cond_true]
   ·dsimp only[U4]
    have h':((p.getD j ([],0,[])).1==e.1)=false:=by simpa using h
    rw[show((j:Int)).toNat=j by omega,decide_eq_true (by omega),cond_true,decide_eq_true (by omega),Ai,decide_eq_true (by omega),Ai,h',cond_false,w64 (by omega) (by omega)]
  ·intro a k _
   dsimp only[U4]
   rw[decide_eq_false (by omega),cond_false]
  ·rw[OA (p:=fun x:Att=> !(x.1==e.1))]
   rw[show(p.take i).any (fun x=>x.1==e.1)= !((p.take i).all fun x=> !(x.1==e.1)) by rw[List.not_all_eq_any_not];simp]
   cases (p.take i).all fun x=> !(x.1==e.1)<;>rfl
theorem nI (v:Bs):(((v.length:Nat):Int)==0)=decide (v=[]):=by
  cases v with
  | nil=>rfl
  | cons a r=>rw[decide_eq_false (by simp)];exact beq_false_of_ne (by rw[List.length_cons];omega)
theorem Acb (N:Nat) (p:List Att) (hN:1048578<N) (hp: ∀ e∈p,KO e) (h4:p.length<=4):CX N p=AeO p:=by
  unfold CX
  try simp only[clR]
  refine RF (S:=List Att) (mk:=fun i _=>i) p ([],0,[]) (fun i s=>s=p.take i) KX (fun _=>some 0) ?_ ?_ N [] rfl (by omega)
  ·intro i s hi hs
   subst hs
   have hm:=hp p[i] (List.getElem_mem hi)
   have htk:p.take i++[p[i]]=p.take (i+1):=by rw[List.take_add_one,List.getElem?_eq_getElem hi];rfl
   have hlt:(p.take i).length<=4:=by rw[List.length_take];omega
   rw[getD_lt p i _ hi]
   generalize he:p[i]=e at hm htk
   have ho:=(Ul N e.1 (by omega) hm.1 (by have:=hm.1;omega)).2
   have ht:=kN N e.2.1 e.2.2 (by have:=hm.2;omega) hm.2 (by omega)
   have hsl:=fun fin=>AhS N p i e (by omega) (by omega) (by omega) fin
   unfold KX
   by_cases a1:Dt e.1=none
   ·have hat:G5 e (p.take i)=11:=by unfold G5;rw[if_pos a1]
    rw[hat,if_neg (by decide)]
    intro k
    dsimp only
    rw[show((i:Int)).toNat=i by omega,getD_lt p i _ hi,he,decide_eq_true (show(i:Int)<(p.length:Int) by omega),cond_true,decide_eq_true (show(0:Int)<=(i:Int) by omega),Ai,Ai,ho,Ae,a1]
    rfl
   ·have hsome:(Dt e.1).isSome=true:=by cases hq:Dt e.1 with
      | none=>exact absurd hq a1
      | some l=>rfl
    rw[hsome]at ho
    by_cases a2:e.2.2=[]\/KW e.2.1 e.2.2=false
    ·have hat:G5 e (p.take i)=13:=by unfold G5;rw[if_neg a1,if_pos a2]
     rw[hat,if_neg (by decide)]
     intro k
     dsimp only
     rw[show((i:Int)).toNat=i by omega,getD_lt p i _ hi,he,decide_eq_true (show(i:Int)<(p.length:Int) by omega),cond_true,decide_eq_true (show(0:Int)<=(i:Int) by omega),Ai,Ai,ho,Ae,ht,nI]
     rcases a2 with a2 | a2
     ·rw[decide_eq_true a2];rfl
     ·rw[a2];cases decide (e.2.2=[])<;>rfl
    ·have a3: ¬ e.2.2=[]:=fun h=>a2 (Or.inl h)
     have a4:KW e.2.1 e.2.2=true:=by
       cases hq:KW e.2.1 e.2.2 with
       | true=>rfl
       | false=>exact absurd (Or.inr hq) a2
     by_cases a5:64<e.2.2.length
     ·have hat:G5 e (p.take i)=2:=by unfold G5;rw[if_neg a1,if_neg a2,if_pos a5]
      rw[hat,if_neg (by decide)]
      intro k
      dsimp only
      rw[show((i:Int)).toNat=i by omega,getD_lt p i _ hi,he,decide_eq_true (show(i:Int)<(p.length:Int) by omega),cond_true,decide_eq_true (show(0:Int)<=(i:Int) by omega),Ai,Ai,ho,Ae,ht,nI,decide_eq_false a3,a4]
      rw[decide_eq_true (show(e.2.2.length:Int)>64 by omega)]
      rfl
     ·have hat:G5 e (p.take i)=if(p.take i).any (fun x=>x.1==e.1)=true then 10 else 0:=by unfold G5;rw[if_neg a1,if_neg a2,if_neg a5]
      have go: ∀ k:Int->Option Int,(bif decide ((i:Int)<(p.length:Int))then k (i64.wrap ((i:Int)+1))else none)=k ((i:Int)+1):=fun k=>by
        rw[decide_eq_true (by omega),cond_true,w64 (by omega) (by omega)]
      have hw:i64.wrap ((i:Int)+1)=(i:Int)+1:=w64 (by omega) (by omega)
      rw[hat]
      by_cases a6:(p.take i).any (fun x=>x.1==e.1)=true
      ·rw[if_pos a6,if_neg (by decide)]
       intro k
       dsimp only
       rw[show((i:Int)).toNat=i by omega,getD_lt p i _ hi,he,decide_eq_true (show(i:Int)<(p.length:Int) by omega),cond_true,decide_eq_true (show(0:Int)<=(i:Int) by omega),Ai,Ai,ho,Ae,ht,nI,decide_eq_false a3,a4,decide_eq_false (show ¬(e.2.2.length:Int)>64 by omega),hsl,if_pos a6]
       rfl
      ·rw[if_neg a6,if_pos rfl]
       refine⟨fun k=> ?_,htk⟩
       dsimp only
       rw[show((i:Int)).toNat=i by omega,getD_lt p i _ hi,he,decide_eq_true (show(i:Int)<(p.length:Int) by omega),cond_true,decide_eq_true (show(0:Int)<=(i:Int) by omega),Ai,Ai,ho,Ae,ht,nI,decide_eq_false a3,a4,decide_eq_false (show ¬(e.2.2.length:Int)>64 by omega),hsl,if_neg a6,hw]
       rfl
  ·intro s k _
   rw[decide_eq_false (by omega),cond_false]
theorem AbM (p:List Att): ∃ v,AeO p=some v:=by
  have: ∀(l s:List Att),∃ v,Iu KX (fun _=>some 0) l s=some v:=by
    intro l
    induction l with
    | nil=>intro s;exact⟨0,rfl⟩
    | cons e r ih =>
      intro s
      unfold Iu KX
      by_cases h:G5 e s=0
      ·rw[if_pos h];exact ih _
      ·rw[if_neg h];exact⟨_,rfl⟩
  exact this p []
def KL (p:List Att):Int:=if p=[]then 14 else if 4<p.length then 2 else(AeO p).getD 0
theorem Amk (N:Nat) (p:List Att) (hN:1048578<N) (hp: ∀ e∈p,KO e):EC N p=some (KL p):=by
  rw[AfI N p hN hp]
  unfold KL
  obtain⟨v,hv⟩:=AbM p
  rw[hv]
  split
  ·rfl
  ·split<;>rfl
def Pq (p:List Att) (_:Unit):Option Int ⊕ Unit:=if KL p=0 then .inr ()else .inl (some (KL p))
def Ua (n:List (List Att)):Option Int:=if 8<n.length then some 2 else Iu Pq (fun _=>some 0) n ()
def DF (n:List (List Att)):Prop:= ∀ p∈n,∀ e∈p,KO e
theorem Aas (N:Nat) (n:List (List Att)) (hN:1048578<N) (hn:DF n):EN N n=Ua n:=by
  unfold EN Ua
  by_cases h8:8<n.length
  ·rw[if_pos h8,decide_eq_true (by omega),cond_true]
  ·rw[if_neg h8,decide_eq_false (by omega),cond_false]
   refine RF (S:=Unit) (mk:=fun i _=>i) n [] (fun _ _=>True) Pq (fun _=>some 0) ?_ ?_ N () trivial (by omega)
   ·intro i s hi _
    rw[getD_lt n i [] hi]
    have hr:=Amk N n[i] hN (hn _ (List.getElem_mem hi))
    unfold Pq
    by_cases h:KL n[i]=0
    ·rw[if_pos h]
     refine⟨fun k=> ?_,trivial⟩
     dsimp only
     rw[show((i:Int)).toNat=i by omega,getD_lt n i [] hi,decide_eq_true (by omega),cond_true,decide_eq_true (by omega),Ai,Ai,hr,Ae,h,w64 (by omega) (by omega)]
     rfl
    ·rw[if_neg h]
     intro k
     dsimp only
     rw[show((i:Int)).toNat=i by omega,getD_lt n i [] hi,decide_eq_true (by omega),cond_true,decide_eq_true (by omega),Ai,Ai,hr,Ae,show(KL n[i] != 0)=true from bne_iff_ne.2 h,cond_true]
   ·intro s k _
    rw[decide_eq_false (by omega),cond_false]
theorem Adx (N:Nat) (n:List (List Att)) (hN:1048578<N) (hn:DF n):Dx N n=Ua n:=by
  unfold Dx Ua
  by_cases h8:8<n.length
  ·rw[if_pos h8,decide_eq_true (by omega),cond_true]
  ·rw[if_neg h8,decide_eq_false (by omega),cond_false]
   refine RF (S:=Unit) (mk:=fun i _=>i) n [] (fun _ _=>True) Pq (fun _=>some 0) ?_ ?_ N () trivial (by omega)
   ·intro i s hi _
    rw[getD_lt n i [] hi]
    have ha:=fun(h4:(n[i]).length<=4)=>Acb N n[i] hN (hn _ (List.getElem_mem hi)) h4
    obtain⟨v,hv⟩:=AbM n[i]
    have pre: ∀(A:Option Int) (K:List Att->Option Int),(bif decide ((i:Int)<(n.length:Int))then Vm.chk (decide ((0:Int)<=(i:Int))) (Vm.chk (decide ((i:Int)<(n.length:Int))) (K (n.getD (i:Int).toNat [])))else A)=K n[i]:=by
      intro A K
      rw[show((i:Int)).toNat=i by omega,getD_lt n i [] hi,decide_eq_true (by omega),cond_true,decide_eq_true (by omega),Ai,Ai]
    have key: ∀ k:Int->Option Int,(bif (((n[i].length:Nat):Int)==0)then some 14 else bif decide ((n[i].length:Int)>4)then some 2 else Ac (CX N n[i]) fun r=>bif r != 0 then some r else k (i64.wrap ((i:Int)+1)))=if KL n[i]=0 then k ((i:Int)+1)else some (KL n[i]):=by
      intro k
      unfold KL
      by_cases h0:n[i]=[]
      ·rw[h0];rfl
      ·have hpos:=List.length_pos_iff.2 h0
       rw[show(((n[i].length:Nat):Int)==0)=false from beq_false_of_ne (by omega),cond_false]
       simp only[if_neg h0]
       by_cases h4:4<n[i].length
       ·rw[decide_eq_true (by omega),cond_true];simp only[if_pos h4];rfl
       ·rw[decide_eq_false (by omega),cond_false,ha (by omega),hv,Ae,w64 (by omega) (by omega)]
        simp only[if_neg h4,Option.getD_some]
        by_cases hz:v=0
        ·rw[if_pos hz,hz];rfl
        ·rw[if_neg hz,show(v != 0)=true from bne_iff_ne.2 hz,cond_true]
    unfold Pq
    by_cases h:KL n[i]=0
    ·rw[if_pos h]
     refine⟨fun k=> ?_,trivial⟩
     refine(pre _ (fun a=>bif (((a.length:Nat):Int)==0)then some 14 else bif decide ((a.length:Int)>4)then some 2 else Ac (CX N a) fun r=>bif r != 0 then some r else k (i64.wrap ((i:Int)+1)))).trans ?_
     refine(key k).trans ?_
     rw[if_pos h]
    ·rw[if_neg h]
     intro k
     refine(pre _ (fun a=>bif (((a.length:Nat):Int)==0)then some 14 else bif decide ((a.length:Int)>4)then some 2 else Ac (CX N a) fun r=>bif r != 0 then some r else k (i64.wrap ((i:Int)+1)))).trans ?_
     refine(key k).trans ?_
     rw[if_neg h]
   ·intro s k _
    rw[decide_eq_false (by omega),cond_false]
end Go.Proofs.YtadefjgbcapakaaGreatDoor.Pl
namespace Go.Proofs.YtadefjgbcapakaaGreatDoor.Sp
def beNat (l:List UInt8):Nat:=l.foldl (fun v b=>v*256+b.toNat) 0
def leastOf (k:Nat):Nat:=if k=1 then 128 else 2 ^ (8*(k - 1))
theorem AgD (l:List UInt8) (b:UInt8):beNat (l++[b])=beNat l*256+b.toNat:=by simp [beNat,List.foldl_append]
theorem AjV (l:List UInt8):beNat l<256 ^ l.length:=by
  have h: ∀(l:List UInt8) (v h:Nat),v<h->l.foldl (fun v b=>v*256+b.toNat) v<h*256 ^ l.length:=by
    intro l
    induction l with
    | nil=>intro v h hv;simpa using hv
    | cons b r ih =>
      intro v h hv
      have hb:=b.toNat_lt
      have:=ih (v*256+b.toNat) (h*256) (by omega)
      rw[List.foldl_cons,List.length_cons,Nat.pow_succ]
      rw[Nat.mul_comm (256 ^ r.length) 256,<- Nat.mul_assoc];exact this
  have:=h l 0 1 (by omega)
  simpa [beNat]using this
def head (l:List UInt8):Int×Nat×Nat :=
  match l with
  | []=>(3,0,0)
  | t::r =>
    if t.toNat % 32=31 then(5,0,0)else
    match r with
    | []=>(3,0,0)
    | n::r =>
      if n.toNat<128 then(0,2,n.toNat)else
      if n.toNat=128\/131<n.toNat then(6,0,0)else
      if r.length<n.toNat - 128 then(3,0,0)else
      if beNat (r.take (n.toNat - 128))<leastOf (n.toNat - 128)\/131072<beNat (r.take (n.toNat - 128))then(6,0,0)else
      (0,2+(n.toNat - 128),beNat (r.take (n.toNat - 128)))
def rd (l:List UInt8):Int×Nat×Nat:=if(head l).1=0/\l.length - (head l).2.1<(head l).2.2 then(3,0,0)else head l
def err (l:List UInt8):Int:=(rd l).1
def tag (l:List UInt8):Nat:=(l.headD 0).toNat
def content (l:List UInt8):List UInt8:=(l.drop (rd l).2.1).take (rd l).2.2
def raw (l:List UInt8):List UInt8:=l.take ((rd l).2.1+(rd l).2.2)
def rest (l:List UInt8):List UInt8:=l.drop ((rd l).2.1+(rd l).2.2)
theorem AlV (l:List UInt8) (h:(head l).1=0):2<=(head l).2.1/\(head l).2.1<=l.length/\(head l).2.1<=5/\(head l).2.2<=131072:=by
  unfold head at *
  split at h
  ·simp at h
  ·split at h
   ·simp at h
   ·split at h
    ·simp at h
    ·split at h
     ·simp only[*,if_true,if_false,List.length_cons];omega
     ·split at h
      ·simp at h
      ·split at h
       ·simp at h
       ·split at h
        ·simp at h
        ·simp only[*,if_false,List.length_cons];omega
theorem ZP (l:List UInt8) (h:err l=0):2<=(rd l).2.1/\(rd l).2.1+(rd l).2.2<=l.length/\(rd l).2.1<=5/\(rd l).2.2<=131072:=by
  unfold err rd at *
  by_cases hc:(head l).1=0/\l.length - (head l).2.1<(head l).2.2
  ·rw[if_pos hc]at h;simp at h
  ·rw[if_neg hc]at h ⊢
   have:=AlV l h
   omega
theorem nS (l:List UInt8) (h:err l=0):(rest l).length<l.length:=by
  have:=ZP l h
  unfold rest;rw[List.length_drop];omega
theorem AgR (l:List UInt8) (h:err l=0):(content l).length<l.length:=by
  have:=ZP l h
  unfold content;rw[List.length_take,List.length_drop];omega
theorem XU (l:List UInt8) (h:err l=0):(content l).length=(rd l).2.2:=by
  have:=ZP l h
  unfold content;rw[List.length_take,List.length_drop];omega
theorem yU (l:List UInt8) (h:err l=0):(raw l).length=(rd l).2.1+(rd l).2.2:=by
  have:=ZP l h
  unfold raw;rw[List.length_take];omega
def MV (l:List UInt8):Int:=if err l≠0 then err l else if rest l=[]then 0 else 4
def cons (t:Nat):Bool:=decide (t / 32 % 2=1)
def within:Nat->Nat->List UInt8->Int
  | 0,_,_=>0
  | f+1,d,l =>
    if l=[]then 0 else
    if err l≠0 then err l else
    if 16<=d then 8 else
    if(if cons (tag l)then within f (d+1) (content l)else 0)≠0 then(if cons (tag l)then within f (d+1) (content l)else 0)
    else within f d (rest l)
def inner (f d:Nat) (t:Nat) (c:List UInt8):Int:=if cons t then within f d c else 0
def chk (l:List UInt8):Int:=if MV l≠0 then MV l else inner (l.length+1) 1 (tag l) (content l)
def UW (n:Nat):List UInt8 :=
  if n<128 then [UInt8.ofNat n]else if n<256 then [129,UInt8.ofNat n]else if n<65536 then [130,UInt8.ofNat (n / 256),UInt8.ofNat n]
  else [131,UInt8.ofNat (n / 65536),UInt8.ofNat (n / 256),UInt8.ofNat n]
def elem (t:Nat) (c:List UInt8):List UInt8:=UInt8.ofNat t::UW c.length++c
def wrap (t:Int) (c:List UInt8):List UInt8×Int :=
  if t<0\/255<t\/t % 32=31 then([],5)else if 131072<c.length then([],6)else(elem t.toNat c,0)
theorem xX (n:Nat):(UW n).length<=4:=by unfold UW;split<;>(try split)<;>(try split)<;>simp
theorem BM (t:Nat) (c:List UInt8):(elem t c).length<=c.length+5:=by
  have:=xX c.length
  unfold elem;simp;omega
