/-
  CertextCheck: the law returns true whatever the input; machine, functions, plain law (part 35 of 47.)
-/
import Derived.Test.YtadefjgbcapakaaGreatDoorA34
import Derived.RowKit
set_option linter.unusedVariables false
set_option linter.unusedSimpArgs false
namespace Go.Proofs.YtadefjgbcapakaaGreatDoor.Pl
open IntKind (i64)
open Go Vm
def ZQ:Bs:=[33,35,36,37,38,39,42,43,45,47,61,63,94,95,96,123,124,125,126,46]
def I7 (c:UInt8):Bool:=JE c||ZQ.any (· ==c)
def dots:Bs→Bool
  | x::y::r=>(x==46&&y==46)||dots (y::r)
  | _=>false
theorem AcH: ∀ s:Bs,Lib.contains s [46,46]=dots s:=by
  have key: ∀ s:Bs,(Lib.index s [46,46]= -1∧dots s=false)∨(0≤Lib.index s [46,46]∧dots s=true):=by
    intro s
    induction s with
    | nil=>left;exact⟨rfl,rfl⟩
    | cons x r ih =>
      cases r with
      | nil =>
        left
        refine⟨?_,rfl⟩
        show(if List.isPrefixOf [46,46] [x]=true then(0:Int)else _)= -1
        rw[if_neg (by simp [List.isPrefixOf])];rfl
      | cons y r =>
        have e:Lib.index (x::y::r) [46,46]=if List.isPrefixOf [46,46] (x::y::r)=true then(0:Int)else if Lib.index (y::r) [46,46]== -1 then -1 else Lib.index (y::r) [46,46]+1:=rfl
        have d:dots (x::y::r)=((x==46&&y==46)||dots (y::r)):=rfl
        have p:List.isPrefixOf [46,46] (x::y::r)=(x==46&&y==46):=by
          simp only[List.isPrefixOf,Bool.and_true]
          rw[Bool.beq_comm (a:=(46:UInt8)),Bool.beq_comm (a:=(46:UInt8))]
        rw[e,d,p]
        cases (x==46&&y==46)with
        | true=>right;exact⟨by rw[if_pos rfl];exact Int.le_refl 0,rfl⟩
        | false =>
          rcases ih with ⟨h1,h2⟩ | ⟨h1,h2⟩
          ·left;rw[h1,h2];exact⟨rfl,rfl⟩
          ·right
           rw[h2]
           refine⟨?_,rfl⟩
           rw[if_neg (by decide),if_neg (by simp;omega)];omega
  intro s
  unfold Lib.contains
  rcases key s with ⟨h1,h2⟩ | ⟨h1,h2⟩
  ·rw[h1,h2];rfl
  ·rw[h2];exact decide_eq_true h1
def jA (s:Bs):Bool:= !(decide (s.length<1)||decide (64<s.length)||(s.getD 0 0==46)||(s.getD (s.length - 1) 0==46)||dots s)&&s.all I7
theorem AcX (c:UInt8): ∀ l:Bs,decide (Lib.indexByte l c≥0)=l.any (· ==c):=by
  intro l
  induction l with
  | nil=>rfl
  | cons b r ih =>
    show decide ((if(b==c)=true then(0:Int)else if Lib.indexByte r c== -1 then -1 else Lib.indexByte r c+1)≥0)=(b==c||r.any (· ==c))
    cases b==c with
    | true=>rfl
    | false =>
      rw[if_neg (by decide),Bool.false_or, ←ih]
      have:=Lib.indexByte_ge r c
      by_cases h:Lib.indexByte r c= -1
      ·rw[h];rfl
      ·rw[if_neg (by simpa using h)]
       congr 1;apply propext;omega
theorem Aon (c:UInt8):c.toNat.toUInt8=c:=UInt8.ofNat_toNat
theorem AcV (N:Nat) (s:Bs) (hN:1048578<N) (hs:s.length≤1048576):OZ N s=some (jA s):=by
  unfold OZ jA
  try simp only[clR]
  unfold strings_Contains
  rw[decide_eq_true (show s.length<4294967281 by omega),cond_true,AcH]
  by_cases h1:s.length<1
  ·have:s=[]:=List.length_eq_zero_iff.1 (by omega)
   subst this;rfl
  ·by_cases h2:64<s.length
   ·simp (disch:=first | assumption | omega) only[Aw,Option.isSome_some]
   ·simp (disch:=first | assumption | omega) only[Aw,Option.isSome_some,Option.getD_some,beq46]
    cases s.getD 0 0==46<;>cases s.getD (s.length - 1) 0==46<;>cases dots s<;>first | rfl | skip
    simp only[Bool.false_or,Bool.or_false,cond_false,Bool.not_false,Bool.true_and]
    have hml:((s.map fun b=>((b.toNat:Nat):Int)).length)=s.length:=List.length_map ..
    refine Eq.trans (FO (S:=Unit) (R:=Bool) (mk:=fun i _=>((i:Int),s.map fun b=>((b.toNat:Nat):Int))) s 0 (fun c _=>bif I7 c then .inr ()else .inl false) some (fun _=>some true) ?_ ?_ N () (by omega)) ?_
    ·intro i _ hi k
     obtain⟨x,y,hx,hy,hxy⟩:=XM N (s.getD i 0)
     have hg:(s.map fun b=>((b.toNat:Nat):Int)).getD i 0=(((s.getD i 0).toNat:Nat):Int):=by
       rw[getD_lt _ i 0 (by omega),getD_lt s i 0 hi,List.getElem_map]
     simp (disch:=first | assumption | omega) only[Aw,hml,hg,hx,hy,AY,strings_IndexByte,Aon,AcX]
     unfold I7
     rw[← hxy]
     show _=bif _||ZQ.any (· ==s.getD i 0)then _ else _
     rw[show([33,35,36,37,38,39,42,43,45,47,61,63,94,95,96,123,124,125,126,46]:Bs)=ZQ from rfl]
     cases x<;>cases y<;>cases ZQ.any (· ==s.getD i 0)<;>rfl
    ·intro _ k
     simp (disch:=first | assumption | omega) only[Aw,hml]
    ·rw[jC]
     cases s.all I7<;>rfl
theorem Ae7 {c:UInt8} {s:Bs} (h:c∉s):Lib.cut s [c]=(s,[],false):=by
  unfold Lib.cut
  rw[index_none c s h];rfl
theorem Ae6 {c:UInt8} {a r:Bs} (h:c∉a):Lib.cut (a++c::r) [c]=(a,r,true):=by
  unfold Lib.cut
  rw[uI c a r h,if_pos (by omega)]
  have e1:((a.length:Int)).toNat=a.length:=by omega
  rw[e1,List.take_left, ←List.drop_drop,List.drop_left]
  rfl
def EO (s:Bs):Bool:=(Lib.cut s [64]).2.2&&decide (s.length≤128)&&jA (Lib.cut s [64]).1&&GI (Lib.cut s [64]).2.1
theorem iO (N:Nat) (s:Bs) (hN:1048578<N) (hs:s.length≤1048576):KT N s=some (EO s):=by
  unfold KT EO strings_Cut
  try simp only[clR]
  rw[decide_eq_true (show s.length<4294967281 by omega),cond_true,Ae]
  have hl:(Lib.cut s [64]).1.length≤s.length:=by
    rcases Ri 64 s with h | ⟨a,r,rfl,ha⟩
    ·rw[Ae7 h];exact Nat.le_refl _
    ·rw[Ae6 ha];simp
  rw[AcV N _ hN (by omega),MZ N _ (by omega)]
  rw[show decide (((s.length:Nat):Int)≤128)=decide (s.length≤128) by congr 1;apply propext;omega]
  rfl
theorem Aj9 (r:Bs): ∀ a:Bs,(List.range a.length).any (fun i=> !I7 ((a++64::r).getD i 0)||((a++64::r).getD i 0==46&&(a++64::r).getD (i+1) 0==46))=(!(a.all I7)||dots a):=by
  intro a
  induction a with
  | nil=>rfl
  | cons x t ih =>
    rw[List.length_cons,List.range_succ_eq_map,List.any_cons,List.any_map,List.all_cons]
    have e:(List.range t.length).any ((fun i=> !I7 ((x::t++64::r).getD i 0)||((x::t++64::r).getD i 0==46&&(x::t++64::r).getD (i+1) 0==46))∘Nat.succ)=(List.range t.length).any (fun i=> !I7 ((t++64::r).getD i 0)||((t++64::r).getD i 0==46&&(t++64::r).getD (i+1) 0==46)):=rfl
    rw[e,ih]
    show((!I7 x||(x==46&&(t++64::r).getD 0 0==46))||_)=_
    cases t with
    | nil =>
      show((!I7 x||(x==46&&(64:UInt8)==46))||(!true||false))=(!(I7 x&&true)||false)
      cases I7 x<;>cases x==46<;>rfl
    | cons y t =>
      show((!I7 x||(x==46&&y==46))||(!((y::t).all I7)||dots (y::t)))=(!(I7 x&&(y::t).all I7)||((x==46&&y==46)||dots (y::t)))
      cases I7 x<;>cases (y::t).all I7<;>cases x==46&&y==46<;>cases dots (y::t)<;>rfl
theorem YY (n i:Nat) (h:i<n):(List.range n).getD i 0=i:=by
  rw[getD_lt _ _ _ (by rw[List.length_range];exact h),List.getElem_range]
theorem Anb {a r:Bs} (ha:64∉a):EO (a++64::r)=(decide ((a++64::r).length≤128)&&jA a&&GI r):=by
  unfold EO
  rw[Ae6 ha,Bool.true_and]
theorem AbB (N:Nat) (s:Bs) (hN:1048578<N) (hs:s.length≤1048576):QM N s=some (bif EO s then((Lib.cut s [64]).1,(Lib.cut s [64]).2.1,true)else([],[],false)):=by
  unfold QM
  try simp only[clR]
  by_cases h0:128<s.length
  ·rw[xR (by omega),cond_true]
   unfold EO
   rw[zL h0];simp
  rw[AdY (by omega),cond_false]
  refine(Agb (mk:=fun i=>(i:Int)) (out:=fun i=>(i:Int)) s 0 (fun c=>c==64) ?_ ?_ N (by omega)).trans ?_
  ·intro i k hi
   simp (disch:=first | assumption | omega) only[Aw,Aos,AY]
   cases s.getD i 0==64<;>rfl
  ·intro k
   simp (disch:=first | assumption | omega) only[Aw]
  ·rcases Ri 64 s with h | ⟨a,r,rfl,ha⟩
   ·rw[AeL _ _ (fun x hx=>beq_false_of_ne (b:=(64:UInt8)) (show x≠64 from fun hx2=>h (by rw[← hx2];exact hx)))]
    unfold EO
    rw[Ae7 h]
    simp (disch:=first | assumption | omega) only[Aw]
   ·rw[Ais _ a 64 r (fun x hx=>beq_false_of_ne (b:=(64:UInt8)) (show x≠64 from fun hx2=>ha (by rw[← hx2];exact hx))) rfl,Anb ha,Ae6 ha]
    have hlen:(a++64::r).length=a.length+r.length+1:=by simp;omega
    rw[Eo (by omega),Bool.true_and]
    unfold jA
    by_cases h1:a.length<1
    ·simp (disch:=first | assumption | omega) only[Aw]
    by_cases h2:64<a.length
    ·simp (disch:=first | assumption | omega) only[Aw]
    have hcut:AO (a++64::r) (a.length+1) (a++64::r).length=r:=by
      unfold AO
      rw[List.take_length, ←List.drop_drop,List.drop_left];rfl
    have hcut0:AO (a++64::r) 0 a.length=a:=by
      unfold AO
      rw[List.drop_zero,List.take_left]
    have hg: ∀ i,i<a.length→(a++64::r).getD i 0=a.getD i 0:=fun i hi=>by
      rw[List.getD_eq_getElem?_getD,List.getElem?_append_left hi, ←List.getD_eq_getElem?_getD]
    have hg0:=hg 0 (by omega)
    have hg1:=hg (a.length - 1) (by omega)
    rw[w64 (by omega) (by omega),w64 (by omega) (by omega)]
    rw[AY,Int.toNat_natCast,Aay,hcut,hg0,hg1,Ja N r hN,beq46,beq46]
    rw[Jt (show(1:Int)≤a.length by omega),AdY (show(a.length:Int)≤64 by omega),IP (show(a.length:Int)≠((a++64::r).length:Nat) by omega),Hg (show(0:Int)≤((a.length+1:Nat):Int) by omega),Hg (show((a.length+1:Nat):Int)≤((a++64::r).length:Nat) by omega),Ju (show(0:Int)<((a++64::r).length:Nat) by omega),Hg (show(0:Int)≤(a.length:Int) - 1 by omega),Ju (show(a.length:Int) - 1<((a++64::r).length:Nat) by omega),Aeh (show 1≤a.length by omega),Aeh (show a.length≤64 by omega)]
    simp only[Bool.true_or,Aj,Bool.false_or,Option.getD_some,Option.isSome_some]
    cases GI r<;>cases a.getD 0 0==46<;>cases a.getD (a.length - 1) 0==46<;>first | (simp;done) | skip
    simp only[Bool.not_true,Bool.false_or,Bool.not_false,cond_false,Bool.true_and,Bool.and_true]
    refine Eq.trans (FO (S:=Unit) (R:=Bs×Bs×Bool) (mk:=fun i _=>(i:Int)) (List.range a.length) 0 (fun i _=>bif (!I7 ((a++64::r).getD i 0)||((a++64::r).getD i 0==46&&(a++64::r).getD (i+1) 0==46))then .inl ([],[],false)else .inr ()) some (fun _=>some (a,r,true)) ?_ ?_ N () (by rw[List.length_range];omega)) ?_
    ·intro i _ hi k
     rw[List.length_range]at hi
     rw[YY _ _ hi]
     have hAm:=Aep N ZQ ((a++64::r).getD i 0) (by show 20<N;omega) (by decide)
     rw[show ZQ=([33,35,36,37,38,39,42,43,45,47,61,63,94,95,96,123,124,125,126,46]:Bs)from rfl]at hAm
     simp (disch:=first | assumption | omega) only[Aw,Y4,AY,hAm,beq46,Option.isSome_some,Option.getD_some]
     unfold I7
     rw[show ZQ=([33,35,36,37,38,39,42,43,45,47,61,63,94,95,96,123,124,125,126,46]:Bs)from rfl]
     generalize List.any _ _=u
     generalize ((a++64::r).getD (i+1) 0==46)=v
     cases JE ((a++64::r).getD i 0)<;>cases u<;>cases (a++64::r).getD i 0==46<;>cases v<;>rfl
    ·intro _ k
     rw[List.length_range]
     simp (disch:=first | assumption | omega) only[Aw,hcut,hcut0,AY]
    ·rw[Acl,Aj9]
     cases a.all I7<;>cases dots a<;>rfl
theorem aW (N:Nat) (s:Bs) (hN:1048578<N) (hs:s.length≤1048576):LZ N s=some (EO s):=by
  unfold LZ
  rw[AbB N s hN hs,Ae]
  cases EO s<;>rfl
def mbP (s:Bs):Bool:=decide (s.length≤128)&&(EO s||GI (Lib.trimPrefix s [46]))
theorem AjS (n:Nat):decide ((n:Int)≤128)=decide (n≤128):=by congr 1;apply propext;omega
theorem uG (N:Nat) (s:Bs) (hN:1048578<N) (hs:s.length≤1048576):JJ N s=some (mbP s):=by
  unfold JJ mbP strings_TrimPrefix
  try simp only[clR]
  rw[iO N s hN hs]
  simp only[Option.isSome_some,Option.getD_some,Bool.true_or,Aj]
  rw[MZ N _ (by omega),AjS]
  simp only[Option.isSome_some,Option.getD_some,Bool.true_or,Aj]
  cases EO s<;>cases decide (s.length≤128)<;>rfl
theorem zH {s:Bs} (h:128<s.length):EO s=false:=by unfold EO;rw[zL h];simp
theorem AbX {s:Bs} (h:128<s.length):GI s=false:=by unfold GI;rw[Aei h];rfl
theorem pG (N:Nat) (s:Bs) (hN:1048578<N) (hs:s.length≤1048576):Je N s=some (mbP s):=by
  unfold Je mbP
  try simp only[clR]
  rw[aW N s hN hs,Ae,Ja N s hN,Ja N _ hN,AjS]
  simp only[Option.isSome_some,Option.getD_some,Bool.true_or,Aj]
  by_cases h0:s.length≤128
  ·rw[Eo h0]
   cases s with
   | nil=>rw[AaN];cases EO []<;>rfl
   | cons x r =>
     have hcut:AO (x::r) 1 (x::r).length=r:=by unfold AO;rw[List.take_length];rfl
     rw[hcut,show(x::r:Bs).getD 0 0=x from rfl,beq46]
     rw[Ju (show(0:Int)<((x::r:Bs).length:Nat) by rw[List.length_cons];omega),Hg (show(1:Int)≤((x::r:Bs).length:Nat) by rw[List.length_cons];omega)]
     by_cases hx:x=46
     ·subst hx
      rw[AmO,show Lib.trimPrefix (46::r) [46]=r by simp [Lib.trimPrefix,Lib.hasPrefix,List.isPrefixOf]]
      cases r with
      | nil=>rw[AaN];cases EO [46]<;>rfl
      | cons y r =>
        rw[xR (show((46::y::r:Bs).length:Int)>1 by simp;omega)]
        cases EO (46::y::r)<;>cases GI (y::r)<;>rfl
     ·rw[beq_false_of_ne hx,show Lib.trimPrefix (x::r) [46]=x::r by
        have: ¬(46:UInt8)=x:=fun h=>hx h.symm
        simp [Lib.trimPrefix,Lib.hasPrefix,List.isPrefixOf,this]]
      cases EO (x::r)<;>cases GI (x::r)<;>cases decide (((x::r:Bs).length:Int)>1)<;>rfl
  ·rw[zL (by omega),zH (by omega),AbX (by omega)]
   simp (disch:=first | assumption | omega) only[Aw]
def Y6 (s:Bs):Bool:=decide (s.length=4)||decide (s.length=16)
theorem iT (a b:Nat):(((a:Nat):Int)==((b:Nat):Int))=decide (a=b):=by
  by_cases h:a=b
  ·rw[h,decide_eq_true rfl];exact beq_self_eq_true _
  ·rw[decide_eq_false h];exact beq_false_of_ne (by omega)
theorem yJ (N:Nat) (s:Bs):KR N s=some (Y6 s):=by
  unfold KR Y6
  try simp only[clR]
  rw[show(((s.length:Nat):Int)==4)=decide (s.length=4)from iT _ 4,show(((s.length:Nat):Int)==16)=decide (s.length=16)from iT _ 16]
theorem vZ (N:Nat) (s:Bs):JO N s=some (Y6 s):=by
  unfold JO Y6
  try simp only[clR]
  rw[show(((s.length:Nat):Int)==4)=decide (s.length=4)from iT _ 4,show(((s.length:Nat):Int)==16)=decide (s.length=16)from iT _ 16]
def Y9 (c:UInt8) (k:Nat):Bool:=c.toNat / 2 ^ k % 2==1
theorem Alz (c:UInt8) (k:Nat) (hk:k<8):(BP .and .u8 (((c.toNat:Nat):Int).fdiv (2 ^ min k 8)) 1==1)=Y9 c k:=by
  have: ∀ k:Fin 8,∀ n:Fin 256,(BP .and .u8 ((((UInt8.ofNat n.val).toNat:Nat):Int).fdiv (2 ^ min k.val 8)) 1==1)=Y9 (UInt8.ofNat n.val) k.val:=by decide +kernel
  exact Y2 (P:=fun c=>(BP .and .u8 (((c.toNat:Nat):Int).fdiv (2 ^ min k 8)) 1==1)=Y9 c k) (this ⟨k,hk⟩) c
theorem AmL (c:UInt8) (k:Nat) (hk:k<8):((((c.toNat:Nat):Int).fdiv (2 ^ min k 8)).tmod 2==1)=Y9 c k:=by
  have: ∀ k:Fin 8,∀ n:Fin 256,(((((UInt8.ofNat n.val).toNat:Nat):Int).fdiv (2 ^ min k.val 8)).tmod 2==1)=Y9 (UInt8.ofNat n.val) k.val:=by decide +kernel
  exact Y2 (P:=fun c=>((((c.toNat:Nat):Int).fdiv (2 ^ min k 8)).tmod 2==1)=Y9 c k) (this ⟨k,hk⟩) c
theorem AmD (i:Nat):((i:Int)).tdiv 8=((i / 8:Nat):Int):=rfl
theorem AmE (i:Nat):((i:Int)).tmod 8=((i % 8:Nat):Int):=rfl
theorem Ajs (i:Nat):((i:Int)).tdiv 2=((i / 2:Nat):Int):=rfl
theorem Aax (i:Nat):((7:Int) - (i:Int)).toNat=7 - i:=by omega
def MJ (s:Bs) (i:Nat):Bool:=Y9 (s.getD (i / 8) 0) (7 - i % 8)
theorem qN (N:Nat) (s:Bs) (i:Nat) (h:i<8*s.length) (hs:s.length≤1048576):Q5 N s (i:Int)=some (MJ s i):=by
  unfold Q5 MJ
  have:i / 8<s.length:=by omega
  have:i % 8<8:=by omega
  simp (disch:=first | assumption | omega) only[Aw,AmD,AmE,wu64,Aax]
  rw[Alz _ _ (by omega)]
def rngS (s:Bs) (i:Nat) (z:Bool):Bool ⊕ Bool:=bif (MJ (s.drop (s.length / 2)) i&&z)||(!MJ (s.drop (s.length / 2)) i&&MJ s i)then .inl false else .inr (z|| !MJ (s.drop (s.length / 2)) i)
def ZP (s:Bs):Bool:=bif decide (s.length=8)||decide (s.length=32)then(EN (rngS s) (List.range (8*(s.length / 2))) false).elim id (fun _=>true)else false
theorem AcO (N:Nat) (s:Bs) (hN:1048578<N):OY N s=some (ZP s):=by
  unfold OY
  try simp only[clR]
  unfold ZP
  rw[show(((s.length:Nat):Int) != 8)= !decide (s.length=8)from congrArg _ (iT _ 8),show(((s.length:Nat):Int) != 32)= !decide (s.length=32)from congrArg _ (iT _ 32)]
  by_cases h0:s.length=8∨s.length=32
  ·have hb:(decide (s.length=8)||decide (s.length=32))=true:=by simpa using h0
   rw[hb,cond_true,show(!decide (s.length=8)&& !decide (s.length=32))=false by rw[← Bool.not_or,hb];rfl,cond_false]
   have hd:s.length / 2≤s.length:=by omega
   have hh:QG N s=some (s.take (s.length / 2),s.drop (s.length / 2)):=by
     unfold QG
     simp (disch:=first | assumption | omega) only[Aw,Ajs,wu64]
     unfold AO
     rw[List.take_length];rfl
   rw[hh,Ae]
   have hl:(s.drop (s.length / 2)).length=s.length / 2:=by rw[List.length_drop];omega
   have hl1:(s.take (s.length / 2)).length=s.length / 2:=by rw[List.length_take];omega
   refine Eq.trans (FO (S:=Bool) (R:=Bool) (mk:=fun i z=>(z,(i:Int))) (List.range (8*(s.length / 2))) 0 (rngS s) some (fun _=>some true) ?_ ?_ N false (by rw[List.length_range];omega)) ?_
   ·intro i z hi k
    rw[List.length_range]at hi
    rw[YY _ _ hi]
    have hb1:=qN N (s.drop (s.length / 2)) i (by omega) (by omega)
    have hb2:=qN N (s.take (s.length / 2)) i (by omega) (by omega)
    have hb3:MJ (s.take (s.length / 2)) i=MJ s i:=by
      unfold MJ
      congr 1
      rw[List.getD_eq_getElem?_getD,List.getElem?_take,if_pos (by omega), ←List.getD_eq_getElem?_getD]
    rw[hb3]at hb2
    unfold rngS
    simp (disch:=first | assumption | omega) only[Aw,hl,hb1,hb2,Option.isSome_some,Option.getD_some,AY]
    cases MJ (s.drop (s.length / 2)) i<;>cases MJ s i<;>cases z<;>rfl
   ·intro z k
    rw[List.length_range]
    simp (disch:=first | assumption | omega) only[Aw,hl]
   ·exact xQ _ id (fun _=>true)
  ·have hb:(decide (s.length=8)||decide (s.length=32))=false:=by simpa using h0
   rw[hb,show(!decide (s.length=8)&& !decide (s.length=32))=true by rw[← Bool.not_or,hb];rfl]
   rfl
theorem Ab8 (N:Nat) (s:Bs) (hN:1048578<N):Np N s=some (ZP s):=by
  unfold Np
  try simp only[clR]
  unfold ZP
  rw[show(((s.length:Nat):Int) != 8)= !decide (s.length=8)from congrArg _ (iT _ 8),show(((s.length:Nat):Int) != 32)= !decide (s.length=32)from congrArg _ (iT _ 32)]
  by_cases h0:s.length=8∨s.length=32
  ·have hb:(decide (s.length=8)||decide (s.length=32))=true:=by simpa using h0
   rw[hb,cond_true,show(!decide (s.length=8)&& !decide (s.length=32))=false by rw[← Bool.not_or,hb];rfl,cond_false]
   refine Eq.trans (FO (S:=Bool) (R:=Bool) (mk:=fun i z=>(z,(i:Int))) (List.range (8*(s.length / 2))) 0 (rngS s) some (fun _=>some true) ?_ ?_ N false (by rw[List.length_range];omega)) ?_
   ·intro i z hi k
    rw[List.length_range]at hi
    rw[YY _ _ hi]
    have hbd:Y9 (s.getD (s.length / 2+i / 8) 0) (7 - i % 8)=MJ (s.drop (s.length / 2)) i:=by
      unfold MJ
      congr 1
      rw[List.getD_eq_getElem?_getD,List.getD_eq_getElem?_getD,List.getElem?_drop]
    unfold rngS
    have:i % 8<8:=by omega
    simp (disch:=first | assumption | omega) only[Aw,Ajs,AmD,AmE,Aax,AmL,hbd,AY]
    rw[show Y9 (s.getD (i / 8) 0) (7 - i % 8)=MJ s i from rfl]
    cases MJ (s.drop (s.length / 2)) i<;>cases MJ s i<;>cases z<;>rfl
   ·intro z k
    rw[List.length_range]
    simp (disch:=first | assumption | omega) only[Aw,Ajs]
   ·exact xQ _ id (fun _=>true)
  ·have hb:(decide (s.length=8)||decide (s.length=32))=false:=by simpa using h0
   rw[hb,show(!decide (s.length=8)&& !decide (s.length=32))=true by rw[← Bool.not_or,hb];rfl]
   rfl
theorem AiR (n:List (List Att)): ∃ v,TF n=some v:=by
  unfold TF
  by_cases h:8<n.length
  ·rw[if_pos h];exact⟨_,rfl⟩
  ·rw[if_neg h]
   have: ∀(l:List (List Att)) (s:Unit),∃ v,Jg Pn (fun _=>some 0) l s=some v:=by
     intro l
     induction l with
     | nil=>intro s;exact⟨0,rfl⟩
     | cons e r ih =>
       intro s
       unfold Jg Pn
       by_cases h:Lm e=0
       ·rw[if_pos h];exact ih _
       ·rw[if_neg h];exact⟨_,rfl⟩
   exact this n ()
def FW (n:List (List Att)):Int:=(TF n).getD 0
theorem Ahz (n:List (List Att)):TF n=some (FW n):=by
  obtain⟨v,h⟩:=AiR n
  unfold FW;rw[h];rfl
theorem Sj (N:Nat) (n:List (List Att)) (hN:1048578<N) (hn:EG n):Iz N n=some (FW n):=(AaJ N n hN hn).trans (Ahz n)
theorem Wj (N:Nat) (n:List (List Att)) (hN:1048578<N) (hn:EG n):ED N n=some (FW n):=(Aeq N n hN hn).trans (Ahz n)
abbrev Gn:Type:=Int×Bs×List (List Att)
def Vb (g:Gn):Prop:=g.2.1.length≤1048576∧EG g.2.2
def uA (k:Int) (s:Bs) (c:Bool):Bool:=bif k==1 then(bif c then mbP s else EO s)else bif k==2 then(bif c then Y8 s else Zv s)else bif k==7 then(bif c then ZP s else Y6 s)else false
def CP (g:Gn) (c:Bool):Int:=bif g.1==4 then(bif g.2.1==[]then FW g.2.2 else 14)else bif uA g.1 g.2.1 c&&g.2.2.isEmpty then 0 else 14
theorem Pg {α :Type} (l:List α):decide (((l.length:Nat):Int)>0)= !l.isEmpty:=by
  cases l with
  | nil=>rfl
  | cons a r=>rw[decide_eq_true (by rw[List.length_cons];omega)];rfl
theorem AcY (N:Nat) (k:Int) (s:Bs) (c:Bool) (hN:1048578<N) (hs:s.length≤1048576):Fb N k s c=some (bif k==0 then(bif c then mbP s else EO s)else bif k==1 then(bif c then Y8 s else Zv s)else bif k==3 then(bif c then ZP s else Y6 s)else false):=by
  unfold Fb
  try simp only[clR]
  simp only[uG N s hN hs,iO N s hN hs,AeW N s hN,yL N s hN,AcO N s hN,yJ N s,Option.isSome_some,Option.getD_some,Bool.true_or,Aj]
  cases k==0<;>cases k==1<;>cases k==3<;>cases c<;>simp [chk]
theorem Q3 (N:Nat) (g:Gn) (c:Bool) (hN:1048578<N) (hg:Vb g):JX N g c=some (CP g c):=by
  obtain⟨k,s,n⟩:=g
  unfold JX
  try simp only[clR]
  have hg:s.length≤1048576∧EG n:=hg
  have hd:=Sj N n hN hg.2
  have hk: ∀ k:Int,Fb N k s c=_:=fun k=>AcY N k s c hN hg.1
  have h1:=hg.1
  unfold CP uA uD
  by_cases e1:k=1
  ·subst e1
   simp (disch:=first | assumption | omega) only[Aw,hk,Option.isSome_some,Option.getD_some,Pg]
   cases n.isEmpty<;>cases c<;>cases mbP s<;>cases EO s<;>rfl
  ·by_cases e2:k=2
   ·subst e2
    simp (disch:=first | assumption | omega) only[Aw,hk,Option.isSome_some,Option.getD_some,Pg]
    cases n.isEmpty<;>cases c<;>cases Y8 s<;>cases Zv s<;>rfl
   ·by_cases e4:k=4
    ·subst e4
     simp (disch:=first | assumption | omega) only[Aw,hd,Option.isSome_some,Option.getD_some,Pg]
     cases s==[]<;>rfl
    ·by_cases e7:k=7
     ·subst e7
      simp (disch:=first | assumption | omega) only[Aw,hk,Option.isSome_some,Option.getD_some,Pg]
      cases n.isEmpty<;>cases c<;>cases ZP s<;>cases Y6 s<;>rfl
     ·simp (disch:=first | assumption | omega) only[Aw]
theorem OC (N:Nat) (g:Gn) (c:Bool) (hN:1048578<N) (hg:Vb g):En N g c=some (CP g c):=by
  obtain⟨k,s,n⟩:=g
  unfold En
  try simp only[clR]
  have hg:s.length≤1048576∧EG n:=hg
  have hd:=Wj N n hN hg.2
  unfold CP uA
  dsimp only[U4,CS]
  simp only[pG N s hN hg.1,aW N s hN hg.1,Ad1 N s hN,wC N s hN hg.1,Ab8 N s hN,vZ N s,Option.isSome_some,Option.getD_some,Bool.true_or,Aj,hd,Ae,Pg]
  by_cases e1:k=1
  ·subst e1
   cases n.isEmpty<;>cases c<;>cases mbP s<;>cases EO s<;>rfl
  ·by_cases e2:k=2
   ·subst e2
    cases n.isEmpty<;>cases c<;>cases Y8 s<;>cases Zv s<;>rfl
   ·by_cases e4:k=4
    ·subst e4
     cases s==[]<;>rfl
    ·by_cases e7:k=7
     ·subst e7
      cases n.isEmpty<;>cases c<;>cases ZP s<;>cases Y6 s<;>rfl
     ·simp (disch:=first | assumption | omega) only[Aw]
theorem len0 {α :Type} (l:List α):(((l.length:Nat):Int)==0)=l.isEmpty:=by
  cases l with
  | nil=>rfl
  | cons a r=>exact beq_false_of_ne (by rw[List.length_cons];omega)
theorem DC (n k:Nat):decide ((n:Int)>(k:Int))=decide (k<n):=by congr 1;apply propext;omega
def BO (l:List Gn):Prop:= ∀ g∈l,Vb g
def ES (l:List Gn) (c:Bool):Int:=Bz (fun g=>CP g c) l
theorem Oo (N:Nat) (l:List Gn) (hN:1048578<N) (hl:l.length≤1048576) (hs:BO l):FC N l=some (ES l false):=by
  unfold FC
  refine(Jn (mk:=fun i=>(i:Int)) l (0,[],[]) (fun g=>CP g false) some (some 0) ?_ ?_ N (by omega)).trans (first_some _)
  ·intro i hi k
   have h:=Q3 N (l.getD i (0,[],[])) false hN (hs _ (getD_mem _ hi))
   simp (disch:=first | assumption | omega) only[Aw,h,AY]
  ·intro k
   simp (disch:=first | assumption | omega) only[Aw]
theorem Qe (N:Nat) (l:List Gn) (hN:1048578<N) (hs:BO l):He N l=some (bif decide (16<l.length)then 2 else ES l false):=by
  unfold He
  rw[show decide (((l.length:Nat):Int)>16)=decide (16<l.length)from DC _ 16]
  by_cases h16:16<l.length
  ·rw[decide_eq_true h16];rfl
  ·rw[decide_eq_false h16,cond_false,cond_false]
   refine(Jn (mk:=fun i=>(i:Int)) l (0,[],[]) (fun g=>CP g false) some (some 0) ?_ ?_ N (by omega)).trans (first_some _)
   ·intro i hi k
    have h:=OC N (l.getD i (0,[],[])) false hN (hs _ (getD_mem _ hi))
    simp (disch:=first | assumption | omega) only[Aw,h,AY]
   ·intro k
    simp (disch:=first | assumption | omega) only[Aw]
abbrev Pt:Type:=List Gn×Int×Bool×List (List Att)
def F5 (p:Pt):Prop:=BO p.1∧EG p.2.2.2∧ -9223372036854775808≤p.2.1∧p.2.1≤9223372036854775807
def ptI (p:Pt):Int :=
  bif (p.1.isEmpty&& !p.2.2.1)||(!p.2.2.2.isEmpty&& !p.2.2.1)then 7
  else bif BP .andNot .i64 p.2.1 510 != 0 then 1
  else bif decide (16<p.1.length)then 2
  else bif ES p.1 false != 0 then ES p.1 false
  else bif !p.2.2.1 then 0
  else bif p.2.2.2.isEmpty then 14 else FW p.2.2.2
theorem Xq (N:Nat) (p:Pt) (hN:1048578<N) (hs:F5 p):Ia N p=some (ptI p):=by
  obtain⟨g,r,b,n⟩:=p
  have hg:BO g:=hs.1
  have hn:EG n:=hs.2.1
  unfold Ia ptI
  try simp only[clR]
  simp only[CS,U5,len0,Pg]
  have e: ∀ x y:Bool,(bif x then(bif x then some (7:Int)else none)else none)=(bif x then some 7 else none):=fun x y=>by cases x<;>rfl
  rw[show decide (((g.length:Nat):Int)>16)=decide (16<g.length)from DC _ 16]
  cases g.isEmpty&& !b with
  | true=>rfl
  | false =>
    rw[cond_false,Bool.false_or]
    cases (!n.isEmpty&& !b)with
    | true=>rfl
    | false =>
      rw[cond_false,cond_false]
      cases BP .andNot .i64 r 510 != 0 with
      | true=>rfl
      | false =>
        rw[cond_false,cond_false]
        by_cases h16:16<g.length
        ·rw[decide_eq_true h16];rfl
        ·rw[decide_eq_false h16,cond_false,cond_false,Oo N g hN (by omega) hg,Ae,Sj N n hN hn,Ae,Bd,Bd,Bd]
theorem Iw (N:Nat) (l:List Pt) (hN:1048578<N) (hs: ∀ p∈l,F5 p):CW N l=some (bif decide (4<l.length)then 2 else Bz ptI l):=by
  unfold CW
  rw[show decide (((l.length:Nat):Int)>4)=decide (4<l.length)from DC _ 4]
  by_cases h4:4<l.length
  ·rw[decide_eq_true h4];rfl
  ·rw[decide_eq_false h4,cond_false,cond_false]
   refine(Jn (mk:=fun i=>(i:Int)) l ([],0,false,[]) ptI some (some 0) ?_ ?_ N (by omega)).trans (first_some _)
   ·intro i hi k
    have h:=Xq N (l.getD i ([],0,false,[])) hN (hs _ (getD_mem _ hi))
    simp (disch:=first | assumption | omega) only[Aw,h,AY]
   ·intro k
    simp (disch:=first | assumption | omega) only[Aw]
theorem J7 (N:Nat) (l:List Pt) (hN:1048578<N) (hs: ∀ p∈l,F5 p):D5 N l=some (bif decide (4<l.length)then 2 else Bz ptI l):=by
  unfold D5
  try simp only[clR]
  rw[show decide (((l.length:Nat):Int)>4)=decide (4<l.length)from DC _ 4]
  by_cases h4:4<l.length
  ·rw[decide_eq_true h4];rfl
  ·rw[decide_eq_false h4,cond_false,cond_false]
   refine(Jn (mk:=fun i=>(i:Int)) l ([],0,false,[]) ptI some (some 0) ?_ ?_ N (by omega)).trans (first_some _)
   ·intro i hi k
    have hm:=hs _ (getD_mem ([],0,false,[]) hi)
    have h1:=fun(h:BO (l.getD i ([],0,false,[])).1)=>Qe N _ hN h
    have h1:=h1 hm.1
    have h2:=Wj N _ hN hm.2.1
    simp (disch:=first | assumption | omega) only[Aw,h1,h2,AY,len0,Pg]
    generalize l.getD i ([],0,false,[])=p
    unfold ptI
    cases p.1.isEmpty<;>cases p.2.2.1<;>cases p.2.2.2.isEmpty<;>cases BP .andNot .i64 p.2.1 510 != 0<;>cases decide (16<p.1.length)<;>cases h5:ES p.1 false != 0<;>simp [h5,chk]
   ·intro k
    simp (disch:=first | assumption | omega) only[Aw]
abbrev St2:Type:=List Gn×List Gn
def SI (s:St2):Int:=bif s.1.isEmpty&&s.2.isEmpty then 7 else bif decide (16<s.1.length)||decide (16<s.2.length)then 2 else Bz (fun g=>CP g true) (s.1++s.2)
theorem Ve (N:Nat) (s:St2) (hN:1048578<N) (h1:BO s.1) (h2:BO s.2):JU N s=some (SI s):=by
  obtain⟨a,b⟩:=s
  unfold JU SI
  try simp only[clR]
  rw[len0,len0,show decide (((a.length:Nat):Int)>16)=decide (16<a.length)from DC _ 16,show decide (((b.length:Nat):Int)>16)=decide (16<b.length)from DC _ 16]
  cases a.isEmpty&&b.isEmpty with
  | true=>rfl
  | false =>
    rw[cond_false,cond_false]
    by_cases h:16<a.length∨16<b.length
    ·have hb:(decide (16<a.length)||decide (16<b.length))=true:=by simpa using h
     rw[hb];rfl
    ·have hb:(decide (16<a.length)||decide (16<b.length))=false:=by simpa using h
     rw[hb,cond_false,cond_false]
     refine(Jn (mk:=fun i=>((i:Int),[a,b])) [a,b] [] (fun l=>Bz (fun g=>CP g true) l) some (some 0) ?_ ?_ N (by show 2<N;omega)).trans ?_
     ·intro i hi k
      have hi:i<2:=hi
      have hm:BO ([a,b].getD i []):=by
        have:i=0∨i=1:=by omega
        rcases this with rfl | rfl
        ·exact h1
        ·exact h2
      have hml:([a,b].getD i []).length≤16:=by
        have:i=0∨i=1:=by omega
        rcases this with rfl | rfl
        ·show a.length≤16;omega
        ·show b.length≤16;omega
      have h22: [a,b].length=2:=rfl
      simp (disch:=first | assumption | omega) only[Aw,h22]
      refine(Jn (mk:=fun j=>((j:Int),[a,b])) ([a,b].getD i []) (0,[],[]) (fun g=>CP g true) some (k ((i+1:Nat),[a,b])) ?_ ?_ N (by omega)).trans rfl
      ·intro j hj k
       have h:=Q3 N (([a,b].getD i []).getD j (0,[],[])) true hN (hm _ (getD_mem _ hj))
       simp (disch:=first | assumption | omega) only[Aw,h,AY]
      ·intro k
       simp (disch:=first | assumption | omega) only[Aw]
       rfl
     ·intro k
      rfl
     ·rw[first_some,AcK]
      rw[I4,I4]
      have e: ∀ x:Int,(bif x != 0 then x else Bz (fun l=>Bz (fun g=>CP g true) l) ([]:List (List Gn)))=x:=fun x=>by
        by_cases hx:x=0
        ·subst hx;rfl
        ·rw[show(x != 0)=true from bne_iff_ne.2 hx];rfl
      rw[e]
theorem TZ (N:Nat) (s:St2) (hN:1048578<N) (h1:BO s.1) (h2:BO s.2):D7 N s=some (SI s):=by
  obtain⟨a,b⟩:=s
  unfold D7 SI
  try simp only[clR]
  rw[len0,len0,show decide (((a.length:Nat):Int)>16)=decide (16<a.length)from DC _ 16,show decide (((b.length:Nat):Int)>16)=decide (16<b.length)from DC _ 16]
  cases a.isEmpty&&b.isEmpty with
  | true=>rfl
  | false =>
    rw[cond_false,cond_false]
    by_cases h:16<a.length∨16<b.length
    ·have hb:(decide (16<a.length)||decide (16<b.length))=true:=by simpa using h
     rw[hb];rfl
    ·have hb:(decide (16<a.length)||decide (16<b.length))=false:=by simpa using h
     rw[hb,cond_false,cond_false]
     rw[Eo (by omega),Eo (by omega),Aj,Aj]
     have hm:BO (a++b):=fun g hg=>by
       rcases List.mem_append.1 hg with hg | hg
       ·exact h1 g hg
       ·exact h2 g hg
     have hml:(a++b).length≤32:=by rw[List.length_append];omega
     generalize a++b=l at hm hml ⊢
     refine(Jn (mk:=fun j=>((j:Int),l)) l (0,[],[]) (fun g=>CP g true) some (some 0) ?_ ?_ N (by omega)).trans (first_some _)
     ·intro j hj k
      have h:=OC N (l.getD j (0,[],[])) true hN (hm _ (getD_mem _ hj))
      simp (disch:=first | assumption | omega) only[Aw,h,AY]
     ·intro k
      simp (disch:=first | assumption | omega) only[Aw]
end Go.Proofs.YtadefjgbcapakaaGreatDoor.Pl
namespace Go.Proofs.YtadefjgbcapakaaGreatDoor.Sp
def beNat (l:List UInt8):Nat:=l.foldl (fun v b=>v*256+b.toNat) 0
def leastOf (k:Nat):Nat:=if k=1 then 128 else 2 ^ (8*(k - 1))
theorem AhQ (l:List UInt8) (b:UInt8):beNat (l++[b])=beNat l*256+b.toNat:=by simp [beNat,List.foldl_append]
theorem Alq (l:List UInt8):beNat l<256 ^ l.length:=by
  have h: ∀(l:List UInt8) (v h:Nat),v<h→l.foldl (fun v b=>v*256+b.toNat) v<h*256 ^ l.length:=by
    intro l
    induction l with
    | nil=>intro v h hv;simpa using hv
    | cons b r ih =>
      intro v h hv
      have hb:=b.toNat_lt
      have:=ih (v*256+b.toNat) (h*256) (by omega)
      rw[List.foldl_cons,List.length_cons,Nat.pow_succ]
      rw[Nat.mul_comm (256 ^ r.length) 256, ←Nat.mul_assoc];exact this
  have:=h l 0 1 (by omega)
  simpa [beNat]using this
def head (l:List UInt8):Int×Nat×Nat :=
  match l with
  | []=>(3,0,0)
  | t::r =>
    if t.toNat % 32=31 then(5,0,0)else
    match r with
    | []=>(3,0,0)
    | n::r =>
      if n.toNat<128 then(0,2,n.toNat)else
      if n.toNat=128∨131<n.toNat then(6,0,0)else
      if r.length<n.toNat - 128 then(3,0,0)else
      if beNat (r.take (n.toNat - 128))<leastOf (n.toNat - 128)∨131072<beNat (r.take (n.toNat - 128))then(6,0,0)else
      (0,2+(n.toNat - 128),beNat (r.take (n.toNat - 128)))
def rd (l:List UInt8):Int×Nat×Nat:=if(head l).1=0∧l.length - (head l).2.1<(head l).2.2 then(3,0,0)else head l
def err (l:List UInt8):Int:=(rd l).1
def tag (l:List UInt8):Nat:=(l.headD 0).toNat
def content (l:List UInt8):List UInt8:=(l.drop (rd l).2.1).take (rd l).2.2
def raw (l:List UInt8):List UInt8:=l.take ((rd l).2.1+(rd l).2.2)
def rest (l:List UInt8):List UInt8:=l.drop ((rd l).2.1+(rd l).2.2)
theorem AmX (l:List UInt8) (h:(head l).1=0):2≤(head l).2.1∧(head l).2.1≤l.length∧(head l).2.1≤5∧(head l).2.2≤131072:=by
  unfold head at *
  split at h
  ·simp at h
  ·split at h
   ·simp at h
   ·split at h
    ·simp at h
    ·split at h
     ·simp only[*,if_true,if_false,List.length_cons];omega
     ·split at h
      ·simp at h
      ·split at h
       ·simp at h
       ·split at h
        ·simp at h
        ·simp only[*,if_false,List.length_cons];omega
theorem Aaa (l:List UInt8) (h:err l=0):2≤(rd l).2.1∧(rd l).2.1+(rd l).2.2≤l.length∧(rd l).2.1≤5∧(rd l).2.2≤131072:=by
  unfold err rd at *
  by_cases hc:(head l).1=0∧l.length - (head l).2.1<(head l).2.2
  ·rw[if_pos hc]at h;simp at h
  ·rw[if_neg hc]at h ⊢
   have:=AmX l h
   omega
theorem Ah9 (l:List UInt8) (h:err l=0):(rest l).length<l.length:=by
  have:=Aaa l h
  unfold rest;rw[List.length_drop];omega
theorem Js (l:List UInt8) (h:err l=0):(content l).length<l.length:=by
  have:=Aaa l h
  unfold content;rw[List.length_take,List.length_drop];omega
theorem AaG (l:List UInt8) (h:err l=0):(content l).length=(rd l).2.2:=by
  have:=Aaa l h
  unfold content;rw[List.length_take,List.length_drop];omega
theorem Ajh (l:List UInt8) (h:err l=0):(raw l).length=(rd l).2.1+(rd l).2.2:=by
  have:=Aaa l h
  unfold raw;rw[List.length_take];omega
def IY (l:List UInt8):Int:=if err l≠0 then err l else if rest l=[]then 0 else 4
def cons (t:Nat):Bool:=decide (t / 32 % 2=1)
def within:Nat→Nat→List UInt8→Int
  | 0,_,_=>0
  | f+1,d,l =>
    if l=[]then 0 else
    if err l≠0 then err l else
    if 16≤d then 8 else
    if(if cons (tag l)then within f (d+1) (content l)else 0)≠0 then(if cons (tag l)then within f (d+1) (content l)else 0)
    else within f d (rest l)
def inner (f d:Nat) (t:Nat) (c:List UInt8):Int:=if cons t then within f d c else 0
theorem Aj4 (f d:Nat) (l:List UInt8) (h:l≠ []) (he:err l≠0):within (f+1) d l=err l:=by
  rw[within,if_neg h,if_pos he]
theorem Ahg (f d:Nat) (l:List UInt8) (h:l≠ []) (he:err l=0) (hd:16≤d):within (f+1) d l=8:=by
  rw[within,if_neg h,if_neg (by simp [he]),if_pos hd]
theorem Aj3 (f d:Nat) (l:List UInt8) (h:l≠ []) (he:err l=0) (hd: ¬ 16≤d) (hi:inner f (d+1) (tag l) (content l)≠0):within (f+1) d l=inner f (d+1) (tag l) (content l):=by
  rw[within,if_neg h,if_neg (by simp [he]),if_neg hd]
  unfold inner at hi ⊢
  rw[if_pos hi]
theorem Ahh (f d:Nat) (l:List UInt8) (h:l≠ []) (he:err l=0) (hd: ¬ 16≤d) (hi:inner f (d+1) (tag l) (content l)=0):within (f+1) d l=within f d (rest l):=by
  rw[within,if_neg h,if_neg (by simp [he]),if_neg hd]
  unfold inner at hi
  rw[if_neg (by simp [hi])]
def chk (l:List UInt8):Int:=if IY l≠0 then IY l else inner (l.length+1) 1 (tag l) (content l)
def Uy (n:Nat):List UInt8 :=
  if n<128 then [UInt8.ofNat n]else if n<256 then [129,UInt8.ofNat n]else if n<65536 then [130,UInt8.ofNat (n / 256),UInt8.ofNat n]
  else [131,UInt8.ofNat (n / 65536),UInt8.ofNat (n / 256),UInt8.ofNat n]
def elem (t:Nat) (c:List UInt8):List UInt8:=UInt8.ofNat t::Uy c.length++c
def wrap (t:Int) (c:List UInt8):List UInt8×Int :=
  if t<0∨255<t∨t % 32=31 then([],5)else if 131072<c.length then([],6)else(elem t.toNat c,0)
theorem yY (n:Nat):(Uy n).length≤4:=by unfold Uy;split<;>(try split)<;>(try split)<;>simp
theorem Bf (t:Nat) (c:List UInt8):(elem t c).length≤c.length+5:=by
  have:=yY c.length
  unfold elem;simp;omega
