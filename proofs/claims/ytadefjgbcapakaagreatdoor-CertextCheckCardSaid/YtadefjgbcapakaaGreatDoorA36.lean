/-
  CertextCheck: the law returns true whatever the input; machine, functions, plain law (part 36 of 47.)
-/
import Derived.Test.YtadefjgbcapakaaGreatDoorA35
set_option linter.unusedVariables false
set_option linter.unusedSimpArgs false
namespace Go.Proofs.YtadefjgbcapakaaGreatDoor.Pl
open IntKind (i64)
open Go Vm
def II (l:Bs):Int×Bs×Bs:=((Sp.tag l:Int),Sp.content l,Sp.raw l)
def EC (l:Bs):(Int×Bs×Bs)×Bs×Int:=if Sp.err l=0 then(II l,Sp.rest l,0)else((0,[],[]),[],Sp.err l)
theorem AfE {s:Bs} {p n:Nat} (hh:Sp.head s=(0,p,n)) (hp:p≤s.length):(if((s.length:Int) - p<n)then(some ((0,([]:Bs),([]:Bs)),([]:Bs),3):Option ((Int×Bs×Bs)×Bs×Int))else some ((((s.getD 0 0).toNat:Int),AO s p (p+n),AO s 0 (p+n)),AO s (p+n) s.length,0))=some (EC s):=by
  have e1: ∀ a b,(AO s a b)=(s.take b).drop a:=fun a b=>rfl
  by_cases h:(s.length:Int) - p<n
  ·rw[if_pos h]
   have:Sp.rd s=(3,0,0):=by unfold Sp.rd;rw[hh,if_pos ⟨rfl,by show s.length - p<n;omega⟩]
   unfold EC Sp.err;rw[this];rfl
  ·rw[if_neg h]
   have hr:Sp.rd s=(0,p,n):=by unfold Sp.rd;rw[hh,if_neg (by intro hc;have:=hc.2;simp at this;omega)]
   have he:Sp.err s=0:=by unfold Sp.err;rw[hr]
   unfold EC
   rw[if_pos he]
   unfold II Sp.content Sp.raw Sp.rest
   rw[hr,e1,e1,e1]
   congr 1
   refine Prod.ext (Prod.ext ?_ (Prod.ext ?_ ?_)) (Prod.ext ?_ rfl)
   ·show((s.getD 0 0).toNat:Int)=((Sp.tag s:Nat):Int)
    unfold Sp.tag;cases s<;>rfl
   ·show(s.take (p+n)).drop p=(s.drop p).take n
    rw[List.drop_take];congr 1;omega
   ·show(s.take (p+n)).drop 0=_
    rw[List.drop_zero]
   ·show(s.take s.length).drop (p+n)=_
    rw[List.take_length]
theorem take_snoc {α :Type} {l:List α} {i:Nat} (h:i<l.length):l.take (i+1)=l.take i++[l[i]]:=by
  rw[List.take_add_one,List.getElem?_eq_getElem h];rfl
theorem wZ {l:Bs} {i:Nat} (h:i<l.length):Sp.beNat (l.take (i+1))=Sp.beNat (l.take i)*256+(l[i]).toNat:=by
  rw[take_snoc h,Sp.AhQ]
theorem qE {l:Bs} (i:Nat) (hl:l.length≤3):Sp.beNat (l.take i)<16777216:=by
  have h1:=Sp.Alq (l.take i)
  have h2:256 ^ (l.take i).length≤256 ^ 3:=Nat.pow_le_pow_right (by omega) (by rw[List.length_take];omega)
  have:(256:Nat) ^ 3=16777216:=by decide
  omega
theorem AjP {ρ :Type} (N:Nat) (l:Bs) (hl:l.length≤3) (hN:4<N) (kx:Int→Option ρ) :
    Ak (X:=Int×Int×List Int) (Y:=Int) (U3 fun t7b t52b l45568b k2 x3 =>
     if t52b<((List.map (fun(b:UInt8)=>((b.toNat:Int))) l).length:Int)then if(0:Int)≤t52b then if t52b<(l45568b.length:Int)then if t52b.toNat<l45568b.length then
       k2 (BP .or .i64 (i64.wrap (t7b*(256))) (i64.wrap (l45568b.getD t52b.toNat 0)),i64.wrap (t52b+(1:Int)),l45568b)else none else none else none
     else x3 t7b) N (0,0,List.map (fun(b:UInt8)=>((b.toNat:Int))) l) kx=kx (Sp.beNat l):=by
  refine Fe (fun x=> ∃ i,i≤l.length∧x=((Sp.beNat (l.take i):Int),(i:Int),List.map (fun(b:UInt8)=>((b.toNat:Int))) l)) (fun x=>l.length - x.2.1.toNat) (fun _=>kx (Sp.beNat l)) ?_ N _ ⟨0,by omega,rfl⟩ (by show l.length - 0<N;omega)
  rintro x ⟨i,hi,rfl⟩ k hk
  show(if(i:Int)<_ then _ else _)=_
  rw[List.length_map]
  by_cases h:i<l.length
  ·dsimp only
   rw[if_pos (by omega),if_pos (by omega),if_pos (by omega),Int.toNat_natCast,if_pos h]
   have hb:=(l[i]).toNat_lt
   have hs:=qE (l:=l) i hl
   rw[show(List.map (fun(b:UInt8)=>((b.toNat:Int))) l).getD i 0=((l[i].toNat:Nat):Int) by simp [List.getD_eq_getElem?_getD,h]]
   rw[w64 (x:=((Sp.beNat (l.take i):Nat):Int)*256) (by omega) (by omega),w64 (x:=((l[i].toNat:Nat):Int)) (by omega) (by omega),w64 (x:=(i:Int)+1) (by omega) (by omega)]
   rw[show((Sp.beNat (l.take i):Nat):Int)*256=((Sp.beNat (l.take i)*256:Nat):Int) by omega,or8 _ _ (by omega) hb, ←wZ h]
   exact hk _ ⟨i+1,h,rfl⟩ (by show l.length - ((i:Int)+1).toNat<l.length - (i:Int).toNat;omega)
  ·rw[if_neg (by omega)]
   rw[List.take_of_length_le (by omega)]
theorem AlQ (N:Nat) (k:Nat) (h1:1≤k) (h3:k≤3):lV N (k:Int)=some (Sp.leastOf k:Int):=by
  have:k=1∨k=2∨k=3:=by omega
  rcases this with rfl | rfl | rfl<;>rfl
set_option maxRecDepth 4000
theorem Xh (N:Nat) (s:Bs) (hN:4<N) (hs:s.length≤1099511627776):Vh N s=some (EC s):=by
  unfold Vh
  cases s with
  | nil=>rfl
  | cons a r =>
    have ha:=a.toNat_lt
    have h0:((a::r:Bs)==([]:Bs))=false:=rfl
    simp only[h0,cond_false,List.getD_cons_zero,List.length_cons,xN,mF,mG,xA]
    simp only[Ahn,G6,beq_iff_eq,decide_eq_true_eq,Bool.or_eq_true,Bool.and_eq_true]
    rw[w64 (by omega) (by omega),AhM _ ha]
    by_cases h31:a.toNat % 32=31
    ·have:Sp.err (a::r)=5:=by simp [Sp.err,Sp.rd,Sp.head,h31]
     unfold EC
     rw[this,if_pos (by omega),if_pos (by omega)]
     rfl
    ·rw[if_pos (by omega),if_neg (by omega)]
     cases r with
     | nil =>
       have:Sp.err [a]=3:=by simp [Sp.err,Sp.rd,Sp.head,h31]
       unfold EC
       rw[this,if_pos (by simp)]
       rfl
     | cons b c =>
       have hb:=b.toNat_lt
       simp only[List.length_cons]at hs
       simp only[List.getD_cons_succ,List.getD_cons_zero,List.length_cons]
       rw[w64 (x:=((b.toNat:Nat):Int)) (by omega) (by omega),if_neg (by omega),if_pos (by omega)]
       by_cases h6:b.toNat=128∨131<b.toNat
       ·have:Sp.err (a::b::c)=6:=by simp [Sp.err,Sp.rd,Sp.head,h31,h6,show ¬ b.toNat<128 by omega]
        unfold EC
        rw[this,if_pos (by omega)]
        rfl
       ·rw[if_neg (by omega),Oz]
        have hend: ∀ p n:Nat,Sp.head (a::b::c)=(0,p,n)→p≤c.length+2→n≤131072→(if i64.wrap (((c.length+1+1:Nat):Int) - (p:Int))<(n:Int)then some ((0,([]:Bs),([]:Bs)),([]:Bs),3)
            else if(0:Int)≤(p:Int)then if(p:Int)≤i64.wrap ((p:Int)+(n:Int))then if i64.wrap ((p:Int)+(n:Int))≤((c.length+1+1:Nat):Int)then if(0:Int)≤i64.wrap ((p:Int)+(n:Int))then
              if i64.wrap ((p:Int)+(n:Int))≤((c.length+1+1:Nat):Int)then if(0:Int)≤i64.wrap ((p:Int)+(n:Int))then if i64.wrap ((p:Int)+(n:Int))≤((c.length+1+1:Nat):Int)then
              some ((((a.toNat:Nat):Int),AO (a::b::c) (p:Int).toNat (i64.wrap ((p:Int)+(n:Int))).toNat,AO (a::b::c) 0 (i64.wrap ((p:Int)+(n:Int))).toNat),AO (a::b::c) (i64.wrap ((p:Int)+(n:Int))).toNat (c.length+1+1),0)
              else none else none else none else none else none else none else none:Option ((Int×Bs×Bs)×Bs×Int))=some (EC (a::b::c)):=by
          intro p n hh hp hn
          have:=AfE (s:=a::b::c) hh (by simp;omega)
          rw[w64 (x:=((c.length+1+1:Nat):Int) - (p:Int)) (by omega) (by omega),w64 (x:=(p:Int)+(n:Int)) (by omega) (by omega)]
          rw[← this]
          show(if((c.length+1+1:Nat):Int) - (p:Int)<(n:Int)then _ else _)=(if((c.length+1+1:Nat):Int) - (p:Int)<(n:Int)then _ else _)
          by_cases hlt:((c.length+1+1:Nat):Int) - (p:Int)<(n:Int)
          ·rw[if_pos hlt,if_pos hlt]
          ·rw[if_neg hlt,if_neg hlt,if_pos (by omega),if_pos (by omega),if_pos (by omega),if_pos (by omega),if_pos (by omega),if_pos (by omega),if_pos (by omega)]
           rw[show((p:Int)+(n:Int)).toNat=p+n by omega,Int.toNat_natCast]
           rfl
        by_cases h128:b.toNat<128
        ·rw[if_neg (by omega)]
         exact hend 2 b.toNat (by simp [Sp.head,h31,h128]) (by omega) (by omega)
        ·rw[if_pos (by omega)]
         obtain⟨k,hk⟩: ∃ k:Nat,b.toNat=128+k:=⟨b.toNat - 128,by omega⟩
         rw[w64 (x:=((b.toNat:Nat):Int) - 128) (by omega) (by omega),show((b.toNat:Nat):Int) - 128=(k:Int) by omega,w64 (x:=2+(k:Int)) (by omega) (by omega)]
         by_cases hlen:c.length<k
         ·rw[if_pos (by omega)]
          have:Sp.err (a::b::c)=3:=by simp [Sp.err,Sp.rd,Sp.head,h31,h128,h6,show b.toNat - 128=k by omega,hlen]
          unfold EC
          rw[this]
          rfl
         ·have hcut:AO (a::b::c) 2 ((2+(k:Int)).toNat)=c.take k:=by
            rw[show(2+(k:Int)).toNat=k+2 by omega];rfl
          have hlk:(c.take k).length=k:=by rw[List.length_take];omega
          rw[if_neg (by omega),if_pos (by omega),if_pos (by omega),hcut,if_pos (by omega)]
          rw[AjP N (c.take k) (by omega) hN,AlQ N k (by omega) (by omega),Ae]
          by_cases hbad:Sp.beNat (c.take k)<Sp.leastOf k∨131072<Sp.beNat (c.take k)
          ·have:Sp.err (a::b::c)=6:=by simp [Sp.err,Sp.rd,Sp.head,h31,h128,h6,show b.toNat - 128=k by omega,hlen,hbad]
           unfold EC
           rw[if_pos (by omega),this]
           rfl
          ·rw[if_neg (by omega)]
           have:=hend (2+k) (Sp.beNat (c.take k)) (by simp [Sp.head,h31,h128,h6,show b.toNat - 128=k by omega,hlen,hbad]) (by omega) (by omega)
           rw[show(((2+k:Nat)):Int)=2+(k:Int) by omega]at this
           exact this
theorem Ae9 {ρ :Type} (N:Nat) (s:Bs) (k:Nat) (hk:k≤3) (hl:k+2≤s.length) (hs:s.length≤1099511627776) (hN:4<N) (kx:Int→Option ρ) :
    Ak (X:=Int×Int) (Y:=Int) (U2 fun t6b t9b k2 x3 =>
     if t9b<(k:Int)then if(0:Int)≤i64.wrap ((2:Int)+t9b)then if i64.wrap ((2:Int)+t9b)<(s.length:Int)then
       k2 (i64.wrap ((i64.wrap ((256:Int)*t6b))+i64.wrap ((s.getD ((i64.wrap ((2:Int)+t9b)).toNat) 0).toNat:Int)),i64.wrap (t9b+(1:Int)))else none else none
     else x3 t6b) N (0,0) kx=kx (Sp.beNat ((s.drop 2).take k)):=by
  have hlen:((s.drop 2).take k).length=k:=by rw[List.length_take,List.length_drop];omega
  generalize hL:(s.drop 2).take k=l at hlen
  refine Fe (fun x=> ∃ i,i≤k∧x=((Sp.beNat (l.take i):Int),(i:Int))) (fun x=>k - x.2.toNat) (fun _=>kx (Sp.beNat l)) ?_ N _ ⟨0,by omega,rfl⟩ (by show k - 0<N;omega)
  rintro x ⟨i,hi,rfl⟩ kk hkk
  show(if(i:Int)<_ then _ else _)=_
  by_cases h:i<k
  ·have hb:=(l[i]'(by omega)).toNat_lt
   have hs':=qE (l:=l) i (by omega)
   dsimp only
   rw[if_pos (by omega),w64 (x:=2+(i:Int)) (by omega) (by omega),if_pos (by omega),if_pos (by omega),show(2+(i:Int)).toNat=i+2 by omega]
   have e:s.getD (i+2) 0=l[i]'(by omega):=by
     have:l[i]? =s[i+2]? :=by rw[← hL,List.getElem?_take,if_pos h,List.getElem?_drop,Nat.add_comm]
     rw[List.getD_eq_getElem?_getD, ←this,List.getElem?_eq_getElem (by omega)];rfl
   rw[e,w64 (x:=256*((Sp.beNat (l.take i):Nat):Int)) (by omega) (by omega),w64 (x:=(((l[i]'(by omega)).toNat:Nat):Int)) (by omega) (by omega),w64 (x:=(i:Int)+1) (by omega) (by omega),w64 (by omega) (by omega)]
   have:=wZ (l:=l) (i:=i) (by omega)
   rw[show 256*((Sp.beNat (l.take i):Nat):Int)+(((l[i]'(by omega)).toNat:Nat):Int)=((Sp.beNat (l.take (i+1)):Nat):Int) by omega]
   exact hkk _ ⟨i+1,h,rfl⟩ (by show k - ((i:Int)+1).toNat<k - (i:Int).toNat;omega)
  ·rw[if_neg (by omega),List.take_of_length_le (by omega)]
theorem Akx (k:Nat) (h1:1≤k) (h3:k≤3):(([0,128,256,65536]:List Int).getD k 0)=(Sp.leastOf k:Int):=by
  have:k=1∨k=2∨k=3:=by omega
  rcases this with rfl | rfl | rfl<;>rfl
theorem SA (N:Nat) (s:Bs) (hN:4<N) (hs:s.length≤1099511627776):P7 N s=some (EC s):=by
  unfold P7
  cases s with
  | nil=>rfl
  | cons a r =>
    have ha:=a.toNat_lt
    simp only[List.getD_cons_zero,List.length_cons,xN,mF,mG,xA]
    simp only[Ahn,G6,beq_iff_eq,decide_eq_true_eq,Bool.or_eq_true,Bool.and_eq_true]
    rw[if_neg (by omega),if_pos (by omega)]
    have ht:((a.toNat:Nat):Int).tmod 32=((a.toNat % 32:Nat):Int):=by rw[Int.tmod_eq_emod_of_nonneg (by omega)];omega
    rw[ht]
    by_cases h31:a.toNat % 32=31
    ·have:Sp.err (a::r)=5:=by simp [Sp.err,Sp.rd,Sp.head,h31]
     unfold EC
     rw[this,if_pos (by omega)]
     rfl
    ·rw[if_neg (by omega)]
     cases r with
     | nil =>
       have:Sp.err [a]=3:=by simp [Sp.err,Sp.rd,Sp.head,h31]
       unfold EC
       rw[this]
       rfl
     | cons b c =>
       have hb:=b.toNat_lt
       simp only[List.length_cons]at hs
       simp only[List.getD_cons_succ,List.getD_cons_zero,List.length_cons]
       rw[w64 (x:=((b.toNat:Nat):Int)) (by omega) (by omega),if_neg (by omega),if_pos (by omega)]
       by_cases h6:b.toNat=128∨131<b.toNat
       ·have:Sp.err (a::b::c)=6:=by simp [Sp.err,Sp.rd,Sp.head,h31,h6,show ¬ b.toNat<128 by omega]
        unfold EC
        rw[this,if_pos (by omega)]
        rfl
       ·rw[if_neg (by omega),Oz]
        have hend: ∀ p n:Nat,Sp.head (a::b::c)=(0,p,n)→p≤c.length+2→n≤131072→(if i64.wrap (((c.length+1+1:Nat):Int) - (p:Int))<(n:Int)then some ((0,([]:Bs),([]:Bs)),([]:Bs),3)
            else if(0:Int)<((c.length+1+1:Nat):Int)then if(0:Int)≤(p:Int)then if(p:Int)≤i64.wrap ((p:Int)+(n:Int))then if i64.wrap ((p:Int)+(n:Int))≤((c.length+1+1:Nat):Int)then if(0:Int)≤i64.wrap ((p:Int)+(n:Int))then
              if i64.wrap ((p:Int)+(n:Int))≤((c.length+1+1:Nat):Int)then if(0:Int)≤i64.wrap ((p:Int)+(n:Int))then if i64.wrap ((p:Int)+(n:Int))≤((c.length+1+1:Nat):Int)then
              some ((i64.wrap ((a.toNat:Nat):Int),AO (a::b::c) (p:Int).toNat (i64.wrap ((p:Int)+(n:Int))).toNat,AO (a::b::c) 0 (i64.wrap ((p:Int)+(n:Int))).toNat),AO (a::b::c) (i64.wrap ((p:Int)+(n:Int))).toNat (c.length+1+1),0)
              else none else none else none else none else none else none else none else none:Option ((Int×Bs×Bs)×Bs×Int))=some (EC (a::b::c)):=by
          intro p n hh hp hn
          have:=AfE (s:=a::b::c) hh (by simp;omega)
          rw[w64 (x:=((c.length+1+1:Nat):Int) - (p:Int)) (by omega) (by omega),w64 (x:=(p:Int)+(n:Int)) (by omega) (by omega),w64 (x:=((a.toNat:Nat):Int)) (by omega) (by omega)]
          rw[← this]
          show(if((c.length+1+1:Nat):Int) - (p:Int)<(n:Int)then _ else _)=(if((c.length+1+1:Nat):Int) - (p:Int)<(n:Int)then _ else _)
          by_cases hlt:((c.length+1+1:Nat):Int) - (p:Int)<(n:Int)
          ·rw[if_pos hlt,if_pos hlt]
          ·rw[if_neg hlt,if_neg hlt,if_pos (by omega),if_pos (by omega),if_pos (by omega),if_pos (by omega),if_pos (by omega),if_pos (by omega),if_pos (by omega),if_pos (by omega)]
           rw[show((p:Int)+(n:Int)).toNat=p+n by omega,Int.toNat_natCast]
           rfl
        by_cases h128:b.toNat<128
        ·rw[if_neg (by omega)]
         exact hend 2 b.toNat (by simp [Sp.head,h31,h128]) (by omega) (by omega)
        ·rw[if_pos (by omega)]
         obtain⟨k,hk⟩: ∃ k:Nat,b.toNat=128+k:=⟨b.toNat - 128,by omega⟩
         rw[w64 (x:=((b.toNat:Nat):Int) - 128) (by omega) (by omega),show((b.toNat:Nat):Int) - 128=(k:Int) by omega,w64 (x:=2+(k:Int)) (by omega) (by omega)]
         by_cases hlen:c.length<k
         ·rw[if_pos (by omega)]
          have:Sp.err (a::b::c)=3:=by simp [Sp.err,Sp.rd,Sp.head,h31,h128,h6,show b.toNat - 128=k by omega,hlen]
          unfold EC
          rw[this]
          rfl
         ·rw[if_neg (by omega)]
          have hd:=fun kx=>Ae9 (ρ :=(Int×Bs×Bs)×Bs×Int) N (a::b::c) k (by omega) (by simp;omega) (by simp;omega) hN kx
          refine Eq.trans (hd _) ?_
          show(if(0:Int)≤(k:Int)then _ else _)=_
          have hdr:((a::b::c).drop 2).take k=c.take k:=rfl
          rw[hdr,if_pos (by omega),if_pos (by omega),Int.toNat_natCast,if_pos (by omega),Akx k (by omega) (by omega)]
          by_cases hbad:Sp.beNat (c.take k)<Sp.leastOf k∨131072<Sp.beNat (c.take k)
          ·have:Sp.err (a::b::c)=6:=by simp [Sp.err,Sp.rd,Sp.head,h31,h128,h6,show b.toNat - 128=k by omega,hlen,hbad]
           unfold EC
           rw[if_pos (by omega),this]
           rfl
          ·rw[if_neg (by omega)]
           have:=hend (2+k) (Sp.beNat (c.take k)) (by simp [Sp.head,h31,h128,h6,show b.toNat - 128=k by omega,hlen,hbad]) (by omega) (by omega)
           rw[show(((2+k:Nat)):Int)=2+(k:Int) by omega]at this
           exact this
def Abq (s:Bs):(Int×Bs×Bs)×Int:=if Sp.IY s=0 then(II s,0)else((0,[],[]),Sp.IY s)
theorem jO {s:Bs} (h:Sp.IY s=0):Sp.err s=0∧Sp.rest s=[]:=by
  unfold Sp.IY at h
  by_cases he:Sp.err s=0
  ·rw[if_neg (by simp [he])]at h
   by_cases hr:Sp.rest s=[]
   ·exact⟨he,hr⟩
   ·rw[if_neg hr]at h;cases h
  ·rw[if_pos he]at h;exact absurd h he
theorem Ajv (N:Nat) (s:Bs) (hN:4<N) (hs:s.length≤1099511627776):nI N s=some (Abq s):=by
  unfold nI
  rw[Xh N s hN hs,Ae]
  unfold EC Abq Sp.IY
  by_cases he:Sp.err s=0
  ·rw[if_pos he]
   by_cases hr:Sp.rest s=[]
   ·simp [he,hr,G6]
   ·simp [he,hr,G6]
  ·rw[if_neg he]
   simp [he,G6]
theorem AfF (N:Nat) (s:Bs) (hN:4<N) (hs:s.length≤1099511627776):VS N s=some (Abq s):=by
  unfold VS
  rw[SA N s hN hs,Ae]
  unfold EC Abq Sp.IY
  by_cases he:Sp.err s=0
  ·rw[if_pos he]
   by_cases hr:Sp.rest s=[]
   ·simp [he,hr]
   ·have:0<(Sp.rest s).length:=by cases h:Sp.rest s with | nil=>exact absurd h hr | cons _ _=>simp
    simp [he,hr,this,G6]
  ·rw[if_neg he]
   simp [he,G6]
theorem lT (s:Bs):Sp.tag s<256:=UInt8.toNat_lt _
def JK (e:Int×Bs×Bs) (d:Nat):Int:=if e.1 / 32 % 2=1 then Sp.within (e.2.1.length+1) d e.2.1 else 0
theorem Zb: ∀(f g d:Nat) (l:Bs),l.length<f→l.length<g→Sp.within f d l=Sp.within g d l:=by
  intro f
  induction f with
  | zero=>intro g d l h;omega
  | succ f ih =>
    intro g d l hf hg
    cases g with
    | zero=>omega
    | succ g =>
      show(if l=[]then _ else _)=if l=[]then _ else _
      by_cases hl:l=[]
      ·rw[if_pos hl,if_pos hl]
      ·rw[if_neg hl,if_neg hl]
       by_cases he:Sp.err l=0
       ·have h1:=Sp.Js l he
        have h2:=Sp.Ah9 l he
        rw[ih g (d+1) (Sp.content l) (by omega) (by omega),ih g d (Sp.rest l) (by omega) (by omega)]
       ·rw[if_pos he,if_pos he]
theorem QW {B:Bs→(Bs→Option Int)→(Unit→Option Int)→Option Int} {kx:Unit→Option Int} (d L:Nat)
    (hB: ∀ x k,x≠ []→x.length≤L→B x k kx=if Sp.err x≠0 then some (Sp.err x)else if 16≤d then some 8 else if JK (II x) (d+1)≠0 then some (JK (II x) (d+1))else k (Sp.rest x))
    (hend: ∀ k,B [] k kx=some 0) (N:Nat) (x:Bs) (hx:x.length≤L) (hN:x.length<N):Ak B N x kx=some (Sp.within (x.length+1) d x):=by
  refine Fe (fun x=>x.length≤L) (fun x=>x.length) (fun x=>some (Sp.within (x.length+1) d x)) ?_ N x hx hN
  intro x hx k hk
  by_cases h0:x=[]
  ·subst h0;rw[hend];rfl
  ·rw[hB x k h0 hx]
   by_cases he:Sp.err x=0
   ·rw[if_neg (by simp [he])]
    by_cases hd:16≤d
    ·rw[if_pos hd,Sp.Ahg _ _ _ h0 he hd]
    ·rw[if_neg hd]
     have h1:=Sp.Js x he
     have h2:=Sp.Ah9 x he
     have hin:JK (II x) (d+1)=Sp.inner x.length (d+1) (Sp.tag x) (Sp.content x):=by
       unfold JK Sp.inner Sp.cons II
       rw[Zb _ x.length (d+1) (Sp.content x) (Nat.lt_succ_self _) h1]
       have:(((Sp.tag x:Nat):Int) / 32 % 2=1)↔(Sp.tag x / 32 % 2=1):=by omega
       simp [this]
     rw[hin]
     by_cases hi:Sp.inner x.length (d+1) (Sp.tag x) (Sp.content x)=0
     ·rw[if_neg (by simp [hi]),hk _ (by show(Sp.rest x).length≤L;omega) h2,Sp.Ahh _ _ _ h0 he hd hi]
      rw[Zb _ x.length d (Sp.rest x) (Nat.lt_succ_self _) h2]
     ·rw[if_pos hi,Sp.Aj3 _ _ _ h0 he hd hi]
   ·rw[if_pos he,Sp.Aj4 _ _ _ h0 he]
theorem Ala (N:Nat) (hN:4<N): ∀(m n:Nat),m<n→ ∀(e:Int×Bs×Bs) (d:Nat),d+m=16→0≤e.1→e.1<256→e.2.1.length<N→e.2.1.length≤1099511627776 →
    JA N n e (d:Int)=some (JK e d):=by
  intro m
  induction m with
  | zero =>
    intro n hn e d hd h0 h1 h2 h3
    obtain⟨n,rfl⟩: ∃ k,n=k+1:=⟨n - 1,by omega⟩
    show Iq N (JA N n) e d=_
    unfold Iq JK
    obtain⟨t,ht⟩: ∃ t:Nat,e.1=(t:Int):=⟨e.1.toNat,by omega⟩
    rw[ht,Am3 t (by omega)]
    by_cases hc:t / 32 % 2=1
    ·rw[if_pos hc,if_pos (by omega)]
     refine QW d e.2.1.length (fun x k hx hl=> ?_) (fun k=>rfl) N _ (Nat.le_refl _) h2
     have:(x==([]:Bs))=false:=by cases x with | nil=>exact absurd rfl hx | cons _ _=>rfl
     dsimp only
     rw[this,Xh N x hN (by omega),Ae]
     unfold EC
     simp only[G6,bne_iff_ne,decide_eq_true_eq,Bool.not_false]
     by_cases he:Sp.err x=0
     ·rw[if_pos he]
      simp only[he,ne_eq,not_true_eq_false,if_false,if_true]
      rw[if_pos (by omega),if_pos (by omega)]
     ·rw[if_neg he]
      simp [he]
    ·rw[if_neg hc,if_neg (by omega)];rfl
  | succ m ih =>
    intro n hn e d hd h0 h1 h2 h3
    obtain⟨n,rfl⟩: ∃ k,n=k+1:=⟨n - 1,by omega⟩
    show Iq N (JA N n) e d=_
    unfold Iq JK
    obtain⟨t,ht⟩: ∃ t:Nat,e.1=(t:Int):=⟨e.1.toNat,by omega⟩
    rw[ht,Am3 t (by omega)]
    by_cases hc:t / 32 % 2=1
    ·rw[if_pos hc,if_pos (by omega)]
     refine QW d e.2.1.length (fun x k hx hl=> ?_) (fun k=>rfl) N _ (Nat.le_refl _) h2
     have:(x==([]:Bs))=false:=by cases x with | nil=>exact absurd rfl hx | cons _ _=>rfl
     dsimp only
     rw[this,Xh N x hN (by omega),Ae]
     unfold EC
     simp only[G6,bne_iff_ne,decide_eq_true_eq,Bool.not_false]
     by_cases he:Sp.err x=0
     ·rw[if_pos he]
      simp only[he,ne_eq,not_true_eq_false,if_false,if_true]
      have hcl:=Sp.Js x he
      have htl:=lT x
      rw[if_neg (by omega),if_neg (by omega),w64 (by omega) (by omega),show(d:Int)+1=((d+1:Nat):Int) by omega,ih n (by omega) (II x) (d+1) (by omega) (by show(0:Int)≤((Sp.tag x:Nat):Int);omega) (by show((Sp.tag x:Nat):Int)<256;omega) (by show(Sp.content x).length<N;omega) (by show(Sp.content x).length≤_;omega),Ae]
     ·rw[if_neg he]
      simp [he]
    ·rw[if_neg hc,if_neg (by omega)];rfl
theorem Al2 (N:Nat) (hN:4<N): ∀(m n:Nat),m<n→ ∀(e:Int×Bs×Bs) (d:Nat),d+1+m=16→0≤e.1→e.1<256→e.2.1.length<N→e.2.1.length≤1099511627776 →
    IB N n e (d:Int)=some (JK e (d+1)):=by
  intro m
  induction m with
  | zero =>
    intro n hn e d hd h0 h1 h2 h3
    obtain⟨n,rfl⟩: ∃ k,n=k+1:=⟨n - 1,by omega⟩
    show GY N (IB N n) e d=_
    unfold GY JK
    rw[Int.tdiv_eq_ediv_of_nonneg h0,w64 (by omega) (by omega),Int.tmod_eq_emod_of_nonneg (by omega)]
    by_cases hc:e.1 / 32 % 2=1
    ·rw[if_pos hc,hc]
     refine QW (d+1) e.2.1.length (fun x k hx hl=> ?_) (fun k=>rfl) N _ (Nat.le_refl _) h2
     have:0<x.length:=by cases x with | nil=>exact absurd rfl hx | cons _ _=>simp
     dsimp only
     rw[SA N x hN (by omega),Ae]
     unfold EC
     simp only[G6,bne_iff_ne,decide_eq_true_eq]
     rw[if_pos (by omega),w64 (by omega) (by omega)]
     by_cases he:Sp.err x=0
     ·rw[if_pos he]
      simp only[he,ne_eq,not_true_eq_false,if_false]
      rw[if_pos (by omega),if_pos (by omega)]
     ·rw[if_neg he]
      simp [he]
    ·rw[if_neg hc,show e.1 / 32 % 2=0 by omega];rfl
  | succ m ih =>
    intro n hn e d hd h0 h1 h2 h3
    obtain⟨n,rfl⟩: ∃ k,n=k+1:=⟨n - 1,by omega⟩
    show GY N (IB N n) e d=_
    unfold GY JK
    rw[Int.tdiv_eq_ediv_of_nonneg h0,w64 (by omega) (by omega),Int.tmod_eq_emod_of_nonneg (by omega)]
    by_cases hc:e.1 / 32 % 2=1
    ·rw[if_pos hc,hc]
     refine QW (d+1) e.2.1.length (fun x k hx hl=> ?_) (fun k=>rfl) N _ (Nat.le_refl _) h2
     have:0<x.length:=by cases x with | nil=>exact absurd rfl hx | cons _ _=>simp
     dsimp only
     rw[SA N x hN (by omega),Ae]
     unfold EC
     simp only[G6,bne_iff_ne,decide_eq_true_eq]
     rw[if_pos (by omega),w64 (by omega) (by omega)]
     by_cases he:Sp.err x=0
     ·rw[if_pos he]
      simp only[he,ne_eq,not_true_eq_false,if_false]
      have hcl:=Sp.Js x he
      have htl:=lT x
      rw[if_neg (by omega),if_neg (by omega),show(d:Int)+1=((d+1:Nat):Int) by omega,ih n (by omega) (II x) (d+1) (by omega) (by show(0:Int)≤((Sp.tag x:Nat):Int);omega) (by show((Sp.tag x:Nat):Int)<256;omega) (by show(Sp.content x).length<N;omega) (by show(Sp.content x).length≤_;omega),Ae]
     ·rw[if_neg he]
      simp [he]
    ·rw[if_neg hc,show e.1 / 32 % 2=0 by omega];rfl
theorem yR {s:Bs} (h:Sp.IY s=0):JK (II s) 1=Sp.chk s:=by
  unfold Sp.chk
  rw[if_neg (by simp [h])]
  unfold JK Sp.inner Sp.cons II
  have h1:=Sp.Js s (jO h).1
  rw[Zb _ (s.length+1) 1 (Sp.content s) (Nat.lt_succ_self _) (by omega)]
  have:(((Sp.tag s:Nat):Int) / 32 % 2=1)↔(Sp.tag s / 32 % 2=1):=by omega
  simp [this]
theorem Agj (N:Nat) (s:Bs) (hN:16<N) (hs:s.length≤1099511627776) (hl:s.length<N):Wh N s=some (Sp.chk s):=by
  unfold Wh
  rw[Ajv N s (by omega) hs,Ae]
  unfold Abq
  by_cases h:Sp.IY s=0
  ·have h1:=Sp.Js s (jO h).1
   have h2:=lT s
   rw[if_pos h, ←yR h]
   have:=Ala N (by omega) 15 N (by omega) (II s) 1 rfl (by show(0:Int)≤((Sp.tag s:Nat):Int);omega) (by show((Sp.tag s:Nat):Int)<256;omega) (by show(Sp.content s).length<N;omega) (by show(Sp.content s).length≤_;omega)
   show Ad (JA N N (II s) 1) _=_
   rw[show(1:Int)=((1:Nat):Int)from rfl,this,Ae]
  ·rw[if_neg h]
   have:Sp.chk s=Sp.IY s:=by unfold Sp.chk;rw[if_pos h]
   simp [G6,h,this]
theorem Ab1 (N:Nat) (s:Bs) (hN:16<N) (hs:s.length≤1099511627776) (hl:s.length<N):QJ N s=some (Sp.chk s):=by
  unfold QJ
  rw[AfF N s (by omega) hs,Ae]
  unfold Abq
  by_cases h:Sp.IY s=0
  ·have h1:=Sp.Js s (jO h).1
   have h2:=lT s
   rw[if_pos h, ←yR h]
   have:=Al2 N (by omega) 15 N (by omega) (II s) 0 rfl (by show(0:Int)≤((Sp.tag s:Nat):Int);omega) (by show((Sp.tag s:Nat):Int)<256;omega) (by show(Sp.content s).length<N;omega) (by show(Sp.content s).length≤_;omega)
   show Ad (IB N N (II s) 0) _=_
   rw[show(0:Int)=((0:Nat):Int)from rfl,this,Ae]
  ·rw[if_neg h]
   have:Sp.chk s=Sp.IY s:=by unfold Sp.chk;rw[if_pos h]
   simp [G6,h,this]
def EH (t:Nat) (c:Bs):Option Bs:=if c.length≤131072 then some (Sp.elem t c)else none
theorem Acg: ∀(l:List Bs),([]:Bs).intercalate l=l.flatten
  | []=>rfl
  | [a]=>by simp [List.intercalate]
  | a::b::r=>by
    have:=Acg (b::r)
    simp only[List.intercalate,List.intersperse,List.flatten_cons]at this ⊢
    simp [this]
theorem VB (n:Nat):Vm.byteOf (IntKind.u8.wrap (n:Int))=UInt8.ofNat n:=by
  rw[w8]
  unfold Vm.byteOf
  rw[show((n:Int) % 256).toNat=n % 256 by omega]
  apply UInt8.toNat.inj
  simp
theorem AeJ (n k:Nat):(n:Int).fdiv (k:Int)=((n / k:Nat):Int):=by
  rw[Int.fdiv_eq_ediv_of_nonneg _ (by omega)];rfl
theorem head_eq {ρ :Type} (t n:Nat) (ht:t<256) (K:List Int→Option ρ) (K':Bs→Option ρ) (hK: ∀ l,List.all l isByte=true→l.length≤5→K l=K' (List.map Vm.byteOf l)) :
    (bif decide ((n:Int)<(128:Int))then K ([IntKind.u8.wrap (t:Int),IntKind.u8.wrap (n:Int)]:List Int)
      else bif decide ((n:Int)<(256:Int))then K ([IntKind.u8.wrap (t:Int),129,IntKind.u8.wrap (n:Int)]:List Int)
      else bif decide ((n:Int)<(65536:Int))then K ([IntKind.u8.wrap (t:Int),130,IntKind.u8.wrap ((n:Int).fdiv (256)),IntKind.u8.wrap (n:Int)]:List Int)
      else K ([IntKind.u8.wrap (t:Int),131,IntKind.u8.wrap ((n:Int).fdiv (65536)),IntKind.u8.wrap ((n:Int).fdiv (256)),IntKind.u8.wrap (n:Int)]:List Int))=K' (UInt8.ofNat t::Sp.Uy n):=by
  have f1:=AeJ n 256
  have f2:=AeJ n 65536
  have g1: ∀ k:Nat,isByte (k:Int)=decide (k<256):=fun k=>by unfold isByte;simp;omega
  rw[show((256:Nat):Int)=256 from rfl]at f1
  rw[show((65536:Nat):Int)=65536 from rfl]at f2
  rw[f1,f2]
  unfold Sp.Uy
  simp only[MW]
  by_cases h1:n<128
  ·rw[if_pos (by omega),if_pos h1,hK _ (by simp [Rq]) (by simp)]
   simp only[List.map_cons,List.map_nil,VB]
  ·rw[if_neg (by omega),if_neg h1]
   by_cases h2:n<256
   ·rw[if_pos (by omega),if_pos h2,hK _ (by simp [Rq];decide) (by simp)]
    simp only[List.map_cons,List.map_nil,VB];rfl
   ·rw[if_neg (by omega),if_neg h2]
    by_cases h3:n<65536
    ·rw[if_pos (by omega),if_pos h3,hK _ (by simp [Rq];decide) (by simp)]
     simp only[List.map_cons,List.map_nil,VB];rfl
    ·rw[if_neg (by omega),if_neg h3,hK _ (by simp [Rq];decide) (by simp)]
     simp only[List.map_cons,List.map_nil,VB];rfl
theorem Amv {ρ :Type} (bad:Option ρ) (fin:Nat→Option ρ): ∀(l:List Bs) (s: {n:Nat // n≤131072}),
    mP (fun(e:Bs) (s: {n:Nat // n≤131072}) (k: {n:Nat // n≤131072}→Option ρ)=>if h:s.1+e.length≤131072 then k ⟨s.1+e.length,h⟩else bad) (fun s=>fin s.1) l s=if s.1+l.flatten.length≤131072 then fin (s.1+l.flatten.length)else bad:=by
  intro l
  induction l with
  | nil=>intro s;have:=s.2;simp [mP,this]
  | cons e r ih =>
    intro s
    show(if h:s.1+e.length≤131072 then _ else bad)=_
    rw[List.flatten_cons,List.length_append]
    by_cases h:s.1+e.length≤131072
    ·rw[dif_pos h,ih]
     dsimp only
     rw[Nat.add_assoc]
    ·rw[dif_neg h,if_neg (by omega)]
theorem Amt {ρ :Type} (N:Nat) (l:List Bs) (hN:l.length<N) (hl:l.length≤1099511627776) (bad:Option ρ) (kx:Int→Option ρ) :
    Ak (X:=Int×Int) (Y:=Int) (U2 fun t6a t23a k1 x2 =>
     bif decide (t23a<(l.length:Int))then(Vm.chk (decide ((0:Int)≤t23a)) <|
     Vm.chk (decide (t23a<(l.length:Int))) <|
     let x31:Bool:=decide (((l.getD t23a.toNat ([]:Bs)).length:Int)>(i64.wrap ((131072:Int) - t6a)))
     bif x31 then bad
     else(k1 (i64.wrap (t6a+((l.getD t23a.toNat ([]:Bs)).length:Int)),i64.wrap (t23a+(1:Int)))))
     else(x2 t6a)) N (0,0) kx=if l.flatten.length≤131072 then kx (l.flatten.length:Int)else bad:=by
  refine Eq.trans (AiA (S:= {n:Nat // n≤131072}) (fun i s=>((s.1:Int),i)) l ([]:Bs) (fun e s k=>if h:s.1+e.length≤131072 then k ⟨s.1+e.length,h⟩else bad) (fun s=>(fun n:Nat=>kx (n:Int)) s.1) ?_ ?_ N ⟨0,by omega⟩ hN) ?_
  ·intro i s k hi
   have hs:=s.2
   show(bif decide ((i:Int)<(l.length:Int))then _ else _)=_
   simp only[MW,XB,Int.toNat_natCast]
   rw[if_pos (by omega),if_pos (by omega),if_pos (by omega),w64 (x:=131072 - ((s.1:Nat):Int)) (by omega) (by omega)]
   by_cases h:s.1+(l.getD i []).length≤131072
   ·rw[if_neg (by omega),dif_pos h,w64 (by omega) (by omega),w64 (by omega) (by omega)]
    rfl
   ·rw[if_pos (by omega),dif_neg h]
  ·intro s k
   show(bif decide ((l.length:Int)<(l.length:Int))then _ else _)=_
   simp only[MW]
   rw[if_neg (by omega)]
  ·refine(Amv bad (fun n:Nat=>kx (n:Int)) l ⟨0,by omega⟩).trans ?_
   dsimp only
   rw[Nat.zero_add]
theorem Xi (N t:Nat) (l:List Bs) (ht:t<256) (h31:t % 32≠31) (hN:l.length<N) (hl:l.length≤1099511627776):BR N (t:Int) l=some ((EH t l.flatten).getD [],if(EH t l.flatten).isNone then 6 else 0):=by
  unfold BR
  simp only[xN,mF,mG,Ahm,Ae5,xA,AhM t ht]
  rw[show(decide ((t:Int)<0)||decide ((t:Int)>255)||((t % 32:Nat):Int)==31)=false by simp;omega,cond_false]
  refine Eq.trans (Amt N l hN hl _ _) ?_
  unfold EH
  by_cases h:l.flatten.length≤131072
  ·rw[if_pos h,if_pos h,Oz]
   refine Eq.trans (head_eq t l.flatten.length ht (fun l1:List Int=>Vm.chk (List.all l1 isByte)<|Ad (strings_Join N l ([]:Bs)) fun r81=>Vm.chk (decide ((List.map Vm.byteOf l1).length+r81.length≤140737488355328))<|some ((List.map Vm.byteOf l1)++r81,(0:Int))) (fun h=>some (h++l.flatten,0)) (fun l' hl' hl5=> ?_)) rfl
   rw[hl',Aj]
   unfold strings_Join
   rw[Acg,decide_eq_true (show l.length≤140737488355328 by omega),decide_eq_true (show l.flatten.length≤140737488355328 by omega)]
   show Vm.chk (decide ((List.map Vm.byteOf l').length+l.flatten.length≤140737488355328)) _=_
   rw[XB,if_pos (by rw[List.length_map];omega)]
   rfl
  ·rw[if_neg h,if_neg h];rfl
theorem aU (N t:Nat) (l:List Bs) (ht:t<256) (h31:t % 32≠31) (hN:l.length<N) (hl:l.length≤1099511627776) (hs:l.flatten.length≤140737488355328):P8 N (t:Int) l=some ((EH t l.flatten).getD [],if(EH t l.flatten).isNone then 6 else 0):=by
  unfold P8
  simp only[xN,mF,mG,Ahm,Ae5,xA]
  rw[show(decide ((t:Int)<0)||decide ((t:Int)>255)||(t:Int).tmod 32==31)=false by rw[Int.tmod_eq_emod_of_nonneg (by omega)];simp;omega,cond_false]
  refine Eq.trans (Fe (fun x=> ∃ i,i≤l.length∧x=((l.take i).flatten,(i:Int))) (fun x=>l.length - x.2.toNat) (fun _=>some ((EH t l.flatten).getD [],if(EH t l.flatten).isNone then 6 else 0)) ?_ N _ ⟨0,by omega,rfl⟩ (by show l.length - 0<N;omega)) rfl
  rintro x ⟨i,hi,rfl⟩ k hk
  show(bif decide ((i:Int)<(l.length:Int))then _ else _)=_
  by_cases h:i<l.length
  ·simp only[MW,XB,Int.toNat_natCast]
   have e:(l.take i).flatten++l.getD i []=(l.take (i+1)).flatten:=by
     rw[take_snoc h,List.flatten_append,show l.getD i []=l[i] by simp [List.getD_eq_getElem?_getD,h]]
     simp
   have hle:(l.take (i+1)).flatten.length≤l.flatten.length:=by
     conv=>rhs;rw[← List.take_append_drop (i+1) l,List.flatten_append,List.length_append]
     omega
   have e2:(l.take i).flatten.length+(l.getD i []).length≤140737488355328:=by rw[← List.length_append,e];omega
   rw[if_pos (by omega),if_pos (by omega),if_pos (by omega),if_pos e2,e,w64 (by omega) (by omega)]
   exact hk _ ⟨i+1,h,rfl⟩ (by show l.length - ((i:Int)+1).toNat<l.length - (i:Int).toNat;omega)
  ·have hil:i=l.length:=by omega
   subst hil
   rw[MW,if_neg (by omega)]
   dsimp only
   rw[List.take_length]
   unfold EH
   by_cases h:l.flatten.length≤131072
   ·rw[if_pos h,MW,if_neg (by omega),Oz]
    have:=head_eq t l.flatten.length ht (fun l':List Int=>Vm.chk (List.all l' isByte)<|Vm.chk (decide ((List.map Vm.byteOf l').length+l.flatten.length≤140737488355328))<|some ((List.map Vm.byteOf l')++l.flatten,(0:Int))) (fun h=>some (h++l.flatten,0)) (fun l' hl' hl5=>by
      rw[hl',Aj,XB,if_pos (by rw[List.length_map];omega)])
    refine Eq.trans ?_ this
    simp only[MW]
    by_cases h1:l.flatten.length<128
    ·rw[if_neg (by omega),if_neg (by omega),if_neg (by omega),if_pos (by omega)]
    ·by_cases h2:l.flatten.length<256
     ·rw[if_neg (by omega),if_neg (by omega),if_pos (by omega),if_neg (by omega),if_pos (by omega)]
     ·by_cases h3:l.flatten.length<65536
      ·rw[if_neg (by omega),if_pos (by omega),if_neg (by omega),if_neg (by omega),if_pos (by omega)]
      ·rw[if_pos (by omega),if_neg (by omega),if_neg (by omega),if_neg (by omega)]
   ·rw[if_neg h,MW,if_pos (by omega)];rfl
theorem Aes (N t:Nat) (l:List Bs) (ht:t<256) (h31:t % 32≠31) (hN:l.length<N) (hl:l.length≤1099511627776) (hs:l.flatten.length≤140737488355328):Gy N (t:Int) l=some ((EH t l.flatten).getD [],if(EH t l.flatten).isNone then 2 else 0):=by
  unfold Gy
  rw[aU N t l ht h31 hN hl hs,Ae]
  cases EH t l.flatten<;>rfl
theorem JV (N:Nat) (b:Bool) (s:Bs) (e:Int):BI N b s e=some (s,b||decide (e≠0)):=by
  unfold BI
  cases b<;>simp [Vm.chk,bne,BEq.beq,decide_not]
theorem Ahi (N t:Nat) (b:Bool) (l:List Bs) (ht:t<256) (h31:t % 32≠31) (hN:l.length<N) (hl:l.length≤1099511627776):Aq N b (t:Int) l=some ((EH t l.flatten).getD [],b||(EH t l.flatten).isNone):=by
  unfold Aq
  rw[Xi N t l ht h31 hN hl,Ae,JV,Ae]
  cases EH t l.flatten<;>simp
theorem An3 (N:Nat) (b:Bool) (l:List Bs) (hN:l.length<N) (hl:l.length≤1099511627776):AZ N b l=some ((EH 48 l.flatten).getD [],b||(EH 48 l.flatten).isNone):=by
  unfold AZ
  rw[show(48:Int)=((48:Nat):Int)from rfl,Ahi N 48 b l (by omega) (by omega) hN hl,Ae]
abbrev El:=Int×Bs×Bs
def mV (M:Nat) (e:El):Prop:= ∃ t:Bs,Sp.err t=0∧e=II t∧t.length≤M
structure Good (M:Nat) (l:List El):Prop where
  len:l.length≤M
  all: ∀ e∈l,mV M e
  AnU:(l.map (·.2.2)).flatten.length≤M
theorem mV.mono {M K:Nat} {e:El} (h:mV M e) (hk:M≤K):mV K e:=by
  obtain⟨t,h1,h2,h3⟩:=h;exact⟨t,h1,h2,by omega⟩
theorem mV.content {M:Nat} {e:El} (h:mV M e):e.2.1.length+2≤e.2.2.length∧e.2.2.length≤M∧0≤e.1∧e.1<256:=by
  obtain⟨t,h1,rfl,h3⟩:=h
  have:=Sp.Aaa t h1
  have hr:=Sp.Ajh t h1
  have hc:=Sp.AaG t h1
  have ht:=lT t
  show(Sp.content t).length+2≤(Sp.raw t).length∧(Sp.raw t).length≤M∧0≤((Sp.tag t:Nat):Int)∧((Sp.tag t:Nat):Int)<256
  omega
theorem Good.mono {M K:Nat} {l:List El} (h:Good M l) (hk:M≤K):Good K l:=⟨by have:=h.len;omega,fun e he=>(h.all e he).mono hk,by have:=h.AnU;omega⟩
theorem Good.tail {M:Nat} {e:El} {l:List El} (h:Good M (e::l)):Good M l:=⟨by have:=h.len;simp at this;omega,fun e he=>h.all e (List.mem_cons_of_mem _ he),by have:=h.AnU;rw[List.map_cons,List.flatten_cons,List.length_append]at this;omega⟩
