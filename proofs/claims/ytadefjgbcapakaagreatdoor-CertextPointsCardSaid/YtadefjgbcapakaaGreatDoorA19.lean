import Derived.Test.YtadefjgbcapakaaGreatDoorA18
set_option linter.all false
namespace Go.Proofs.YtadefjgbcapakaaGreatDoor.Pl
open IntKind (i64)
open Go Vm
def EO (l:Bs):Int×Bs×Bs:=((Sp.tag l:Int),Sp.content l,Sp.raw l)
def D9 (l:Bs):(Int×Bs×Bs)×Bs×Int:=if Sp.err l=0 then(EO l,Sp.rest l,0)else((0,[],[]),[],Sp.err l)
theorem AeQ {s:Bs} {p n:Nat} (hh:Sp.head s=(0,p,n)) (hp:p<=s.length):(if((s.length:Int) - p<n)then(some ((0,([]:Bs),([]:Bs)),([]:Bs),3):Option ((Int×Bs×Bs)×Bs×Int))else some ((((s.getD 0 0).toNat:Int),Ar s p (p+n),Ar s 0 (p+n)),Ar s (p+n) s.length,0))=some (D9 s):=by
  have e1: ∀ a b,(Ar s a b)=(s.take b).drop a:=fun a b=>rfl
  by_cases h:(s.length:Int) - p<n
  ·rw[if_pos h]
   have:Sp.rd s=(3,0,0):=by unfold Sp.rd;rw[hh,if_pos ⟨rfl,by show s.length - p<n;omega⟩]
   unfold D9 Sp.err;rw[this];rfl
  ·rw[if_neg h]
   have hr:Sp.rd s=(0,p,n):=by unfold Sp.rd;rw[hh,if_neg (by intro hc;have:=hc.2;simp at this;omega)]
   have he:Sp.err s=0:=by unfold Sp.err;rw[hr]
   unfold D9
   rw[if_pos he]
   unfold EO Sp.content Sp.raw Sp.rest
   rw[hr,e1,e1,e1]
   congr 1
   refine Prod.ext (Prod.ext ?_ (Prod.ext ?_ ?_)) (Prod.ext ?_ rfl)
   ·show((s.getD 0 0).toNat:Int)=((Sp.tag s:Nat):Int)
    unfold Sp.tag;cases s<;>rfl
   ·show(s.take (p+n)).drop p=(s.drop p).take n
    rw[List.drop_take];congr 1;omega
   ·show(s.take (p+n)).drop 0=_
    rw[List.drop_zero]
   ·show(s.take s.length).drop (p+n)=_
    rw[List.take_length]
theorem take_snoc {α :Type} {l:List α} {i:Nat} (h:i<l.length):l.take (i+1)=l.take i++[l[i]]:=by
  rw[List.take_add_one,List.getElem?_eq_getElem h];rfl
theorem vS {l:Bs} {i:Nat} (h:i<l.length):Sp.beNat (l.take (i+1))=Sp.beNat (l.take i)*256+(l[i]).toNat:=by
  rw[take_snoc h,Sp.AgD]
theorem pR {l:Bs} (i:Nat) (hl:l.length<=3):Sp.beNat (l.take i)<16777216:=by
  have h1:=Sp.AjV (l.take i)
  have h2:256 ^ (l.take i).length<=256 ^ 3:=Nat.pow_le_pow_right (by omega) (by rw[List.length_take];omega)
  have:(256:Nat) ^ 3=16777216:=by decide
  omega
theorem Ai5 {ρ :Type} (N:Nat) (l:Bs) (hl:l.length<=3) (hN:4<N) (kx:Int->Option ρ) :
    Ap (X:=Int×Int×List Int) (Y:=Int) (U3 fun t7b t52b l45568b k2 x3 =>
     if t52b<((List.map (fun(b:UInt8)=>((b.toNat:Int))) l).length:Int)then if(0:Int)<=t52b then if t52b<(l45568b.length:Int)then if t52b.toNat<l45568b.length then
       k2 (Ba .or .i64 (i64.wrap (t7b*(256))) (i64.wrap (l45568b.getD t52b.toNat 0)),i64.wrap (t52b+(1:Int)),l45568b)else none else none else none
     else x3 t7b) N (0,0,List.map (fun(b:UInt8)=>((b.toNat:Int))) l) kx=kx (Sp.beNat l):=by
  refine DI (fun x=> ∃ i,i<=l.length/\x=((Sp.beNat (l.take i):Int),(i:Int),List.map (fun(b:UInt8)=>((b.toNat:Int))) l)) (fun x=>l.length - x.2.1.toNat) (fun _=>kx (Sp.beNat l)) ?_ N _ ⟨0,by omega,rfl⟩ (by show l.length - 0<N;omega)
  rintro x ⟨i,hi,rfl⟩ k hk
  show(if(i:Int)<_ then _ else _)=_
  rw[List.length_map]
  by_cases h:i<l.length
  ·dsimp only
   rw[if_pos (by omega),if_pos (by omega),if_pos (by omega),Int.toNat_natCast,if_pos h]
   have hb:=(l[i]).toNat_lt
   have hs:=pR (l:=l) i hl
   rw[show(List.map (fun(b:UInt8)=>((b.toNat:Int))) l).getD i 0=((l[i].toNat:Nat):Int) by simp [List.getD_eq_getElem?_getD,h]]
   rw[w64 (x:=((Sp.beNat (l.take i):Nat):Int)*256) (by omega) (by omega),w64 (x:=((l[i].toNat:Nat):Int)) (by omega) (by omega),w64 (x:=(i:Int)+1) (by omega) (by omega)]
   rw[show((Sp.beNat (l.take i):Nat):Int)*256=((Sp.beNat (l.take i)*256:Nat):Int) by omega,or8 _ _ (by omega) hb,<- vS h]
   exact hk _ ⟨i+1,h,rfl⟩ (by show l.length - ((i:Int)+1).toNat<l.length - (i:Int).toNat;omega)
  ·rw[if_neg (by omega)]
   rw[List.take_of_length_le (by omega)]
theorem Ak2 (N:Nat) (k:Nat) (h1:1<=k) (h3:k<=3):lX N (k:Int)=some (Sp.leastOf k:Int):=by
  have:k=1\/k=2\/k=3:=by omega
  rcases this with rfl | rfl | rfl<;>rfl
set_option maxRecDepth 4000
theorem qU (N:Nat) (s:Bs) (hN:4<N) (hs:s.length<=1099511627776):Oa N s=some (D9 s):=by
  unfold Oa
  cases s with
  | nil=>rfl
  | cons a r =>
    have ha:=a.toNat_lt
    have h0:((a::r:Bs)==([]:Bs))=false:=rfl
    simp only[h0,cond_false,List.getD_cons_zero,List.length_cons,gX,mM,mO,vT]
    simp only[AfY,Oe,beq_iff_eq,decide_eq_true_eq,Bool.or_eq_true,Bool.and_eq_true]
    rw[w64 (by omega) (by omega),Ag8 _ ha]
    by_cases h31:a.toNat % 32=31
    ·have:Sp.err (a::r)=5:=by simp [Sp.err,Sp.rd,Sp.head,h31]
     unfold D9
     rw[this,if_pos (by omega),if_pos (by omega)]
     rfl
    ·rw[if_pos (by omega),if_neg (by omega)]
     cases r with
     | nil =>
       have:Sp.err [a]=3:=by simp [Sp.err,Sp.rd,Sp.head,h31]
       unfold D9
       rw[this,if_pos (by simp)]
       rfl
     | cons b c =>
       have hb:=b.toNat_lt
       simp only[List.length_cons]at hs
       simp only[List.getD_cons_succ,List.getD_cons_zero,List.length_cons]
       rw[w64 (x:=((b.toNat:Nat):Int)) (by omega) (by omega),if_neg (by omega),if_pos (by omega)]
       by_cases h6:b.toNat=128\/131<b.toNat
       ·have:Sp.err (a::b::c)=6:=by simp [Sp.err,Sp.rd,Sp.head,h31,h6,show ¬ b.toNat<128 by omega]
        unfold D9
        rw[this,if_pos (by omega)]
        rfl
       ·rw[if_neg (by omega),FW]
        have hend: ∀ p n:Nat,Sp.head (a::b::c)=(0,p,n)->p<=c.length+2->n<=131072->(if i64.wrap (((c.length+1+1:Nat):Int) - (p:Int))<(n:Int)then some ((0,([]:Bs),([]:Bs)),([]:Bs),3)
            else if(0:Int)<=(p:Int)then if(p:Int)<=i64.wrap ((p:Int)+(n:Int))then if i64.wrap ((p:Int)+(n:Int))<=((c.length+1+1:Nat):Int)then if(0:Int)<=i64.wrap ((p:Int)+(n:Int))then
              if i64.wrap ((p:Int)+(n:Int))<=((c.length+1+1:Nat):Int)then if(0:Int)<=i64.wrap ((p:Int)+(n:Int))then if i64.wrap ((p:Int)+(n:Int))<=((c.length+1+1:Nat):Int)then
              some ((((a.toNat:Nat):Int),Ar (a::b::c) (p:Int).toNat (i64.wrap ((p:Int)+(n:Int))).toNat,Ar (a::b::c) 0 (i64.wrap ((p:Int)+(n:Int))).toNat),Ar (a::b::c) (i64.wrap ((p:Int)+(n:Int))).toNat (c.length+1+1),0)
              else none else none else none else none else none else none else none:Option ((Int×Bs×Bs)×Bs×Int))=some (D9 (a::b::c)):=by
          intro p n hh hp hn
          have:=AeQ (s:=a::b::c) hh (by simp;omega)
          rw[w64 (x:=((c.length+1+1:Nat):Int) - (p:Int)) (by omega) (by omega),w64 (x:=(p:Int)+(n:Int)) (by omega) (by omega)]
          rw[<- this]
          show(if((c.length+1+1:Nat):Int) - (p:Int)<(n:Int)then _ else _)=(if((c.length+1+1:Nat):Int) - (p:Int)<(n:Int)then _ else _)
          by_cases hlt:((c.length+1+1:Nat):Int) - (p:Int)<(n:Int)
          ·rw[if_pos hlt,if_pos hlt]
          ·rw[if_neg hlt,if_neg hlt,if_pos (by omega),if_pos (by omega),if_pos (by omega),if_pos (by omega),if_pos (by omega),if_pos (by omega),if_pos (by omega)]
           rw[show((p:Int)+(n:Int)).toNat=p+n by omega,Int.toNat_natCast]
           rfl
        by_cases h128:b.toNat<128
        ·rw[if_neg (by omega)]
         exact hend 2 b.toNat (by simp [Sp.head,h31,h128]) (by omega) (by omega)
        ·rw[if_pos (by omega)]
         obtain⟨k,hk⟩: ∃ k:Nat,b.toNat=128+k:=⟨b.toNat - 128,by omega⟩
         rw[w64 (x:=((b.toNat:Nat):Int) - 128) (by omega) (by omega),show((b.toNat:Nat):Int) - 128=(k:Int) by omega,w64 (x:=2+(k:Int)) (by omega) (by omega)]
         by_cases hlen:c.length<k
         ·rw[if_pos (by omega)]
          have:Sp.err (a::b::c)=3:=by simp [Sp.err,Sp.rd,Sp.head,h31,h128,h6,show b.toNat - 128=k by omega,hlen]
          unfold D9
          rw[this]
          rfl
         ·have hcut:Ar (a::b::c) 2 ((2+(k:Int)).toNat)=c.take k:=by
            rw[show(2+(k:Int)).toNat=k+2 by omega];rfl
          have hlk:(c.take k).length=k:=by rw[List.length_take];omega
          rw[if_neg (by omega),if_pos (by omega),if_pos (by omega),hcut,if_pos (by omega)]
          rw[Ai5 N (c.take k) (by omega) hN,Ak2 N k (by omega) (by omega),Ae]
          by_cases hbad:Sp.beNat (c.take k)<Sp.leastOf k\/131072<Sp.beNat (c.take k)
          ·have:Sp.err (a::b::c)=6:=by simp [Sp.err,Sp.rd,Sp.head,h31,h128,h6,show b.toNat - 128=k by omega,hlen,hbad]
           unfold D9
           rw[if_pos (by omega),this]
           rfl
          ·rw[if_neg (by omega)]
           have:=hend (2+k) (Sp.beNat (c.take k)) (by simp [Sp.head,h31,h128,h6,show b.toNat - 128=k by omega,hlen,hbad]) (by omega) (by omega)
           rw[show(((2+k:Nat)):Int)=2+(k:Int) by omega]at this
           exact this
theorem AdP {ρ :Type} (N:Nat) (s:Bs) (k:Nat) (hk:k<=3) (hl:k+2<=s.length) (hs:s.length<=1099511627776) (hN:4<N) (kx:Int->Option ρ) :
    Ap (X:=Int×Int) (Y:=Int) (U2 fun t6b t9b k2 x3 =>
     if t9b<(k:Int)then if(0:Int)<=i64.wrap ((2:Int)+t9b)then if i64.wrap ((2:Int)+t9b)<(s.length:Int)then
       k2 (i64.wrap ((i64.wrap ((256:Int)*t6b))+i64.wrap ((s.getD ((i64.wrap ((2:Int)+t9b)).toNat) 0).toNat:Int)),i64.wrap (t9b+(1:Int)))else none else none
     else x3 t6b) N (0,0) kx=kx (Sp.beNat ((s.drop 2).take k)):=by
  have hlen:((s.drop 2).take k).length=k:=by rw[List.length_take,List.length_drop];omega
  generalize hL:(s.drop 2).take k=l at hlen
  refine DI (fun x=> ∃ i,i<=k/\x=((Sp.beNat (l.take i):Int),(i:Int))) (fun x=>k - x.2.toNat) (fun _=>kx (Sp.beNat l)) ?_ N _ ⟨0,by omega,rfl⟩ (by show k - 0<N;omega)
  rintro x ⟨i,hi,rfl⟩ kk hkk
  show(if(i:Int)<_ then _ else _)=_
  by_cases h:i<k
  ·have hb:=(l[i]'(by omega)).toNat_lt
   have hs':=pR (l:=l) i (by omega)
   dsimp only
   rw[if_pos (by omega),w64 (x:=2+(i:Int)) (by omega) (by omega),if_pos (by omega),if_pos (by omega),show(2+(i:Int)).toNat=i+2 by omega]
   have e:s.getD (i+2) 0=l[i]'(by omega):=by
     have:l[i]? =s[i+2]? :=by rw[<- hL,List.getElem?_take,if_pos h,List.getElem?_drop,Nat.add_comm]
     rw[List.getD_eq_getElem?_getD,<- this,List.getElem?_eq_getElem (by omega)];rfl
   rw[e,w64 (x:=256*((Sp.beNat (l.take i):Nat):Int)) (by omega) (by omega),w64 (x:=(((l[i]'(by omega)).toNat:Nat):Int)) (by omega) (by omega),w64 (x:=(i:Int)+1) (by omega) (by omega),w64 (by omega) (by omega)]
   have:=vS (l:=l) (i:=i) (by omega)
   rw[show 256*((Sp.beNat (l.take i):Nat):Int)+(((l[i]'(by omega)).toNat:Nat):Int)=((Sp.beNat (l.take (i+1)):Nat):Int) by omega]
   exact hkk _ ⟨i+1,h,rfl⟩ (by show k - ((i:Int)+1).toNat<k - (i:Int).toNat;omega)
  ·rw[if_neg (by omega),List.take_of_length_le (by omega)]
theorem Aji (k:Nat) (h1:1<=k) (h3:k<=3):(([0,128,256,65536]:List Int).getD k 0)=(Sp.leastOf k:Int):=by
  have:k=1\/k=2\/k=3:=by omega
  rcases this with rfl | rfl | rfl<;>rfl
theorem bQ (N:Nat) (s:Bs) (hN:4<N) (hs:s.length<=1099511627776):L8 N s=some (D9 s):=by
  unfold L8
  cases s with
  | nil=>rfl
  | cons a r =>
    have ha:=a.toNat_lt
    simp only[List.getD_cons_zero,List.length_cons,gX,mM,mO,vT]
    simp only[AfY,Oe,beq_iff_eq,decide_eq_true_eq,Bool.or_eq_true,Bool.and_eq_true]
    rw[if_neg (by omega),if_pos (by omega)]
    have ht:((a.toNat:Nat):Int).tmod 32=((a.toNat % 32:Nat):Int):=by rw[Int.tmod_eq_emod_of_nonneg (by omega)];omega
    rw[ht]
    by_cases h31:a.toNat % 32=31
    ·have:Sp.err (a::r)=5:=by simp [Sp.err,Sp.rd,Sp.head,h31]
     unfold D9
     rw[this,if_pos (by omega)]
     rfl
    ·rw[if_neg (by omega)]
     cases r with
     | nil =>
       have:Sp.err [a]=3:=by simp [Sp.err,Sp.rd,Sp.head,h31]
       unfold D9
       rw[this]
       rfl
     | cons b c =>
       have hb:=b.toNat_lt
       simp only[List.length_cons]at hs
       simp only[List.getD_cons_succ,List.getD_cons_zero,List.length_cons]
       rw[w64 (x:=((b.toNat:Nat):Int)) (by omega) (by omega),if_neg (by omega),if_pos (by omega)]
       by_cases h6:b.toNat=128\/131<b.toNat
       ·have:Sp.err (a::b::c)=6:=by simp [Sp.err,Sp.rd,Sp.head,h31,h6,show ¬ b.toNat<128 by omega]
        unfold D9
        rw[this,if_pos (by omega)]
        rfl
       ·rw[if_neg (by omega),FW]
        have hend: ∀ p n:Nat,Sp.head (a::b::c)=(0,p,n)->p<=c.length+2->n<=131072->(if i64.wrap (((c.length+1+1:Nat):Int) - (p:Int))<(n:Int)then some ((0,([]:Bs),([]:Bs)),([]:Bs),3)
            else if(0:Int)<((c.length+1+1:Nat):Int)then if(0:Int)<=(p:Int)then if(p:Int)<=i64.wrap ((p:Int)+(n:Int))then if i64.wrap ((p:Int)+(n:Int))<=((c.length+1+1:Nat):Int)then if(0:Int)<=i64.wrap ((p:Int)+(n:Int))then
              if i64.wrap ((p:Int)+(n:Int))<=((c.length+1+1:Nat):Int)then if(0:Int)<=i64.wrap ((p:Int)+(n:Int))then if i64.wrap ((p:Int)+(n:Int))<=((c.length+1+1:Nat):Int)then
              some ((i64.wrap ((a.toNat:Nat):Int),Ar (a::b::c) (p:Int).toNat (i64.wrap ((p:Int)+(n:Int))).toNat,Ar (a::b::c) 0 (i64.wrap ((p:Int)+(n:Int))).toNat),Ar (a::b::c) (i64.wrap ((p:Int)+(n:Int))).toNat (c.length+1+1),0)
              else none else none else none else none else none else none else none else none:Option ((Int×Bs×Bs)×Bs×Int))=some (D9 (a::b::c)):=by
          intro p n hh hp hn
          have:=AeQ (s:=a::b::c) hh (by simp;omega)
          rw[w64 (x:=((c.length+1+1:Nat):Int) - (p:Int)) (by omega) (by omega),w64 (x:=(p:Int)+(n:Int)) (by omega) (by omega),w64 (x:=((a.toNat:Nat):Int)) (by omega) (by omega)]
          rw[<- this]
          show(if((c.length+1+1:Nat):Int) - (p:Int)<(n:Int)then _ else _)=(if((c.length+1+1:Nat):Int) - (p:Int)<(n:Int)then _ else _)
          by_cases hlt:((c.length+1+1:Nat):Int) - (p:Int)<(n:Int)
          ·rw[if_pos hlt,if_pos hlt]
          ·rw[if_neg hlt,if_neg hlt,if_pos (by omega),if_pos (by omega),if_pos (by omega),if_pos (by omega),if_pos (by omega),if_pos (by omega),if_pos (by omega),if_pos (by omega)]
           rw[show((p:Int)+(n:Int)).toNat=p+n by omega,Int.toNat_natCast]
           rfl
        by_cases h128:b.toNat<128
        ·rw[if_neg (by omega)]
         exact hend 2 b.toNat (by simp [Sp.head,h31,h128]) (by omega) (by omega)
        ·rw[if_pos (by omega)]
         obtain⟨k,hk⟩: ∃ k:Nat,b.toNat=128+k:=⟨b.toNat - 128,by omega⟩
         rw[w64 (x:=((b.toNat:Nat):Int) - 128) (by omega) (by omega),show((b.toNat:Nat):Int) - 128=(k:Int) by omega,w64 (x:=2+(k:Int)) (by omega) (by omega)]
         by_cases hlen:c.length<k
         ·rw[if_pos (by omega)]
          have:Sp.err (a::b::c)=3:=by simp [Sp.err,Sp.rd,Sp.head,h31,h128,h6,show b.toNat - 128=k by omega,hlen]
          unfold D9
          rw[this]
          rfl
         ·rw[if_neg (by omega)]
          have hd:=fun kx=>AdP (ρ :=(Int×Bs×Bs)×Bs×Int) N (a::b::c) k (by omega) (by simp;omega) (by simp;omega) hN kx
          refine Eq.trans (hd _) ?_
          show(if(0:Int)<=(k:Int)then _ else _)=_
          have hdr:((a::b::c).drop 2).take k=c.take k:=rfl
          rw[hdr,if_pos (by omega),if_pos (by omega),Int.toNat_natCast,if_pos (by omega),Aji k (by omega) (by omega)]
          by_cases hbad:Sp.beNat (c.take k)<Sp.leastOf k\/131072<Sp.beNat (c.take k)
          ·have:Sp.err (a::b::c)=6:=by simp [Sp.err,Sp.rd,Sp.head,h31,h128,h6,show b.toNat - 128=k by omega,hlen,hbad]
           unfold D9
           rw[if_pos (by omega),this]
           rfl
          ·rw[if_neg (by omega)]
           have:=hend (2+k) (Sp.beNat (c.take k)) (by simp [Sp.head,h31,h128,h6,show b.toNat - 128=k by omega,hlen,hbad]) (by omega) (by omega)
           rw[show(((2+k:Nat)):Int)=2+(k:Int) by omega]at this
           exact this
def BI (s:Bs):(Int×Bs×Bs)×Int:=if Sp.MV s=0 then(EO s,0)else((0,[],[]),Sp.MV s)
theorem AbL {s:Bs} (h:Sp.MV s=0):Sp.err s=0/\Sp.rest s=[]:=by
  unfold Sp.MV at h
  by_cases he:Sp.err s=0
  ·rw[if_neg (by simp [he])]at h
   by_cases hr:Sp.rest s=[]
   ·exact⟨he,hr⟩
   ·rw[if_neg hr]at h;cases h
  ·rw[if_pos he]at h;exact absurd h he
theorem aU (N:Nat) (s:Bs) (hN:4<N) (hs:s.length<=1099511627776):Ut N s=some (BI s):=by
  unfold Ut
  rw[qU N s hN hs,Ae]
  unfold D9 BI Sp.MV
  by_cases he:Sp.err s=0
  ·rw[if_pos he]
   by_cases hr:Sp.rest s=[]
   ·simp [he,hr,Oe]
   ·simp [he,hr,Oe]
  ·rw[if_neg he]
   simp [he,Oe]
theorem Vl (N:Nat) (s:Bs) (hN:4<N) (hs:s.length<=1099511627776):Ou N s=some (BI s):=by
  unfold Ou
  rw[bQ N s hN hs,Ae]
  unfold D9 BI Sp.MV
  by_cases he:Sp.err s=0
  ·rw[if_pos he]
   by_cases hr:Sp.rest s=[]
   ·simp [he,hr]
   ·have:0<(Sp.rest s).length:=by cases h:Sp.rest s with | nil=>exact absurd h hr | cons _ _=>simp
    simp [he,hr,this,Oe]
  ·rw[if_neg he]
   simp [he,Oe]
theorem AjG (s:Bs):Sp.tag s<256:=UInt8.toNat_lt _
end Go.Proofs.YtadefjgbcapakaaGreatDoor.Pl
namespace Go.Proofs.YtadefjgbcapakaaGreatDoor.Vm
open IntKind (i64)
open Go
theorem QS {a b:Int} {q:Decidable (a<b)} (h:a<b): @decide (a<b) q=true:= @decide_eq_true _ q h
theorem mY {a b:Int} {q:Decidable (a<b)} (h:b<=a): @decide (a<b) q=false:= @decide_eq_false _ q (by omega)
theorem Ld {a b:Int} {q:Decidable (a<=b)} (h:a<=b): @decide (a<=b) q=true:= @decide_eq_true _ q h
theorem Alz {a b:Int} {q:Decidable (a<=b)} (h:b<a): @decide (a<=b) q=false:= @decide_eq_false _ q (by omega)
theorem mW {a b:Int} {q:Decidable (a>b)} (h:b<a): @decide (a>b) q=true:= @decide_eq_true _ q h
theorem wE {a b:Int} {q:Decidable (a>b)} (h:a<=b): @decide (a>b) q=false:= @decide_eq_false _ q (by omega)
theorem AnE {a b:Int} {q:Decidable (a>=b)} (h:b<=a): @decide (a>=b) q=true:= @decide_eq_true _ q h
theorem AnD {a b:Int} {q:Decidable (a>=b)} (h:a<b): @decide (a>=b) q=false:= @decide_eq_false _ q (by omega)
theorem Adp {a b:Nat} {q:Decidable (a<b)} (h:a<b): @decide (a<b) q=true:= @decide_eq_true _ q h
theorem Ado {a b:Nat} {q:Decidable (a<b)} (h:b<=a): @decide (a<b) q=false:= @decide_eq_false _ q (by omega)
theorem nO {a b:Nat} {q:Decidable (a<=b)} (h:a<=b): @decide (a<=b) q=true:= @decide_eq_true _ q h
theorem yF {a b:Nat} {q:Decidable (a<=b)} (h:b<a): @decide (a<=b) q=false:= @decide_eq_false _ q (by omega)
theorem Jb {a b:Int} (h:a=b):(a==b)=true:=by subst h;exact beq_self_eq_true _
theorem Ja {a b:Int} (h:a≠b):(a==b)=false:=beq_false_of_ne h
theorem AdG {a b:Int} (h:a≠b):(a != b)=true:=by unfold bne;rw[Ja h];rfl
theorem AdF {a b:Int} (h:a=b):(a != b)=false:=by unfold bne;rw[Jb h];rfl
theorem toNat_add (a b:Nat):((a:Int)+(b:Int)).toNat=a+b:=by omega
theorem toNat_sub (a b:Nat):((a:Int) - (b:Int)).toNat=a - b:=by omega
theorem Aig (a:Nat):((a:Int)+1).toNat=a+1:=by omega
theorem zX (a:Nat):((a:Int) - 1).toNat=a - 1:=by omega
theorem BZ (a:Nat):((a:Int)+1)=((a+1:Nat):Int):=rfl
theorem Ak0 {α :Type} (a: α):(some a).isSome=true:=rfl
theorem getD_mem {α :Type} {l:List α} {i:Nat} (d: α) (h:i<l.length):l.getD i d∈l:=by rw[getD_lt l i d h];exact List.getElem_mem h
def HY {R S ρ :Type} (x:R ⊕ S) (ret:R->Option ρ) (k:S->Option ρ):Option ρ :=match x with
  | .inl r=>ret r
  | .inr s=>k s
theorem AlH {R S ρ :Type} (r:R) (ret:R->Option ρ) (k:S->Option ρ):HY (.inl r) ret k=ret r:=rfl
theorem Aao {R S ρ :Type} (s:S) (ret:R->Option ρ) (k:S->Option ρ):HY (.inr s) ret k=k s:=rfl
theorem FO {R S ρ :Type} (b:Bool) (x y:R ⊕ S) (ret:R->Option ρ) (k:S->Option ρ):HY (bif b then x else y) ret k=bif b then HY x ret k else HY y ret k:=by cases b<;>rfl
theorem Ai2 {R S ρ :Type} (b:Prop) [Decidable b] (x y:R ⊕ S) (ret:R->Option ρ) (k:S->Option ρ):HY (if b then x else y) ret k=if b then HY x ret k else HY y ret k:=by split<;>rfl
theorem wC {R S ρ :Type} (x:R ⊕ S) (f:R-> ρ) (g:S-> ρ):HY x (fun r=>some (f r)) (fun s=>some (g s))=some (x.elim f g):=by cases x<;>rfl
def Gt {E R S:Type} (step:E->S->R ⊕ S):List E->S->R ⊕ S
  | [],s=>.inr s
  | e::r,s=>match step e s with
    | .inl x=>.inl x
    | .inr s'=>Gt step r s'
theorem Ajk {E R S:Type} (step:E->S->R ⊕ S) (s:S):Gt step [] s= .inr s:=rfl
theorem FB {E R S:Type} (step:E->S->R ⊕ S) (e:E) (l:List E) (s:S):Gt step (e::l) s=(step e s).elim Sum.inl (fun s'=>Gt step l s'):=by
  simp only[Gt]
  cases step e s<;>rfl
theorem WI {X Y S E R ρ :Type} {B:X->(X->Option ρ)->(Y->Option ρ)->Option ρ} {kx:Y->Option ρ} (mk:Nat->S->X) (l:List E) (d:E) (I:Nat->S->Prop) (step:E->S->R ⊕ S) (ret:R->Option ρ) (fin:S->Option ρ)
    (h: ∀(i:Nat) (s:S),i<l.length->I i s-> ∀ k,B (mk i s) k kx=HY (step (l.getD i d) s) ret fun s'=>k (mk (i+1) s'))
    (hI: ∀(i:Nat) (s s':S),i<l.length->I i s->step (l.getD i d) s= .inr s'->I (i+1) s')
    (hend: ∀(s:S) (k:X->Option ρ),I l.length s->B (mk l.length s) k kx=fin s) (N:Nat) (s:S) (h0:I 0 s) (hN:l.length<N):Ap B N (mk 0 s) kx=HY (Gt step l s) ret fin:=by
  have key: ∀(n i:Nat) (s:S),I i s->i<=l.length->l.length - i<n->Ap B n (mk i s) kx=HY (Gt step (l.drop i) s) ret fin:=by
    intro n
    induction n with
    | zero=>intro i s _ _ h;omega
    | succ n ih =>
      intro i s hi hil hn
      rw[Yl]
      by_cases hl:i<l.length
      ·rw[h i s hl hi,List.drop_eq_getElem_cons hl]
       have hs:=hI i s
       rw[show l.getD i d=l[i]from getD_lt l i d hl]at *
       rw[FB]
       cases hst:step l[i] s with
       | inl x=>rfl
       | inr s'=>exact ih (i+1) _ (hs _ hl hi hst) (by omega) (by omega)
      ·have:i=l.length:=by omega
       subst this
       rw[hend s _ hi,List.drop_length];rfl
  exact key N 0 s h0 (by omega) (by omega)
theorem GV {X Y S E R ρ :Type} {B:X->(X->Option ρ)->(Y->Option ρ)->Option ρ} {kx:Y->Option ρ} (mk:Nat->S->X) (l:List E) (d:E) (step:E->S->R ⊕ S) (ret:R->Option ρ) (fin:S->Option ρ)
    (h: ∀(i:Nat) (s:S),i<l.length-> ∀ k,B (mk i s) k kx=HY (step (l.getD i d) s) ret fun s'=>k (mk (i+1) s'))
    (hend: ∀(s:S) (k:X->Option ρ),B (mk l.length s) k kx=fin s) (N:Nat) (s:S) (hN:l.length<N):Ap B N (mk 0 s) kx=HY (Gt step l s) ret fin :=
  WI mk l d (fun _ _=>True) step ret fin (fun i s hi _=>h i s hi) (fun _ _ _ _ _ _=>trivial) (fun s k _=>hend s k) N s trivial hN
theorem Alf {X Y S E R ρ :Type} {B:X->(X->Option ρ)->(Y->Option ρ)->Option ρ} {kx:Y->Option ρ} (mk:List E->S->X) (I:List E->S->Prop) (step:E->S->R ⊕ S) (ret:R->Option ρ) (fin:S->Option ρ)
    (h: ∀(e:E) (r:List E) (s:S),I (e::r) s-> ∀ k,B (mk (e::r) s) k kx=HY (step e s) ret fun s'=>k (mk r s'))
    (hI: ∀(e:E) (r:List E) (s s':S),I (e::r) s->step e s= .inr s'->I r s')
    (hend: ∀(s:S) (k:X->Option ρ),I [] s->B (mk [] s) k kx=fin s): ∀(N:Nat) (l:List E) (s:S),I l s->l.length<N->Ap B N (mk l s) kx=HY (Gt step l s) ret fin:=by
  intro N
  induction N with
  | zero=>intro l s _ h;omega
  | succ N ih =>
    intro l s hi hn
    rw[Yl]
    cases l with
    | nil=>rw[hend s _ hi];rfl
    | cons e r =>
      rw[h e r s hi,FB]
      cases hst:step e s with
      | inl x=>rfl
      | inr s'=>exact ih r s' (hI e r s s' hi hst) (by simp at hn;omega)
theorem Afa {X Y E ρ :Type} {B:X->(X->Option ρ)->(Y->Option ρ)->Option ρ} {kx:Y->Option ρ} (mk:Nat->X) (out:Nat->Y) (l:List E) (d:E) (p:E->Bool)
    (h: ∀(i:Nat) (k:X->Option ρ),i<l.length->B (mk i) k kx=bif p (l.getD i d)then kx (out i)else k (mk (i+1)))
    (hend: ∀ k:X->Option ρ,B (mk l.length) k kx=kx (out l.length)) (N:Nat) (hN:l.length<N):Ap B N (mk 0) kx=kx (out (l.findIdx p)):=by
  have key: ∀(n i:Nat),i<=l.length->l.length - i<n->Ap B n (mk i) kx=kx (out (i+(l.drop i).findIdx p)):=by
    intro n
    induction n with
    | zero=>intro i _ h;omega
    | succ n ih =>
      intro i hi hn
      rw[Yl]
      by_cases hl:i<l.length
      ·rw[h i _ hl,List.drop_eq_getElem_cons hl,List.findIdx_cons,show l.getD i d=l[i]from getD_lt l i d hl]
       cases p l[i]with
       | true=>rfl
       | false =>
         rw[cond_false,cond_false,ih (i+1) (by omega) (by omega)]
         congr 2;omega
      ·have:i=l.length:=by omega
       subst this
       rw[hend,List.drop_length];rfl
  have:=key N 0 (Nat.zero_le _) (by omega)
  rwa [Nat.zero_add,List.drop_zero]at this
theorem Aea {E:Type} (p:E->Bool): ∀ l:List E,(∀ x∈l,p x=false)->l.findIdx p=l.length:=by
  intro l
  induction l with
  | nil=>intro _;rfl
  | cons x r ih =>
    intro h
    rw[List.findIdx_cons,h x List.mem_cons_self,ih (fun y hy=>h y (List.mem_cons_of_mem _ hy))];rfl
theorem Ahh {E:Type} (p:E->Bool): ∀(a:List E) (x:E) (r:List E),(∀ x∈a,p x=false)->p x=true->(a++x::r).findIdx p=a.length:=by
  intro a
  induction a with
  | nil=>intro x r _ h;rw[List.nil_append,List.findIdx_cons,h];rfl
  | cons y a ih =>
    intro x r h hx
    rw[List.cons_append,List.findIdx_cons,h y List.mem_cons_self,ih x r (fun y hy=>h y (List.mem_cons_of_mem _ hy)) hx];rfl
theorem jO {E R:Type} (p:E->Bool) (r:R): ∀ l:List E,Gt (fun e (_:Unit)=>bif p e then .inr ()else .inl r) l ()=bif l.all p then .inr ()else .inl r:=by
  intro l
  induction l with
  | nil=>rfl
  | cons e t ih =>
    rw[FB,List.all_cons]
    cases p e with
    | true=>exact ih
    | false=>rfl
theorem AbA {E R:Type} (p:E->Bool) (r:R): ∀ l:List E,Gt (fun e (_:Unit)=>bif p e then .inl r else .inr ()) l ()=bif l.any p then .inl r else .inr ():=by
  intro l
  induction l with
  | nil=>rfl
  | cons e t ih =>
    rw[FB,List.any_cons]
    cases p e with
    | true=>rfl
    | false=>exact ih
theorem Af7 {E:Type} (f:E->Int): ∀ l:List E,Gt (fun e (_:Unit)=>bif f e != 0 then .inl (f e)else .inr ()) l ()=bif Bq f l != 0 then .inl (Bq f l)else .inr ():=by
  intro l
  induction l with
  | nil=>rfl
  | cons e t ih =>
    rw[FB]
    unfold Bq
    by_cases h:f e=0
    ·rw[h,show((0:Int) != 0)=false from rfl]
     exact ih
    ·rw[if_pos h,show(f e != 0)=true from bne_iff_ne.2 h];rfl
theorem AeM {n i:Nat} (h:i<n):(List.range n).getD i 0=i:=by
  rw[getD_lt _ _ _ (by rw[List.length_range];exact h),List.getElem_range]
section
variable {X Y E ρ :Type} {B:X->(X->Option ρ)->(Y->Option ρ)->Option ρ} {kx:Y->Option ρ}
theorem Wj (mk:Nat->X) (l:List E) (d:E) (f:E->Int) (ret:Int->Option ρ) (fin:Option ρ)
    (h: ∀ i,i<l.length-> ∀ k,B (mk i) k kx=bif f (l.getD i d) != 0 then ret (f (l.getD i d))else k (mk (i+1)))
    (hend: ∀ k,B (mk l.length) k kx=fin) (N:Nat) (hN:l.length<N):Ap B N (mk 0) kx=bif Bq f l != 0 then ret (Bq f l)else fin:=by
  refine Eq.trans (GV (S:=Unit) (R:=Int) (mk:=fun i _=>mk i) l d (fun e _=>bif f e != 0 then .inl (f e)else .inr ()) ret (fun _=>fin) ?_ (fun _ k=>hend k) N () hN) ?_
  ·intro i _ hi k
   rw[h i hi,FO];rfl
  ·rw[Af7,FO];rfl
theorem X7 (mk:Nat->X) (l:List E) (d:E) (p:E->Bool) (x fin:Option ρ)
    (h: ∀ i,i<l.length-> ∀ k,B (mk i) k kx=bif p (l.getD i d)then x else k (mk (i+1)))
    (hend: ∀ k,B (mk l.length) k kx=fin) (N:Nat) (hN:l.length<N):Ap B N (mk 0) kx=bif l.any p then x else fin:=by
  refine Eq.trans (GV (S:=Unit) (R:=Unit) (mk:=fun i _=>mk i) l d (fun e _=>bif p e then .inl ()else .inr ()) (fun _=>x) (fun _=>fin) ?_ (fun _ k=>hend k) N () hN) ?_
  ·intro i _ hi k
   rw[h i hi,FO];rfl
  ·rw[AbA,FO];rfl
end
theorem first_some (e:Int):(bif e != 0 then some e else some 0)=some e:=by
  by_cases h:e=0
  ·subst h;rfl
  ·rw[show(e != 0)=true from bne_iff_ne.2 h];rfl
theorem Bc {α :Type} (b:Bool) (x y: α):(bif b then some x else some y)=some (bif b then x else y):=by cases b<;>rfl
theorem MM {E:Type} (f:E->Int) (x:E) (r:List E):Bq f (x::r)=bif f x != 0 then f x else Bq f r:=by
  show(if f x≠0 then f x else Bq f r)=_
  by_cases h:f x=0
  ·rw[if_neg (fun hn=>hn h),h];rfl
  ·rw[if_pos h,show(f x != 0)=true from bne_iff_ne.2 h];rfl
section
variable {X Y E A ρ :Type} {B:X->(X->Option ρ)->(Y->Option ρ)->Option ρ} {kx:Y->Option ρ}
theorem y7 (er:E->Int) (g:E->A): ∀(l:List E) (acc:List A),Gt (fun e (acc:List A)=>bif er e != 0 then Sum.inl (er e)else Sum.inr (acc++[g e])) l acc=bif Bq er l != 0 then .inl (Bq er l)else .inr (acc++l.map g):=by
  intro l
  induction l with
  | nil=>intro acc;rw[List.map_nil,List.append_nil];rfl
  | cons e r ih =>
    intro acc
    rw[FB,MM]
    cases h:er e != 0 with
    | true=>rw[cond_true,cond_true,h];rfl
    | false =>
      rw[cond_false,cond_false]
      show Gt _ r (acc++[g e])=_
      rw[ih,List.append_assoc];rfl
theorem Kt (mk:Nat->List A->X) (l:List E) (d:E) (er:E->Int) (g:E->A) (ret:Int->Option ρ) (fin:List A->Option ρ)
    (h: ∀(i:Nat) (acc:List A),i<l.length->acc.length=i-> ∀ k,B (mk i acc) k kx=bif er (l.getD i d) != 0 then ret (er (l.getD i d))else k (mk (i+1) (acc++[g (l.getD i d)])))
    (hend: ∀(acc:List A) (k:X->Option ρ),acc.length=l.length->B (mk l.length acc) k kx=fin acc) (N:Nat) (hN:l.length<N):Ap B N (mk 0 []) kx=bif Bq er l != 0 then ret (Bq er l)else fin (l.map g):=by
  refine(WI (S:=List A) (R:=Int) mk l d (fun i acc=>acc.length=i) (fun e acc=>bif er e != 0 then .inl (er e)else .inr (acc++[g e])) ret fin ?_ ?_ (fun acc k ha=>hend acc k ha) N [] rfl hN).trans ?_
  ·intro i acc hi ha k
   rw[h i acc hi ha,FO];rfl
  ·intro i acc acc' hi ha he
   cases hb:er (l.getD i d) != 0 with
   | true=>rw[hb]at he;cases he
   | false =>
     rw[hb]at he;injection he with he;subst he
     rw[List.length_append,ha];rfl
  ·rw[y7,FO,List.nil_append];rfl
theorem Aeb: ∀ l:List E,Bq (fun _=>(0:Int)) l=0:=by
  intro l
  induction l with
  | nil=>rfl
  | cons e r ih=>rw[MM];exact ih
theorem Z5 (mk:Nat->List A->X) (l:List E) (d:E) (g:E->A) (fin:List A->Option ρ)
    (h: ∀(i:Nat) (acc:List A),i<l.length->acc.length=i-> ∀ k,B (mk i acc) k kx=k (mk (i+1) (acc++[g (l.getD i d)])))
    (hend: ∀(acc:List A) (k:X->Option ρ),acc.length=l.length->B (mk l.length acc) k kx=fin acc) (N:Nat) (hN:l.length<N):Ap B N (mk 0 []) kx=fin (l.map g):=by
  refine(Kt mk l d (fun _=>0) g (fun _=>none) fin (fun i acc hi ha k=>h i acc hi ha k) hend N hN).trans ?_
  rw[Aeb];rfl
theorem Abx (g:E->Bs) (l:List E) (d:E) {i:Nat} (h:i<l.length):((l.take i).map g).flatten++g (l.getD i d)=((l.take (i+1)).map g).flatten:=by
  rw[getD_lt l i d h,List.take_add_one,List.getElem?_eq_getElem h,List.map_append,List.flatten_append]
  simp
theorem AlS (g:E->Bs) (l:List E) (i:Nat):((l.take i).map g).flatten.length<=(l.map g).flatten.length:=by
  conv=>rhs;rw[<- List.take_append_drop i l,List.map_append,List.flatten_append,List.length_append]
  omega
theorem rE (mk:Nat->Bs->X) (l:List E) (d:E) (er:E->Int) (g:E->Bs) (ret:Int->Option ρ) (fin:Bs->Option ρ)
    (h: ∀(i:Nat) (t:Bs),i<l.length->t.length+(g (l.getD i d)).length<=(l.map g).flatten.length-> ∀ k,B (mk i t) k kx=bif er (l.getD i d) != 0 then ret (er (l.getD i d))else k (mk (i+1) (t++g (l.getD i d))))
    (hend: ∀(t:Bs) (k:X->Option ρ),B (mk l.length t) k kx=fin t) (N:Nat) (hN:l.length<N):Ap B N (mk 0 []) kx=bif Bq er l != 0 then ret (Bq er l)else fin (l.map g).flatten:=by
  refine(WI (S:=Bs) (R:=Int) mk l d (fun i t=>t=((l.take i).map g).flatten) (fun e t=>bif er e != 0 then .inl (er e)else .inr (t++g e)) ret fin ?_ ?_ (fun t k _=>hend t k) N [] rfl hN).trans ?_
  ·intro i t hi ht k
   rw[h i t hi ?_,FO]
   ·rfl
   ·rw[ht,<- List.length_append,Abx g l d hi]
    exact AlS g l (i+1)
  ·intro i t t' hi ht he
   cases hb:er (l.getD i d) != 0 with
   | true=>rw[hb]at he;cases he
   | false =>
     rw[hb]at he;injection he with he
     rw[<- he,ht,Abx g l d hi]
  ·have: ∀(l:List E) (t:Bs),Gt (fun e (t:Bs)=>bif er e != 0 then Sum.inl (er e)else Sum.inr (t++g e)) l t=bif Bq er l != 0 then .inl (Bq er l)else .inr (t++(l.map g).flatten):=by
     intro l
     induction l with
     | nil=>intro t;simp [Ajk,Bq]
     | cons e r ih =>
       intro t
       rw[FB,MM]
       cases h:er e != 0 with
       | true=>rw[cond_true,cond_true,h];rfl
       | false=>rw[cond_false,cond_false,List.map_cons,List.flatten_cons,<- List.append_assoc,<- ih];rfl
   rw[this,FO,List.nil_append];rfl
theorem Aaj (mk:Nat->Bs->X) (l:List E) (d:E) (g:E->Bs) (fin:Bs->Option ρ)
    (h: ∀(i:Nat) (t:Bs),i<l.length->t.length+(g (l.getD i d)).length<=(l.map g).flatten.length-> ∀ k,B (mk i t) k kx=k (mk (i+1) (t++g (l.getD i d))))
    (hend: ∀(t:Bs) (k:X->Option ρ),B (mk l.length t) k kx=fin t) (N:Nat) (hN:l.length<N):Ap B N (mk 0 []) kx=fin (l.map g).flatten:=by
  refine(rE mk l d (fun _=>0) g (fun _=>none) fin (fun i t hi ht k=>h i t hi ht k) hend N hN).trans ?_
  rw[Aeb];rfl
theorem jX {f:E->Int}: ∀ {l:List E},Bq f l=0-> ∀ e∈l,f e=0:=by
  intro l
  induction l with
  | nil=>intro _ e he;cases he
  | cons x r ih =>
    intro h e he
    rw[MM]at h
    cases hx:f x != 0 with
    | true=>rw[hx]at h;rw[show f x=0 from h]at hx;cases hx
    | false =>
      rw[hx]at h
      rcases List.mem_cons.1 he with rfl | he
      ·simpa using hx
      ·exact ih h e he
theorem Hr {g:E->Bs} {M:Nat}: ∀ {l:List E},(∀ e∈l,(g e).length<=M)->(l.map g).flatten.length<=M*l.length:=by
  intro l
  induction l with
  | nil=>intro _;simp
  | cons e r ih =>
    intro h
    have h1:=h e List.mem_cons_self
    have h2:=ih fun e he=>h e (List.mem_cons_of_mem _ he)
    rw[List.map_cons,List.flatten_cons,List.length_append,List.length_cons,Nat.mul_succ]
    omega
end
theorem Adu (x y:Bool):(x|| !y&& !x||y)=true:=by cases x<;>cases y<;>rfl
theorem CW {α :Type} {c:Bool} {a x y: α} (h:c=false->x=y):(bif c then a else x)=bif c then a else y:=by
  cases c with
  | true=>rfl
  | false=>exact h rfl
set_option linter.defProp false in
def Am:=And.intro @Agm (And.intro @FW (And.intro @Ai (And.intro @Ae (And.intro @cond_true.{1} (And.intro @cond_false.{1} (And.intro @QS (And.intro @mY (And.intro @Ld (And.intro @Alz (And.intro @mW (And.intro @wE (And.intro @AnE (And.intro @AnD (And.intro @Adp (And.intro @Ado (And.intro @nO (And.intro @yF (And.intro @Jb (And.intro @Ja (And.intro @AdG (And.intro @AdF (And.intro @w64 (And.intro @Int.toNat_natCast (And.intro @toNat_add (And.intro @toNat_sub (And.intro @Aig (And.intro @zX (And.intro @Bool.true_or (And.intro @Bool.or_true (And.intro @Bool.false_or (And.intro @Bool.or_false (And.intro @Bool.true_and (And.intro @Bool.and_true (And.intro @Bool.false_and (And.intro @Bool.and_false (And.intro @Bool.not_true (And.intro @Bool.not_false (And.intro @Bool.not_not (And.intro @Bool.or_not_self (And.intro @Bool.not_or_self (And.intro @Bool.cond_self.{1} (And.intro @Bool.cond_true_left (And.intro @Bool.cond_false_left (And.intro @Bool.cond_true_right (And.intro @Bool.cond_false_right (And.intro @Bool.or_self (And.intro @Bool.and_self (And.intro @AlH (And.intro @Aao (And.intro @FO (And.intro @Ai2 (And.intro @U2.eq_1 (And.intro @U3.eq_1 (And.intro @U4.eq_1 (And.intro @U5.eq_1 (And.intro @U6.eq_1 (And.intro @U7.eq_1 (And.intro @U8.eq_1 (And.intro @U9.eq_1 (@U10.eq_1))))))))))))))))))))))))))))))))))))))))))))))))))))))))))))
end Go.Proofs.YtadefjgbcapakaaGreatDoor.Vm
namespace Go.Proofs.YtadefjgbcapakaaGreatDoor.Pl
open IntKind (i64)
open Go Vm
theorem wL (s:Bs):(s==([]:Bs))=decide (s=[]):=by cases s<;>rfl
theorem WC {α :Type} {s:List α} (h:s≠ []):0<s.length:=by cases s with | nil=>exact absurd rfl h | cons _ _=>simp
def DZ (t:Nat) (c:Bs):Option Bs:=if c.length<=131072 then some (Sp.elem t c)else none
theorem AjK {t:Nat} {c:Bs}:((DZ t c).getD []).length<=131077:=by
  unfold DZ
  by_cases h:c.length<=131072
  ·rw[if_pos h]
   have:=Sp.BM t c
   show(Sp.elem t c).length<=_
   omega
  ·rw[if_neg h];simp
theorem Ab4: ∀(l:List Bs),([]:Bs).intercalate l=l.flatten
  | []=>rfl
  | [a]=>by simp [List.intercalate]
  | a::b::r=>by
    have:=Ab4 (b::r)
    simp only[List.intercalate,List.intersperse,List.flatten_cons]at this ⊢
    simp [this]
theorem VX (n:Nat):Vm.byteOf (IntKind.u8.wrap (n:Int))=UInt8.ofNat n:=by
  rw[w8]
  unfold Vm.byteOf
  rw[show((n:Int) % 256).toNat=n % 256 by omega]
  apply UInt8.toNat.inj
  simp
theorem AdY (n k:Nat):(n:Int).fdiv (k:Int)=((n / k:Nat):Int):=by
  rw[Int.fdiv_eq_ediv_of_nonneg _ (by omega)];rfl
theorem head_eq {ρ :Type} (t n:Nat) (ht:t<256) (K:List Int->Option ρ) (K':Bs->Option ρ) (hK: ∀ l,List.all l isByte=true->l.length<=5->K l=K' (List.map Vm.byteOf l)) :
    (bif decide ((n:Int)<(128:Int))then K ([IntKind.u8.wrap (t:Int),IntKind.u8.wrap (n:Int)]:List Int)
      else bif decide ((n:Int)<(256:Int))then K ([IntKind.u8.wrap (t:Int),129,IntKind.u8.wrap (n:Int)]:List Int)
      else bif decide ((n:Int)<(65536:Int))then K ([IntKind.u8.wrap (t:Int),130,IntKind.u8.wrap ((n:Int).fdiv (256)),IntKind.u8.wrap (n:Int)]:List Int)
      else K ([IntKind.u8.wrap (t:Int),131,IntKind.u8.wrap ((n:Int).fdiv (65536)),IntKind.u8.wrap ((n:Int).fdiv (256)),IntKind.u8.wrap (n:Int)]:List Int))=K' (UInt8.ofNat t::Sp.UW n):=by
  have f1:=AdY n 256
  have f2:=AdY n 65536
  have g1: ∀ k:Nat,isByte (k:Int)=decide (k<256):=fun k=>by unfold isByte;simp;omega
  rw[show((256:Nat):Int)=256 from rfl]at f1
  rw[show((65536:Nat):Int)=65536 from rfl]at f2
  rw[f1,f2]
  unfold Sp.UW
  simp only[DU]
  by_cases h1:n<128
  ·rw[if_pos (by omega),if_pos h1,hK _ (by simp [Oq]) (by simp)]
   simp only[List.map_cons,List.map_nil,VX]
  ·rw[if_neg (by omega),if_neg h1]
   by_cases h2:n<256
   ·rw[if_pos (by omega),if_pos h2,hK _ (by simp [Oq];decide) (by simp)]
    simp only[List.map_cons,List.map_nil,VX];rfl
   ·rw[if_neg (by omega),if_neg h2]
    by_cases h3:n<65536
    ·rw[if_pos (by omega),if_pos h3,hK _ (by simp [Oq];decide) (by simp)]
     simp only[List.map_cons,List.map_nil,VX];rfl
    ·rw[if_neg (by omega),if_neg h3,hK _ (by simp [Oq];decide) (by simp)]
     simp only[List.map_cons,List.map_nil,VX];rfl
theorem Alh {ρ :Type} (bad:Option ρ) (fin:Nat->Option ρ): ∀(l:List Bs) (s: {n:Nat // n<=131072}),
    mZ (fun(e:Bs) (s: {n:Nat // n<=131072}) (k: {n:Nat // n<=131072}->Option ρ)=>if h:s.1+e.length<=131072 then k ⟨s.1+e.length,h⟩else bad) (fun s=>fin s.1) l s=if s.1+l.flatten.length<=131072 then fin (s.1+l.flatten.length)else bad:=by
  intro l
  induction l with
  | nil=>intro s;have:=s.2;simp [mZ,this]
  | cons e r ih =>
    intro s
    show(if h:s.1+e.length<=131072 then _ else bad)=_
    rw[List.flatten_cons,List.length_append]
    by_cases h:s.1+e.length<=131072
    ·rw[dif_pos h,ih]
     dsimp only
     rw[Nat.add_assoc]
    ·rw[dif_neg h,if_neg (by omega)]
theorem Ald {ρ :Type} (N:Nat) (l:List Bs) (hN:l.length<N) (hl:l.length<=1099511627776) (bad:Option ρ) (kx:Int->Option ρ) :
    Ap (X:=Int×Int) (Y:=Int) (U2 fun t6a t23a k1 x2 =>
     bif decide (t23a<(l.length:Int))then(Vm.chk (decide ((0:Int)<=t23a)) <|
     Vm.chk (decide (t23a<(l.length:Int))) <|
     let x31:Bool:=decide (((l.getD t23a.toNat ([]:Bs)).length:Int)>(i64.wrap ((131072:Int) - t6a)))
     bif x31 then bad
     else(k1 (i64.wrap (t6a+((l.getD t23a.toNat ([]:Bs)).length:Int)),i64.wrap (t23a+(1:Int)))))
     else(x2 t6a)) N (0,0) kx=if l.flatten.length<=131072 then kx (l.flatten.length:Int)else bad:=by
  refine Eq.trans (Ahv (S:= {n:Nat // n<=131072}) (fun i s=>((s.1:Int),i)) l ([]:Bs) (fun e s k=>if h:s.1+e.length<=131072 then k ⟨s.1+e.length,h⟩else bad) (fun s=>(fun n:Nat=>kx (n:Int)) s.1) ?_ ?_ N ⟨0,by omega⟩ hN) ?_
  ·intro i s k hi
   have hs:=s.2
   show(bif decide ((i:Int)<(l.length:Int))then _ else _)=_
   simp only[DU,Ii,Int.toNat_natCast]
   rw[if_pos (by omega),if_pos (by omega),if_pos (by omega),w64 (x:=131072 - ((s.1:Nat):Int)) (by omega) (by omega)]
   by_cases h:s.1+(l.getD i []).length<=131072
   ·rw[if_neg (by omega),dif_pos h,w64 (by omega) (by omega),w64 (by omega) (by omega)]
    rfl
   ·rw[if_pos (by omega),dif_neg h]
  ·intro s k
   show(bif decide ((l.length:Int)<(l.length:Int))then _ else _)=_
   simp only[DU]
   rw[if_neg (by omega)]
  ·refine(Alh bad (fun n:Nat=>kx (n:Int)) l ⟨0,by omega⟩).trans ?_
   dsimp only
   rw[Nat.zero_add]
theorem qV (N t:Nat) (l:List Bs) (ht:t<256) (h31:t % 32≠31) (hN:l.length<N) (hl:l.length<=1099511627776):Ci N (t:Int) l=some ((DZ t l.flatten).getD [],if(DZ t l.flatten).isNone then 6 else 0):=by
  unfold Ci
  simp only[gX,mM,mO,Aan,rX,vT,Ag8 t ht]
  rw[show(decide ((t:Int)<0)||decide ((t:Int)>255)||((t % 32:Nat):Int)==31)=false by simp;omega,cond_false]
  refine Eq.trans (Ald N l hN hl _ _) ?_
  unfold DZ
  by_cases h:l.flatten.length<=131072
  ·rw[if_pos h,if_pos h,FW]
   refine Eq.trans (head_eq t l.flatten.length ht (fun l1:List Int=>Vm.chk (List.all l1 isByte)<|Ac (strings_Join N l ([]:Bs)) fun r81=>Vm.chk (decide ((List.map Vm.byteOf l1).length+r81.length<=140737488355328))<|some ((List.map Vm.byteOf l1)++r81,(0:Int))) (fun h=>some (h++l.flatten,0)) (fun l' hl' hl5=> ?_)) rfl
   rw[hl',Ai]
   unfold strings_Join
   rw[Ab4,decide_eq_true (show l.length<=140737488355328 by omega),decide_eq_true (show l.flatten.length<=140737488355328 by omega)]
   show Vm.chk (decide ((List.map Vm.byteOf l').length+l.flatten.length<=140737488355328)) _=_
   rw[Ii,if_pos (by rw[List.length_map];omega)]
   rfl
  ·rw[if_neg h,if_neg h];rfl
theorem SN (N t:Nat) (l:List Bs) (ht:t<256) (h31:t % 32≠31) (hN:l.length<N) (hl:l.length<=1099511627776) (hs:l.flatten.length<=140737488355328):PG N (t:Int) l=some ((DZ t l.flatten).getD [],if(DZ t l.flatten).isNone then 6 else 0):=by
  unfold PG
  simp only[gX,mM,mO,Aan,rX,vT]
  rw[show(decide ((t:Int)<0)||decide ((t:Int)>255)||(t:Int).tmod 32==31)=false by rw[Int.tmod_eq_emod_of_nonneg (by omega)];simp;omega,cond_false]
  refine Eq.trans (DI (fun x=> ∃ i,i<=l.length/\x=((l.take i).flatten,(i:Int))) (fun x=>l.length - x.2.toNat) (fun _=>some ((DZ t l.flatten).getD [],if(DZ t l.flatten).isNone then 6 else 0)) ?_ N _ ⟨0,by omega,rfl⟩ (by show l.length - 0<N;omega)) rfl
  rintro x ⟨i,hi,rfl⟩ k hk
  show(bif decide ((i:Int)<(l.length:Int))then _ else _)=_
  by_cases h:i<l.length
  ·simp only[DU,Ii,Int.toNat_natCast]
   have e:(l.take i).flatten++l.getD i []=(l.take (i+1)).flatten:=by
     rw[take_snoc h,List.flatten_append,show l.getD i []=l[i] by simp [List.getD_eq_getElem?_getD,h]]
     simp
   have hle:(l.take (i+1)).flatten.length<=l.flatten.length:=by
     conv=>rhs;rw[<- List.take_append_drop (i+1) l,List.flatten_append,List.length_append]
     omega
   have e2:(l.take i).flatten.length+(l.getD i []).length<=140737488355328:=by rw[<- List.length_append,e];omega
   rw[if_pos (by omega),if_pos (by omega),if_pos (by omega),if_pos e2,e,w64 (by omega) (by omega)]
   exact hk _ ⟨i+1,h,rfl⟩ (by show l.length - ((i:Int)+1).toNat<l.length - (i:Int).toNat;omega)
  ·have hil:i=l.length:=by omega
   subst hil
   rw[DU,if_neg (by omega)]
   dsimp only
   rw[List.take_length]
   unfold DZ
   by_cases h:l.flatten.length<=131072
   ·rw[if_pos h,DU,if_neg (by omega),FW]
    have:=head_eq t l.flatten.length ht (fun l':List Int=>Vm.chk (List.all l' isByte)<|Vm.chk (decide ((List.map Vm.byteOf l').length+l.flatten.length<=140737488355328))<|some ((List.map Vm.byteOf l')++l.flatten,(0:Int))) (fun h=>some (h++l.flatten,0)) (fun l' hl' hl5=>by
      rw[hl',Ai,Ii,if_pos (by rw[List.length_map];omega)])
    refine Eq.trans ?_ this
    simp only[DU]
    by_cases h1:l.flatten.length<128
    ·rw[if_neg (by omega),if_neg (by omega),if_neg (by omega),if_pos (by omega)]
    ·by_cases h2:l.flatten.length<256
     ·rw[if_neg (by omega),if_neg (by omega),if_pos (by omega),if_neg (by omega),if_pos (by omega)]
     ·by_cases h3:l.flatten.length<65536
      ·rw[if_neg (by omega),if_pos (by omega),if_neg (by omega),if_neg (by omega),if_pos (by omega)]
      ·rw[if_pos (by omega),if_neg (by omega),if_neg (by omega),if_neg (by omega)]
   ·rw[if_neg h,DU,if_pos (by omega)];rfl
theorem Am3 (N t:Nat) (l:List Bs) (ht:t<256) (h31:t % 32≠31) (hN:l.length<N) (hl:l.length<=1099511627776) (hs:l.flatten.length<=140737488355328):O7 N (t:Int) l=some ((DZ t l.flatten).getD [],if(DZ t l.flatten).isNone then 2 else 0):=by
  unfold O7
  rw[SN N t l ht h31 hN hl hs,Ae]
  cases DZ t l.flatten<;>rfl
theorem mD (N:Nat) (b:Bool) (s:Bs) (e:Int):BF N b s e=some (s,b||decide (e≠0)):=by
  unfold BF
  cases b<;>simp [Vm.chk,bne,BEq.beq,decide_not]
theorem AfT (N t:Nat) (b:Bool) (l:List Bs) (ht:t<256) (h31:t % 32≠31) (hN:l.length<N) (hl:l.length<=1099511627776):AV N b (t:Int) l=some ((DZ t l.flatten).getD [],b||(DZ t l.flatten).isNone):=by
  unfold AV
  rw[qV N t l ht h31 hN hl,Ae,mD,Ae]
  cases DZ t l.flatten<;>simp
theorem Am5 (N:Nat) (b:Bool) (l:List Bs) (hN:l.length<N) (hl:l.length<=1099511627776):Bo N b l=some ((DZ 48 l.flatten).getD [],b||(DZ 48 l.flatten).isNone):=by
  unfold Bo
  rw[show(48:Int)=((48:Nat):Int)from rfl,AfT N 48 b l (by omega) (by omega) hN hl,Ae]
abbrev El:=Int×Bs×Bs
def Nl:Nat->Bs->List El->List El×Int
  | 0,_,a=>(a,0)
  | f+1,s,a=>if s=[]then(a,0)else if Sp.err s≠0 then([],Sp.err s)else Nl f (Sp.rest s) (a++[EO s])
def AB (s:Bs):List El×Int:=Nl (s.length+1) s []
theorem xY: ∀(f g:Nat) (s:Bs) (a:List El),s.length<f->s.length<g->Nl f s a=Nl g s a:=by
  intro f
  induction f with
  | zero=>intro g s a h;omega
  | succ f ih =>
    intro g s a hf hg
    cases g with
    | zero=>omega
    | succ g =>
      show(if s=[]then(a,(0:Int))else if Sp.err s≠0 then([],Sp.err s)else Nl f (Sp.rest s) (a++[EO s]))=(if s=[]then(a,0)else if Sp.err s≠0 then([],Sp.err s)else Nl g (Sp.rest s) (a++[EO s]))
      by_cases h:s=[]
      ·rw[if_pos h,if_pos h]
      ·rw[if_neg h,if_neg h]
       by_cases he:Sp.err s=0
       ·have:=Sp.nS s he
        rw[if_neg (by simp [he]),if_neg (by simp [he])]
        exact ih g _ _ (by omega) (by omega)
       ·rw[if_pos he,if_pos he]
def Zt (M:Nat) (e:El):Prop:= ∃ t:Bs,Sp.err t=0/\e=EO t/\t.length<=M
structure Good (M:Nat) (l:List El):Prop where
  len:l.length<=M
  all: ∀ e∈l,Zt M e
  AkR:(l.map (·.2.2)).flatten.length<=M
theorem Zt.mono {M K:Nat} {e:El} (h:Zt M e) (hk:M<=K):Zt K e:=by
  obtain⟨t,h1,h2,h3⟩:=h;exact⟨t,h1,h2,by omega⟩
theorem Zt.content {M:Nat} {e:El} (h:Zt M e):e.2.1.length+2<=e.2.2.length/\e.2.2.length<=M/\0<=e.1/\e.1<256:=by
  obtain⟨t,h1,rfl,h3⟩:=h
  have:=Sp.ZP t h1
  have hr:=Sp.yU t h1
  have hc:=Sp.XU t h1
  have ht:=AjG t
  show(Sp.content t).length+2<=(Sp.raw t).length/\(Sp.raw t).length<=M/\0<=((Sp.tag t:Nat):Int)/\((Sp.tag t:Nat):Int)<256
  omega
theorem AkQ {s:Bs}:Sp.raw s++Sp.rest s=s:=List.take_append_drop _ _
theorem Ah0 (M:Nat): ∀(f:Nat) (s:Bs) (a:List El),s.length<=M->Good M a->(a.map (·.2.2)).flatten.length+s.length<=M->a.length+s.length<=M->Good M (Nl f s a).1:=by
  intro f
  induction f with
  | zero=>intro s a _ h _ _;exact h
  | succ f ih =>
    intro s a hs ha hr hl
    show Good M (if s=[]then(a,(0:Int))else if Sp.err s≠0 then([],Sp.err s)else Nl f (Sp.rest s) (a++[EO s])).1
    by_cases h:s=[]
    ·rw[if_pos h];exact ha
    ·rw[if_neg h]
     by_cases he:Sp.err s=0
     ·rw[if_neg (by simp [he])]
      have h1:=Sp.nS s he
      have h2:(Sp.raw s).length+(Sp.rest s).length=s.length:=by rw[<- List.length_append,AkQ]
      have hq:((a++[EO s]).map (·.2.2)).flatten.length=(a.map (·.2.2)).flatten.length+(Sp.raw s).length:=by
        rw[List.map_append,List.flatten_append,List.length_append];congr 1;show(Sp.raw s++[]).length=_;rw[List.append_nil]
      refine ih _ _ (by omega) ⟨by simp;omega,?_,by omega⟩ (by omega) (by simp;omega)
      intro e he'
      rcases List.mem_append.1 he' with h' | h'
      ·exact ha.all e h'
      ·rw[List.mem_singleton.1 h'];exact⟨s,he,rfl,hs⟩
     ·rw[if_pos he];exact⟨by simp,by simp,by simp⟩
theorem BG (s:Bs):Good s.length (AB s).1:=Ah0 _ _ _ _ (Nat.le_refl _) ⟨by simp,by simp,by simp⟩ (by simp) (by simp)
theorem Good.mono {M K:Nat} {l:List El} (h:Good M l) (hk:M<=K):Good K l:=⟨by have:=h.len;omega,fun e he=>(h.all e he).mono hk,by have:=h.AkR;omega⟩
theorem Good.tail {M:Nat} {e:El} {l:List El} (h:Good M (e::l)):Good M l:=⟨by have:=h.len;simp at this;omega,fun e he=>h.all e (List.mem_cons_of_mem _ he),by have:=h.AkR;rw[List.map_cons,List.flatten_cons,List.length_append]at this;omega⟩
theorem H8 (N:Nat) (s:Bs) (hN:4<N) (hs:s.length<=1099511627776) (hl:s.length<N):KT N s=some (AB s):=by
  unfold KT AB
  refine DI (F:=fun x=>some (Nl (x.1.length+1) x.1 x.2)) (fun x=>x.1.length+x.2.length<=s.length) (fun x=>x.1.length) ?_ N (s,[]) (by simp) hl
  rintro ⟨t,a⟩ hI k hk
  dsimp only at hI hk
  dsimp only[U2]
  by_cases h:t=[]
  ·subst h;rfl
  ·have hp:=WC h
   rw[wL,decide_eq_false h,Bool.not_false,cond_true]
   show(Ac (Oa N t) _:Option (List El×Int))=some (if t=[]then(a,0)else if Sp.err t≠0 then([],Sp.err t)else Nl t.length (Sp.rest t) (a++[EO t]))
   rw[if_neg h,qU N t hN (by omega),Ae]
   by_cases he:Sp.err t=0
   ·have hr:D9 t=(EO t,Sp.rest t,0):=by unfold D9;rw[if_pos he]
    have hlt:=Sp.nS t he
    rw[hr,if_neg (by simp [he])]
    show Vm.chk (decide ((a.length+1)*41<=140737488355328)) (k (Sp.rest t,a++[EO t]))=_
    rw[Ii,if_pos (by omega),hk (Sp.rest t,a++[EO t]) (by simp;omega) hlt]
    exact congrArg some (xY _ _ _ _ (by show(Sp.rest t).length<(Sp.rest t).length+1;omega) hlt)
   ·have hr:D9 t=((0,[],[]),[],Sp.err t):=by unfold D9;rw[if_neg he]
    rw[hr,if_pos he]
    show(bif Sp.err t != 0 then some (([]:List El),Sp.err t)else _)=_
    rw[show(Sp.err t != 0)=true by simp [he]];rfl
theorem SL (N:Nat) (s:Bs) (hN:4<N) (hs:s.length<=1099511627776) (hl:s.length<N):Lu N s=some (AB s):=by
  unfold Lu AB
  refine DI (F:=fun x=>some (Nl (x.1.length+1) x.1 x.2)) (fun x=>x.1.length+x.2.length<=s.length) (fun x=>x.1.length) ?_ N (s,[]) (by simp) hl
  rintro ⟨t,a⟩ hI k hk
  dsimp only at hI hk
  dsimp only[U2]
  by_cases h:t=[]
  ·subst h;rfl
  ·have hp:=WC h
   rw[DU,if_pos (show(t.length:Int)>0 by omega)]
   show(Ac (L8 N t) _:Option (List El×Int))=some (if t=[]then(a,0)else if Sp.err t≠0 then([],Sp.err t)else Nl t.length (Sp.rest t) (a++[EO t]))
   rw[if_neg h,bQ N t hN (by omega),Ae]
   by_cases he:Sp.err t=0
   ·have hr:D9 t=(EO t,Sp.rest t,0):=by unfold D9;rw[if_pos he]
    have hlt:=Sp.nS t he
    rw[hr,if_neg (by simp [he])]
    show Vm.chk (decide ((a.length+1)*41<=140737488355328)) (k (Sp.rest t,a++[EO t]))=_
    rw[Ii,if_pos (by omega),hk (Sp.rest t,a++[EO t]) (by simp;omega) hlt]
    exact congrArg some (xY _ _ _ _ (by show(Sp.rest t).length<(Sp.rest t).length+1;omega) hlt)
   ·have hr:D9 t=((0,[],[]),[],Sp.err t):=by unfold D9;rw[if_neg he]
    rw[hr,if_pos he]
    show(bif Sp.err t != 0 then some (([]:List El),Sp.err t)else _)=_
    rw[show(Sp.err t != 0)=true by simp [he]];rfl
def BC (l:List El) (t:Int):El×Bool×List El:=match l with
  | []=>((0,[],[]),false,[])
  | e::r=>if e.1=t then(e,true,r)else((0,[],[]),false,e::r)
theorem Agj {e:El} {r:List El} {t:Int} (h:e.1=t):BC (e::r) t=(e,true,r):=by
  show(if e.1=t then(e,true,r)else((0,[],[]),false,e::r))=_
  rw[if_pos h]
theorem Agi {e:El} {r:List El} {t:Int} (h: ¬ e.1=t):BC (e::r) t=((0,[],[]),false,e::r):=by
  show(if e.1=t then(e,true,r)else((0,[],[]),false,e::r))=_
  rw[if_neg h]
theorem Ad0 (N:Nat) (l:List El) (t:Int):D8 N l t=some (BC l t):=by
  cases l with
  | nil=>rfl
  | cons e r =>
    have h0:(((e::r).length:Int)==(0:Int))=false:=by simp;omega
    have h1:decide ((0:Int)<((e::r).length:Int))=true:=decide_eq_true (by simp only[List.length_cons];omega)
    have h2:decide ((1:Int)<=((e::r).length:Int))=true:=decide_eq_true (by simp only[List.length_cons];omega)
    unfold D8
    rw[h0,h1,h2]
    show(bif (e.1 != t)then some (((0,[],[]):El),false,e::r)else some (e,true,Ar (e::r) 1 (e::r).length))=some (if e.1=t then(e,true,r)else((0,[],[]),false,e::r))
    have hc:Ar (e::r) 1 (e::r).length=r:=by
      show((e::r).take (e::r).length).drop 1=r
      rw[List.take_length];rfl
    rw[hc]
    by_cases h:e.1=t
    ·rw[if_pos h,show(e.1 != t)=false by simp [h]];rfl
    ·rw[if_neg h,show(e.1 != t)=true by simp [h]];rfl
def At (es:List El) (l:List El) (x:List El×Int):Prop:= ∃ i:Nat,x=(es,(i:Int))/\i<=es.length/\es.drop i=l
theorem Ad2 (N:Nat) (es l:List El) (x:List El×Int) (hx:At es l x) (hl:es.length<=1099511627776) (t:Int) :
    ∃ y,D6 N x t=some ((BC l t).1,(BC l t).2.1,y)/\At es (BC l t).2.2 y:=by
  obtain⟨i,rfl,hi,hd⟩:=hx
  unfold D6
  by_cases h:i=es.length
  ·have hl0:l=[]:=by rw[<- hd,h,List.drop_length]
   subst hl0
   have h0:decide ((i:Int)>=(es.length:Int))=true:=decide_eq_true (by omega)
   have h1:decide ((0:Int)<=(i:Int))=true:=decide_eq_true (by omega)
   have h2:decide ((i:Int)<(es.length:Int))=false:=decide_eq_false (by omega)
   dsimp only
   rw[h0,h1,h2]
   exact⟨(es,(i:Int)),rfl,i,rfl,hi,hd⟩
  ·have h0:decide ((i:Int)>=(es.length:Int))=false:=decide_eq_false (by omega)
   have h1:decide ((0:Int)<=(i:Int))=true:=decide_eq_true (by omega)
   have h2:decide ((i:Int)<(es.length:Int))=true:=decide_eq_true (by omega)
   have hg:es.drop i=es.getD i (0,[],[])::es.drop (i+1):=by
     rw[List.drop_eq_getElem_cons (by omega)];congr 1
     simp [List.getD_eq_getElem?_getD,show i<es.length by omega]
   dsimp only
   rw[h0,h1,h2,w64 (x:=(i:Int)+1) (by omega) (by omega),w64 (x:=(i:Int)+1 - 1) (by omega) (by omega),show(i:Int)+1 - 1=(i:Int) by omega,h1,h2]
   rw[<- hd,hg]
   show ∃ y,(bif ((es.getD (i:Int).toNat (0,[],[])).1 != t)then some (((0,[],[]):El),false,(es,(i:Int)))else some (es.getD (i:Int).toNat (0,[],[]),true,(es,(i:Int)+1)))=some (_,_,y)/\_
   rw[show(i:Int).toNat=i from rfl]
   by_cases he:(es.getD i (0,[],[])).1=t
   ·rw[Agj he,show((es.getD i (0,[],[])).1 != t)=false by rw[he];simp]
    exact⟨(es,(i:Int)+1),rfl,i+1,rfl,by omega,rfl⟩
   ·rw[Agi he,show((es.getD i (0,[],[])).1 != t)=true from bne_iff_ne.2 he]
    exact⟨(es,(i:Int)),rfl,i,rfl,hi,hg⟩
theorem Al7 (N:Nat) (l:List El):JF N l=some (if l=[]then 0 else 4,l):=by
  cases l with
  | nil=>rfl
  | cons e r =>
    unfold JF
    rw[DU,if_pos (by simp only[List.length_cons];omega),if_neg (by simp)]
theorem Am2 (N:Nat) (es l:List El) (x:List El×Int) (hx:At es l x):BR N x=some (if l=[]then 0 else 4,x):=by
  obtain⟨i,rfl,hi,rfl⟩:=hx
  unfold BR
  rw[DU]
  by_cases h:i=es.length
  ·rw[if_neg (by show ¬((i:Int)<(es.length:Int));omega),if_pos (by rw[h,List.drop_length])]
  ·rw[if_pos (by show((i:Int)<(es.length:Int));omega),if_neg (by rw[List.drop_eq_nil_iff];omega)]
theorem sN {M:Nat} {l:List El} (h:Good M l) (t:Int):Good M (BC l t).2.2/\((BC l t).2.1=true->Zt M (BC l t).1):=by
  cases l with
  | nil=>exact⟨h,fun h=>by cases h⟩
  | cons e r =>
    by_cases he:e.1=t
    ·rw[Agj he];exact⟨h.tail,fun _=>h.all e List.mem_cons_self⟩
    ·rw[Agi he];exact⟨h,fun h=>by cases h⟩
theorem Afv {α :Type} (l:List α):((l.length:Int)==(0:Int))=decide (l=[]):=by
  cases l with
  | nil=>rfl
  | cons e r=>rw[decide_eq_false (by simp)];simp;omega
theorem fU (x:Int):(x != (0:Int))=decide (x≠0):=by by_cases h:x=0<;>simp [h]
def AhG (s:Bs) (t:Int):(List El×Int) ⊕ (Unit×Int) :=
  if(BI s).2≠0 then .inr ((),(BI s).2)else if(BI s).1.1≠t then .inr ((),5)else
  if(AB (BI s).1.2.1).2≠0 then .inr ((),(AB (BI s).1.2.1).2)else .inl ((AB (BI s).1.2.1).1,0)
theorem Hy (s:Bs):(BI s).1.2.1.length<=s.length/\(BI s).1.2.2.length<=s.length:=by
  unfold BI
  split
  ·rename_i h
   have he:=(AbL h).1
   have:=Sp.AgR s he
   have hr:=Sp.yU s he
   have:=Sp.ZP s he
   show(Sp.content s).length<=_/\(Sp.raw s).length<=_
   omega
  ·simp
theorem AlA (N:Nat) (s:Bs) (t:Int) (hN:4<N) (hs:s.length<=1099511627776) (hl:s.length<N):Zh N s t=some (AhG s t):=by
  have hc:=Hy s
  unfold Zh Q4 AhG
  rw[aU N s hN hs]
  simp only[Ae]
  generalize BI s=o at hc ⊢
  by_cases h1:o.2=0
  ·rw[if_neg (by simp [h1]),fU,decide_eq_false (by simp [h1]),cond_false]
   by_cases h2:o.1.1=t
   ·rw[if_neg (by simp [h2]),show(o.1.1 != t)=false by rw[h2];simp]
    unfold Kq
    simp only[cond_false,Ae]
    rw[H8 N _ hN (by omega) (by omega)]
    simp only[Ae]
    by_cases h3:(AB o.1.2.1).2=0
    ·rw[if_neg (by simp [h3]),fU (AB o.1.2.1).2,decide_eq_false (by simp [h3])];rfl
    ·rw[if_pos h3,fU (AB o.1.2.1).2,decide_eq_true h3]
     rfl
   ·rw[if_pos h2,show(o.1.1 != t)=true from bne_iff_ne.2 h2];rfl
  ·rw[if_pos h1,fU,decide_eq_true h1,cond_true,Ae,fU,decide_eq_true h1];rfl
def zA:Att:=([],0,[])
def Ih (e:El):Att×Int :=
  bif e.1 != 48 then(zA,5)else bif (AB e.2.1).2 != 0 then(zA,(AB e.2.1).2)else
  match (AB e.2.1).1 with
  | []=>(zA,3)
  | a::l=>bif a.1 != 6 then(zA,5)else bif (Ij (ND a.2.1)).2 != 0 then(zA,(Ij (ND a.2.1)).2)else
    match l with
    | []=>(zA,3)
    | b::m=>bif b.1 != 12&&b.1 != 19&&b.1 != 22 then(zA,5)else
      match m with
      | []=>(((Ij (ND a.2.1)).1,b.1,b.2.1),0)
      | _::_=>(zA,4)
theorem AlI (N:Nat) (e:El) (hN:1048578<N) (he:e.2.1.length<=1048576):Ff N e=some (Ih e):=by
  unfold Ff
  try simp only[clR]
  rw[H8 N e.2.1 (by omega) (by omega) (by omega)]
  unfold Ih
  have hg:Good 1048576 (AB e.2.1).1:=(BG e.2.1).mono he
  generalize AB e.2.1=r at hg ⊢
  obtain⟨l,er⟩:=r
  rw[<- Bc]
  refine CW fun h0=> ?_
  rw[Ae,<- Bc]
  refine CW fun h1=> ?_
  match l,hg with
  | [],_=>rfl
  | [a],hg =>
    have ha:=(hg.all a (by simp)).content
    have hlen: [a].length=1:=rfl
    simp (disch:=first | assumption | omega) only[Am,hlen,List.getD_cons_zero]
    rw[SH N _ (by omega) (by omega) (by omega)]
    simp (disch:=first | assumption | omega) only[Am,hlen,List.getD_cons_zero]
    simp only[bne]
    cases a.1==6<;>cases (Ij (ND a.2.1)).2==0<;>rfl
  | [a,b],hg =>
    have ha:=(hg.all a (by simp)).content
    have hlen: [a,b].length=2:=rfl
    simp (disch:=first | assumption | omega) only[Am,hlen,List.getD_cons_zero,List.getD_cons_succ]
    rw[SH N _ (by omega) (by omega) (by omega)]
    simp (disch:=first | assumption | omega) only[Am,hlen]
    simp only[bne]
    cases a.1==6<;>cases (Ij (ND a.2.1)).2==0<;>cases b.1==12<;>cases b.1==19<;>cases b.1==22<;>rfl
  | a::b::c::m,hg =>
    have ha:=(hg.all a (by simp)).content
    have hlen:(a::b::c::m).length=m.length+3:=rfl
    simp (disch:=first | assumption | omega) only[Am,hlen,List.getD_cons_zero,List.getD_cons_succ]
    rw[SH N _ (by omega) (by omega) (by omega)]
    simp (disch:=first | assumption | omega) only[Am,hlen]
    simp only[bne]
    cases a.1==6<;>cases (Ij (ND a.2.1)).2==0<;>cases b.1==12<;>cases b.1==19<;>cases b.1==22<;>rfl
def ZJ (e:El) (t:Int):(List El×Int)×Int:=bif e.1 != t then(([],0),5)else(((AB e.2.1).1,0),(AB e.2.1).2)
theorem Uw (N:Nat) (e:El) (t:Int) (hN:1048578<N) (he:e.2.1.length<=1048576):FI N e t=some (ZJ e t):=by
  unfold FI ZJ
  try simp only[clR]
  rw[SL N e.2.1 (by omega) (by omega) (by omega),Ae,Bc]
theorem AfS (N:Nat) (es:List El) (i t:Int) (h0:0<=i) (h1:i<es.length) (hl:es.length<=1048576):DK N (es,i) t=bif (decide (t>=0)&&(es.getD i.toNat (0,[],[])).1 != t)then some ((0,[],[]),5,es,i)else some (es.getD i.toNat (0,[],[]),0,es,i+1):=by
  unfold DK
  simp (disch:=first | assumption | omega) only[Am]
theorem Ad3 (N:Nat) (es:List El) (i t:Int) (h1:(es.length:Int)<=i):DK N (es,i) t=some ((0,[],[]),3,es,i):=by
  unfold DK
  simp (disch:=first | assumption | omega) only[Am]
theorem Am1 (N:Nat) (es:List El) (i:Int) (h1:i<es.length):BR N (es,i)=some (4,es,i):=by
  unfold BR
  simp (disch:=first | assumption | omega) only[Am]
theorem Al8 (N:Nat) (es:List El) (i:Int) (h1:(es.length:Int)<=i):BR N (es,i)=some (0,es,i):=by
  unfold BR
  simp (disch:=first | assumption | omega) only[Am]
theorem Ami (N:Nat) (e:El) (hN:1048578<N) (he:e.2.1.length<=1048576):JO N e=some (Ih e):=by
  unfold JO
  try simp only[clR]
  rw[Uw N e 48 hN he]
  unfold Ih ZJ
  have hg:Good 1048576 (AB e.2.1).1:=(BG e.2.1).mono he
  generalize AB e.2.1=r at hg ⊢
  obtain⟨l,er⟩:=r
  rw[Ae]
  cases h0:e.1 != 48 with
  | true=>rfl
  | false =>
    dsimp only[cond_false]
    cases h1:er != 0 with
    | true=>rfl
    | false =>
      rw[cond_false,cond_false]
      have hlen:l.length<=1048576:=hg.len
      match l,hg with
      | [],_=>rw[Ad3 N [] 0 6 (by simp)];rfl
      | a::l,hg =>
        have ha:=(hg.all a (by simp)).content
        rw[AfS N (a::l) 0 6 (by omega) (by simp only[List.length_cons];omega) hlen]
        show Ac (bif a.1 != 6 then some ((0,[],[]),5,a::l,0)else some (a,0,a::l,1)) _=_
        dsimp only
        cases h2:a.1 != 6 with
        | true=>rfl
        | false =>
          rw[cond_false,cond_false,Ae]
          dsimp only
          rw[show((0:Int) != 0)=false from rfl,cond_false,kJ N _ (by omega) (by omega) (by omega),Ae]
          cases h3:(Ij (ND a.2.1)).2 != 0 with
          | true=>rfl
          | false =>
            rw[cond_false,cond_false]
            match l,hg with
            | [],_ =>
              rw[Ad3 N [a] 1 (-1) (by simp)]
              rfl
            | b::m,hg =>
              have hb:=(hg.all b (by simp)).content
              rw[AfS N (a::b::m) 1 (-1) (by omega) (by simp only[List.length_cons];omega) hlen]
              show Ac (some (b,(0:Int),a::b::m,(2:Int))) _=_
              rw[Ae]
              dsimp only
              rw[show((0:Int) != 0)=false from rfl,cond_false]
              cases h4:b.1 != 12&&b.1 != 19&&b.1 != 22 with
              | true=>rfl
              | false =>
                match m with
                | []=>rw[Al8 N [a,b] 2 (by simp)];rfl
                | c::m=>rw[Am1 N (a::b::c::m) 2 (by simp only[List.length_cons];omega)];rfl
