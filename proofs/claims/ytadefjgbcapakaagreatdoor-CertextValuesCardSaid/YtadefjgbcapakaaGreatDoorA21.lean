import Derived.Test.YtadefjgbcapakaaGreatDoorA20
set_option linter.all false
namespace Go.Proofs.YtadefjgbcapakaaGreatDoor.Pl
open IntKind (i64)
open Go Vm
def CV (l:Bs):Int×Bs×Bs:=((Sp.tag l:Int),Sp.content l,Sp.raw l)
def CP (l:Bs):(Int×Bs×Bs)×Bs×Int:=if Sp.err l=0 then(CV l,Sp.rest l,0)else((0,[],[]),[],Sp.err l)
theorem wF {s:Bs} {p n:Nat} (hh:Sp.head s=(0,p,n)) (hp:p<=s.length):(if((s.length:Int) - p<n)then(some ((0,([]:Bs),([]:Bs)),([]:Bs),3):Option ((Int×Bs×Bs)×Bs×Int))else some ((((s.getD 0 0).toNat:Int),AV s p (p+n),AV s 0 (p+n)),AV s (p+n) s.length,0))=some (CP s):=by
  have e1: ∀ a b,(AV s a b)=(s.take b).drop a:=fun a b=>rfl
  by_cases h:(s.length:Int) - p<n
  ·rw[if_pos h]
   have:Sp.rd s=(3,0,0):=by unfold Sp.rd;rw[hh,if_pos ⟨rfl,by show s.length - p<n;omega⟩]
   unfold CP Sp.err;rw[this];rfl
  ·rw[if_neg h]
   have hr:Sp.rd s=(0,p,n):=by unfold Sp.rd;rw[hh,if_neg (by intro hc;have:=hc.2;simp at this;omega)]
   have he:Sp.err s=0:=by unfold Sp.err;rw[hr]
   unfold CP
   rw[if_pos he]
   unfold CV Sp.content Sp.raw Sp.rest
   rw[hr,e1,e1,e1]
   congr 1
   refine Prod.ext (Prod.ext ?_ (Prod.ext ?_ ?_)) (Prod.ext ?_ rfl)
   ·show((s.getD 0 0).toNat:Int)=((Sp.tag s:Nat):Int)
    unfold Sp.tag;cases s<;>rfl
   ·show(s.take (p+n)).drop p=(s.drop p).take n
    rw[List.drop_take];congr 1;omega
   ·show(s.take (p+n)).drop 0=_
    rw[List.drop_zero]
   ·show(s.take s.length).drop (p+n)=_
    rw[List.take_length]
theorem take_snoc {α :Type} {l:List α} {i:Nat} (h:i<l.length):l.take (i+1)=l.take i++[l[i]]:=by
  rw[List.take_add_one,List.getElem?_eq_getElem h];rfl
theorem dS {l:Bs} {i:Nat} (h:i<l.length):Sp.beNat (l.take (i+1))=Sp.beNat (l.take i)*256+(l[i]).toNat:=by
  rw[take_snoc h,Sp.Aaz]
theorem Zq {l:Bs} (i:Nat) (hl:l.length<=3):Sp.beNat (l.take i)<16777216:=by
  have h1:=Sp.Aep (l.take i)
  have h2:256 ^ (l.take i).length<=256 ^ 3:=Nat.pow_le_pow_right (by omega) (by rw[List.length_take];omega)
  have:(256:Nat) ^ 3=16777216:=by decide
  omega
theorem AcM {ρ :Type} (N:Nat) (l:Bs) (hl:l.length<=3) (hN:4<N) (kx:Int->Option ρ) :
    Ar (X:=Int×Int×List Int) (Y:=Int) (U3 fun t7b t52b l45568b k2 x3 =>
     if t52b<((List.map (fun(b:UInt8)=>((b.toNat:Int))) l).length:Int)then if(0:Int)<=t52b then if t52b<(l45568b.length:Int)then if t52b.toNat<l45568b.length then
       k2 (Bg .or .i64 (i64.wrap (t7b*(256))) (i64.wrap (l45568b.getD t52b.toNat 0)),i64.wrap (t52b+(1:Int)),l45568b)else none else none else none
     else x3 t7b) N (0,0,List.map (fun(b:UInt8)=>((b.toNat:Int))) l) kx=kx (Sp.beNat l):=by
  refine Gh (fun x=> ∃ i,i<=l.length/\x=((Sp.beNat (l.take i):Int),(i:Int),List.map (fun(b:UInt8)=>((b.toNat:Int))) l)) (fun x=>l.length - x.2.1.toNat) (fun _=>kx (Sp.beNat l)) ?_ N _ ⟨0,by omega,rfl⟩ (by show l.length - 0<N;omega)
  rintro x ⟨i,hi,rfl⟩ k hk
  show(if(i:Int)<_ then _ else _)=_
  rw[List.length_map]
  by_cases h:i<l.length
  ·dsimp only
   rw[if_pos (by omega),if_pos (by omega),if_pos (by omega),Int.toNat_natCast,if_pos h]
   have hb:=(l[i]).toNat_lt
   have hs:=Zq (l:=l) i hl
   rw[show(List.map (fun(b:UInt8)=>((b.toNat:Int))) l).getD i 0=((l[i].toNat:Nat):Int) by simp [List.getD_eq_getElem?_getD,h]]
   rw[w64 (x:=((Sp.beNat (l.take i):Nat):Int)*256) (by omega) (by omega),w64 (x:=((l[i].toNat:Nat):Int)) (by omega) (by omega),w64 (x:=(i:Int)+1) (by omega) (by omega)]
   rw[show((Sp.beNat (l.take i):Nat):Int)*256=((Sp.beNat (l.take i)*256:Nat):Int) by omega,or8 _ _ (by omega) hb,<- dS h]
   exact hk _ ⟨i+1,h,rfl⟩ (by show l.length - ((i:Int)+1).toNat<l.length - (i:Int).toNat;omega)
  ·rw[if_neg (by omega)]
   rw[List.take_of_length_le (by omega)]
theorem AeK (N:Nat) (k:Nat) (h1:1<=k) (h3:k<=3):Yt N (k:Int)=some (Sp.leastOf k:Int):=by
  have:k=1\/k=2\/k=3:=by omega
  rcases this with rfl | rfl | rfl<;>rfl
set_option maxRecDepth 4000
theorem Nh (N:Nat) (s:Bs) (hN:4<N) (hs:s.length<=1099511627776):JH N s=some (CP s):=by
  unfold JH
  cases s with
  | nil=>rfl
  | cons a r =>
    have ha:=a.toNat_lt
    have h0:((a::r:Bs)==([]:Bs))=false:=rfl
    simp only[h0,cond_false,List.getD_cons_zero,List.length_cons,AcB,zW,zX,Ac6]
    simp only[zV,EU,beq_iff_eq,decide_eq_true_eq,Bool.or_eq_true,Bool.and_eq_true]
    rw[w64 (by omega) (by omega),AgZ _ ha]
    by_cases h31:a.toNat % 32=31
    ·have:Sp.err (a::r)=5:=by simp [Sp.err,Sp.rd,Sp.head,h31]
     unfold CP
     rw[this,if_pos (by omega),if_pos (by omega)]
     rfl
    ·rw[if_pos (by omega),if_neg (by omega)]
     cases r with
     | nil =>
       have:Sp.err [a]=3:=by simp [Sp.err,Sp.rd,Sp.head,h31]
       unfold CP
       rw[this,if_pos (by simp)]
       rfl
     | cons b c =>
       have hb:=b.toNat_lt
       simp only[List.length_cons]at hs
       simp only[List.getD_cons_succ,List.getD_cons_zero,List.length_cons]
       rw[w64 (x:=((b.toNat:Nat):Int)) (by omega) (by omega),if_neg (by omega),if_pos (by omega)]
       by_cases h6:b.toNat=128\/131<b.toNat
       ·have:Sp.err (a::b::c)=6:=by simp [Sp.err,Sp.rd,Sp.head,h31,h6,show ¬ b.toNat<128 by omega]
        unfold CP
        rw[this,if_pos (by omega)]
        rfl
       ·rw[if_neg (by omega),Tv]
        have hend: ∀ p n:Nat,Sp.head (a::b::c)=(0,p,n)->p<=c.length+2->n<=131072->(if i64.wrap (((c.length+1+1:Nat):Int) - (p:Int))<(n:Int)then some ((0,([]:Bs),([]:Bs)),([]:Bs),3)
            else if(0:Int)<=(p:Int)then if(p:Int)<=i64.wrap ((p:Int)+(n:Int))then if i64.wrap ((p:Int)+(n:Int))<=((c.length+1+1:Nat):Int)then if(0:Int)<=i64.wrap ((p:Int)+(n:Int))then
              if i64.wrap ((p:Int)+(n:Int))<=((c.length+1+1:Nat):Int)then if(0:Int)<=i64.wrap ((p:Int)+(n:Int))then if i64.wrap ((p:Int)+(n:Int))<=((c.length+1+1:Nat):Int)then
              some ((((a.toNat:Nat):Int),AV (a::b::c) (p:Int).toNat (i64.wrap ((p:Int)+(n:Int))).toNat,AV (a::b::c) 0 (i64.wrap ((p:Int)+(n:Int))).toNat),AV (a::b::c) (i64.wrap ((p:Int)+(n:Int))).toNat (c.length+1+1),0)
              else none else none else none else none else none else none else none:Option ((Int×Bs×Bs)×Bs×Int))=some (CP (a::b::c)):=by
          intro p n hh hp hn
          have:=wF (s:=a::b::c) hh (by simp;omega)
          rw[w64 (x:=((c.length+1+1:Nat):Int) - (p:Int)) (by omega) (by omega),w64 (x:=(p:Int)+(n:Int)) (by omega) (by omega)]
          rw[<- this]
          show(if((c.length+1+1:Nat):Int) - (p:Int)<(n:Int)then _ else _)=(if((c.length+1+1:Nat):Int) - (p:Int)<(n:Int)then _ else _)
          by_cases hlt:((c.length+1+1:Nat):Int) - (p:Int)<(n:Int)
          ·rw[if_pos hlt,if_pos hlt]
          ·rw[if_neg hlt,if_neg hlt,if_pos (by omega),if_pos (by omega),if_pos (by omega),if_pos (by omega),if_pos (by omega),if_pos (by omega),if_pos (by omega)]
           rw[show((p:Int)+(n:Int)).toNat=p+n by omega,Int.toNat_natCast]
           rfl
        by_cases h128:b.toNat<128
        ·rw[if_neg (by omega)]
         exact hend 2 b.toNat (by simp [Sp.head,h31,h128]) (by omega) (by omega)
        ·rw[if_pos (by omega)]
         obtain⟨k,hk⟩: ∃ k:Nat,b.toNat=128+k:=⟨b.toNat - 128,by omega⟩
         rw[w64 (x:=((b.toNat:Nat):Int) - 128) (by omega) (by omega),show((b.toNat:Nat):Int) - 128=(k:Int) by omega,w64 (x:=2+(k:Int)) (by omega) (by omega)]
         by_cases hlen:c.length<k
         ·rw[if_pos (by omega)]
          have:Sp.err (a::b::c)=3:=by simp [Sp.err,Sp.rd,Sp.head,h31,h128,h6,show b.toNat - 128=k by omega,hlen]
          unfold CP
          rw[this]
          rfl
         ·have hcut:AV (a::b::c) 2 ((2+(k:Int)).toNat)=c.take k:=by
            rw[show(2+(k:Int)).toNat=k+2 by omega];rfl
          have hlk:(c.take k).length=k:=by rw[List.length_take];omega
          rw[if_neg (by omega),if_pos (by omega),if_pos (by omega),hcut,if_pos (by omega)]
          rw[AcM N (c.take k) (by omega) hN,AeK N k (by omega) (by omega),Af]
          by_cases hbad:Sp.beNat (c.take k)<Sp.leastOf k\/131072<Sp.beNat (c.take k)
          ·have:Sp.err (a::b::c)=6:=by simp [Sp.err,Sp.rd,Sp.head,h31,h128,h6,show b.toNat - 128=k by omega,hlen,hbad]
           unfold CP
           rw[if_pos (by omega),this]
           rfl
          ·rw[if_neg (by omega)]
           have:=hend (2+k) (Sp.beNat (c.take k)) (by simp [Sp.head,h31,h128,h6,show b.toNat - 128=k by omega,hlen,hbad]) (by omega) (by omega)
           rw[show(((2+k:Nat)):Int)=2+(k:Int) by omega]at this
           exact this
theorem tZ {ρ :Type} (N:Nat) (s:Bs) (k:Nat) (hk:k<=3) (hl:k+2<=s.length) (hs:s.length<=1099511627776) (hN:4<N) (kx:Int->Option ρ) :
    Ar (X:=Int×Int) (Y:=Int) (U2 fun t6b t9b k2 x3 =>
     if t9b<(k:Int)then if(0:Int)<=i64.wrap ((2:Int)+t9b)then if i64.wrap ((2:Int)+t9b)<(s.length:Int)then
       k2 (i64.wrap ((i64.wrap ((256:Int)*t6b))+i64.wrap ((s.getD ((i64.wrap ((2:Int)+t9b)).toNat) 0).toNat:Int)),i64.wrap (t9b+(1:Int)))else none else none
     else x3 t6b) N (0,0) kx=kx (Sp.beNat ((s.drop 2).take k)):=by
  have hlen:((s.drop 2).take k).length=k:=by rw[List.length_take,List.length_drop];omega
  generalize hL:(s.drop 2).take k=l at hlen
  refine Gh (fun x=> ∃ i,i<=k/\x=((Sp.beNat (l.take i):Int),(i:Int))) (fun x=>k - x.2.toNat) (fun _=>kx (Sp.beNat l)) ?_ N _ ⟨0,by omega,rfl⟩ (by show k - 0<N;omega)
  rintro x ⟨i,hi,rfl⟩ kk hkk
  show(if(i:Int)<_ then _ else _)=_
  by_cases h:i<k
  ·have hb:=(l[i]'(by omega)).toNat_lt
   have hs':=Zq (l:=l) i (by omega)
   dsimp only
   rw[if_pos (by omega),w64 (x:=2+(i:Int)) (by omega) (by omega),if_pos (by omega),if_pos (by omega),show(2+(i:Int)).toNat=i+2 by omega]
   have e:s.getD (i+2) 0=l[i]'(by omega):=by
     have:l[i]? =s[i+2]? :=by rw[<- hL,List.getElem?_take,if_pos h,List.getElem?_drop,Nat.add_comm]
     rw[List.getD_eq_getElem?_getD,<- this,List.getElem?_eq_getElem (by omega)];rfl
   rw[e,w64 (x:=256*((Sp.beNat (l.take i):Nat):Int)) (by omega) (by omega),w64 (x:=(((l[i]'(by omega)).toNat:Nat):Int)) (by omega) (by omega),w64 (x:=(i:Int)+1) (by omega) (by omega),w64 (by omega) (by omega)]
   have:=dS (l:=l) (i:=i) (by omega)
   rw[show 256*((Sp.beNat (l.take i):Nat):Int)+(((l[i]'(by omega)).toNat:Nat):Int)=((Sp.beNat (l.take (i+1)):Nat):Int) by omega]
   exact hkk _ ⟨i+1,h,rfl⟩ (by show k - ((i:Int)+1).toNat<k - (i:Int).toNat;omega)
  ·rw[if_neg (by omega),List.take_of_length_le (by omega)]
theorem Adv (k:Nat) (h1:1<=k) (h3:k<=3):(([0,128,256,65536]:List Int).getD k 0)=(Sp.leastOf k:Int):=by
  have:k=1\/k=2\/k=3:=by omega
  rcases this with rfl | rfl | rfl<;>rfl
theorem J7 (N:Nat) (s:Bs) (hN:4<N) (hs:s.length<=1099511627776):Hq N s=some (CP s):=by
  unfold Hq
  cases s with
  | nil=>rfl
  | cons a r =>
    have ha:=a.toNat_lt
    simp only[List.getD_cons_zero,List.length_cons,AcB,zW,zX,Ac6]
    simp only[zV,EU,beq_iff_eq,decide_eq_true_eq,Bool.or_eq_true,Bool.and_eq_true]
    rw[if_neg (by omega),if_pos (by omega)]
    have ht:((a.toNat:Nat):Int).tmod 32=((a.toNat % 32:Nat):Int):=by rw[Int.tmod_eq_emod_of_nonneg (by omega)];omega
    rw[ht]
    by_cases h31:a.toNat % 32=31
    ·have:Sp.err (a::r)=5:=by simp [Sp.err,Sp.rd,Sp.head,h31]
     unfold CP
     rw[this,if_pos (by omega)]
     rfl
    ·rw[if_neg (by omega)]
     cases r with
     | nil =>
       have:Sp.err [a]=3:=by simp [Sp.err,Sp.rd,Sp.head,h31]
       unfold CP
       rw[this]
       rfl
     | cons b c =>
       have hb:=b.toNat_lt
       simp only[List.length_cons]at hs
       simp only[List.getD_cons_succ,List.getD_cons_zero,List.length_cons]
       rw[w64 (x:=((b.toNat:Nat):Int)) (by omega) (by omega),if_neg (by omega),if_pos (by omega)]
       by_cases h6:b.toNat=128\/131<b.toNat
       ·have:Sp.err (a::b::c)=6:=by simp [Sp.err,Sp.rd,Sp.head,h31,h6,show ¬ b.toNat<128 by omega]
        unfold CP
        rw[this,if_pos (by omega)]
        rfl
       ·rw[if_neg (by omega),Tv]
        have hend: ∀ p n:Nat,Sp.head (a::b::c)=(0,p,n)->p<=c.length+2->n<=131072->(if i64.wrap (((c.length+1+1:Nat):Int) - (p:Int))<(n:Int)then some ((0,([]:Bs),([]:Bs)),([]:Bs),3)
            else if(0:Int)<((c.length+1+1:Nat):Int)then if(0:Int)<=(p:Int)then if(p:Int)<=i64.wrap ((p:Int)+(n:Int))then if i64.wrap ((p:Int)+(n:Int))<=((c.length+1+1:Nat):Int)then if(0:Int)<=i64.wrap ((p:Int)+(n:Int))then
              if i64.wrap ((p:Int)+(n:Int))<=((c.length+1+1:Nat):Int)then if(0:Int)<=i64.wrap ((p:Int)+(n:Int))then if i64.wrap ((p:Int)+(n:Int))<=((c.length+1+1:Nat):Int)then
              some ((i64.wrap ((a.toNat:Nat):Int),AV (a::b::c) (p:Int).toNat (i64.wrap ((p:Int)+(n:Int))).toNat,AV (a::b::c) 0 (i64.wrap ((p:Int)+(n:Int))).toNat),AV (a::b::c) (i64.wrap ((p:Int)+(n:Int))).toNat (c.length+1+1),0)
              else none else none else none else none else none else none else none else none:Option ((Int×Bs×Bs)×Bs×Int))=some (CP (a::b::c)):=by
          intro p n hh hp hn
          have:=wF (s:=a::b::c) hh (by simp;omega)
          rw[w64 (x:=((c.length+1+1:Nat):Int) - (p:Int)) (by omega) (by omega),w64 (x:=(p:Int)+(n:Int)) (by omega) (by omega),w64 (x:=((a.toNat:Nat):Int)) (by omega) (by omega)]
          rw[<- this]
          show(if((c.length+1+1:Nat):Int) - (p:Int)<(n:Int)then _ else _)=(if((c.length+1+1:Nat):Int) - (p:Int)<(n:Int)then _ else _)
          by_cases hlt:((c.length+1+1:Nat):Int) - (p:Int)<(n:Int)
          ·rw[if_pos hlt,if_pos hlt]
          ·rw[if_neg hlt,if_neg hlt,if_pos (by omega),if_pos (by omega),if_pos (by omega),if_pos (by omega),if_pos (by omega),if_pos (by omega),if_pos (by omega),if_pos (by omega)]
           rw[show((p:Int)+(n:Int)).toNat=p+n by omega,Int.toNat_natCast]
           rfl
        by_cases h128:b.toNat<128
        ·rw[if_neg (by omega)]
         exact hend 2 b.toNat (by simp [Sp.head,h31,h128]) (by omega) (by omega)
        ·rw[if_pos (by omega)]
         obtain⟨k,hk⟩: ∃ k:Nat,b.toNat=128+k:=⟨b.toNat - 128,by omega⟩
         rw[w64 (x:=((b.toNat:Nat):Int) - 128) (by omega) (by omega),show((b.toNat:Nat):Int) - 128=(k:Int) by omega,w64 (x:=2+(k:Int)) (by omega) (by omega)]
         by_cases hlen:c.length<k
         ·rw[if_pos (by omega)]
          have:Sp.err (a::b::c)=3:=by simp [Sp.err,Sp.rd,Sp.head,h31,h128,h6,show b.toNat - 128=k by omega,hlen]
          unfold CP
          rw[this]
          rfl
         ·rw[if_neg (by omega)]
          have hd:=fun kx=>tZ (ρ :=(Int×Bs×Bs)×Bs×Int) N (a::b::c) k (by omega) (by simp;omega) (by simp;omega) hN kx
          refine Eq.trans (hd _) ?_
          show(if(0:Int)<=(k:Int)then _ else _)=_
          have hdr:((a::b::c).drop 2).take k=c.take k:=rfl
          rw[hdr,if_pos (by omega),if_pos (by omega),Int.toNat_natCast,if_pos (by omega),Adv k (by omega) (by omega)]
          by_cases hbad:Sp.beNat (c.take k)<Sp.leastOf k\/131072<Sp.beNat (c.take k)
          ·have:Sp.err (a::b::c)=6:=by simp [Sp.err,Sp.rd,Sp.head,h31,h128,h6,show b.toNat - 128=k by omega,hlen,hbad]
           unfold CP
           rw[if_pos (by omega),this]
           rfl
          ·rw[if_neg (by omega)]
           have:=hend (2+k) (Sp.beNat (c.take k)) (by simp [Sp.head,h31,h128,h6,show b.toNat - 128=k by omega,hlen,hbad]) (by omega) (by omega)
           rw[show(((2+k:Nat)):Int)=2+(k:Int) by omega]at this
           exact this
def Ig (s:Bs):(Int×Bs×Bs)×Int:=if Sp.G9 s=0 then(CV s,0)else((0,[],[]),Sp.G9 s)
theorem QR {s:Bs} (h:Sp.G9 s=0):Sp.err s=0/\Sp.rest s=[]:=by
  unfold Sp.G9 at h
  by_cases he:Sp.err s=0
  ·rw[if_neg (by simp [he])]at h
   by_cases hr:Sp.rest s=[]
   ·exact⟨he,hr⟩
   ·rw[if_neg hr]at h;cases h
  ·rw[if_pos he]at h;exact absurd h he
theorem jM (N:Nat) (s:Bs) (hN:4<N) (hs:s.length<=1099511627776):TU N s=some (Ig s):=by
  unfold TU
  rw[Nh N s hN hs,Af]
  unfold CP Ig Sp.G9
  by_cases he:Sp.err s=0
  ·rw[if_pos he]
   by_cases hr:Sp.rest s=[]
   ·simp [he,hr,EU]
   ·simp [he,hr,EU]
  ·rw[if_neg he]
   simp [he,EU]
theorem XI (N:Nat) (s:Bs) (hN:4<N) (hs:s.length<=1099511627776):NG N s=some (Ig s):=by
  unfold NG
  rw[J7 N s hN hs,Af]
  unfold CP Ig Sp.G9
  by_cases he:Sp.err s=0
  ·rw[if_pos he]
   by_cases hr:Sp.rest s=[]
   ·simp [he,hr]
   ·have:0<(Sp.rest s).length:=by cases h:Sp.rest s with | nil=>exact absurd h hr | cons _ _=>simp
    simp [he,hr,this,EU]
  ·rw[if_neg he]
   simp [he,EU]
theorem Yp (s:Bs):Sp.tag s<256:=UInt8.toNat_lt _
def H5 (e:Int×Bs×Bs) (d:Nat):Int:=if e.1 / 32 % 2=1 then Sp.within (e.2.1.length+1) d e.2.1 else 0
theorem UA: ∀(f g d:Nat) (l:Bs),l.length<f->l.length<g->Sp.within f d l=Sp.within g d l:=by
  intro f
  induction f with
  | zero=>intro g d l h;omega
  | succ f ih =>
    intro g d l hf hg
    cases g with
    | zero=>omega
    | succ g =>
      show(if l=[]then _ else _)=if l=[]then _ else _
      by_cases hl:l=[]
      ·rw[if_pos hl,if_pos hl]
      ·rw[if_neg hl,if_neg hl]
       by_cases he:Sp.err l=0
       ·have h1:=Sp.FN l he
        have h2:=Sp.P7 l he
        rw[ih g (d+1) (Sp.content l) (by omega) (by omega),ih g d (Sp.rest l) (by omega) (by omega)]
       ·rw[if_pos he,if_pos he]
theorem Nj {B:Bs->(Bs->Option Int)->(Unit->Option Int)->Option Int} {kx:Unit->Option Int} (d L:Nat)
    (hB: ∀ x k,x≠ []->x.length<=L->B x k kx=if Sp.err x≠0 then some (Sp.err x)else if 16<=d then some 8 else if H5 (CV x) (d+1)≠0 then some (H5 (CV x) (d+1))else k (Sp.rest x))
    (hend: ∀ k,B [] k kx=some 0) (N:Nat) (x:Bs) (hx:x.length<=L) (hN:x.length<N):Ar B N x kx=some (Sp.within (x.length+1) d x):=by
  refine Gh (fun x=>x.length<=L) (fun x=>x.length) (fun x=>some (Sp.within (x.length+1) d x)) ?_ N x hx hN
  intro x hx k hk
  by_cases h0:x=[]
  ·subst h0;rw[hend];rfl
  ·rw[hB x k h0 hx]
   by_cases he:Sp.err x=0
   ·rw[if_neg (by simp [he])]
    by_cases hd:16<=d
    ·rw[if_pos hd,Sp.zO _ _ _ h0 he hd]
    ·rw[if_neg hd]
     have h1:=Sp.FN x he
     have h2:=Sp.P7 x he
     have hin:H5 (CV x) (d+1)=Sp.inner x.length (d+1) (Sp.tag x) (Sp.content x):=by
       unfold H5 Sp.inner Sp.cons CV
       rw[UA _ x.length (d+1) (Sp.content x) (Nat.lt_succ_self _) h1]
       have:(((Sp.tag x:Nat):Int) / 32 % 2=1)↔(Sp.tag x / 32 % 2=1):=by omega
       simp [this]
     rw[hin]
     by_cases hi:Sp.inner x.length (d+1) (Sp.tag x) (Sp.content x)=0
     ·rw[if_neg (by simp [hi]),hk _ (by show(Sp.rest x).length<=L;omega) h2,Sp.zQ _ _ _ h0 he hd hi]
      rw[UA _ x.length d (Sp.rest x) (Nat.lt_succ_self _) h2]
     ·rw[if_pos hi,Sp.Acs _ _ _ h0 he hd hi]
   ·rw[if_pos he,Sp.Acu _ _ _ h0 he]
theorem Aee (N:Nat) (hN:4<N): ∀(m n:Nat),m<n-> ∀(e:Int×Bs×Bs) (d:Nat),d+m=16->0<=e.1->e.1<256->e.2.1.length<N->e.2.1.length<=1099511627776 ->
    Hu N n e (d:Int)=some (H5 e d):=by
  intro m
  induction m with
  | zero =>
    intro n hn e d hd h0 h1 h2 h3
    obtain⟨n,rfl⟩: ∃ k,n=k+1:=⟨n - 1,by omega⟩
    show FZ N (Hu N n) e d=_
    unfold FZ H5
    obtain⟨t,ht⟩: ∃ t:Nat,e.1=(t:Int):=⟨e.1.toNat,by omega⟩
    rw[ht,Afx t (by omega)]
    by_cases hc:t / 32 % 2=1
    ·rw[if_pos hc,if_pos (by omega)]
     refine Nj d e.2.1.length (fun x k hx hl=> ?_) (fun k=>rfl) N _ (Nat.le_refl _) h2
     have:(x==([]:Bs))=false:=by cases x with | nil=>exact absurd rfl hx | cons _ _=>rfl
     dsimp only
     rw[this,Nh N x hN (by omega),Af]
     unfold CP
     simp only[EU,bne_iff_ne,decide_eq_true_eq,Bool.not_false]
     by_cases he:Sp.err x=0
     ·rw[if_pos he]
      simp only[he,ne_eq,not_true_eq_false,if_false,if_true]
      rw[if_pos (by omega),if_pos (by omega)]
     ·rw[if_neg he]
      simp [he]
    ·rw[if_neg hc,if_neg (by omega)];rfl
  | succ m ih =>
    intro n hn e d hd h0 h1 h2 h3
    obtain⟨n,rfl⟩: ∃ k,n=k+1:=⟨n - 1,by omega⟩
    show FZ N (Hu N n) e d=_
    unfold FZ H5
    obtain⟨t,ht⟩: ∃ t:Nat,e.1=(t:Int):=⟨e.1.toNat,by omega⟩
    rw[ht,Afx t (by omega)]
    by_cases hc:t / 32 % 2=1
    ·rw[if_pos hc,if_pos (by omega)]
     refine Nj d e.2.1.length (fun x k hx hl=> ?_) (fun k=>rfl) N _ (Nat.le_refl _) h2
     have:(x==([]:Bs))=false:=by cases x with | nil=>exact absurd rfl hx | cons _ _=>rfl
     dsimp only
     rw[this,Nh N x hN (by omega),Af]
     unfold CP
     simp only[EU,bne_iff_ne,decide_eq_true_eq,Bool.not_false]
     by_cases he:Sp.err x=0
     ·rw[if_pos he]
      simp only[he,ne_eq,not_true_eq_false,if_false,if_true]
      have hcl:=Sp.FN x he
      have htl:=Yp x
      rw[if_neg (by omega),if_neg (by omega),w64 (by omega) (by omega),show(d:Int)+1=((d+1:Nat):Int) by omega,ih n (by omega) (CV x) (d+1) (by omega) (by show(0:Int)<=((Sp.tag x:Nat):Int);omega) (by show((Sp.tag x:Nat):Int)<256;omega) (by show(Sp.content x).length<N;omega) (by show(Sp.content x).length<=_;omega),Af]
     ·rw[if_neg he]
      simp [he]
    ·rw[if_neg hc,if_neg (by omega)];rfl
theorem Aez (N:Nat) (hN:4<N): ∀(m n:Nat),m<n-> ∀(e:Int×Bs×Bs) (d:Nat),d+1+m=16->0<=e.1->e.1<256->e.2.1.length<N->e.2.1.length<=1099511627776 ->
    Gj N n e (d:Int)=some (H5 e (d+1)):=by
  intro m
  induction m with
  | zero =>
    intro n hn e d hd h0 h1 h2 h3
    obtain⟨n,rfl⟩: ∃ k,n=k+1:=⟨n - 1,by omega⟩
    show Fh N (Gj N n) e d=_
    unfold Fh H5
    rw[Int.tdiv_eq_ediv_of_nonneg h0,w64 (by omega) (by omega),Int.tmod_eq_emod_of_nonneg (by omega)]
    by_cases hc:e.1 / 32 % 2=1
    ·rw[if_pos hc,hc]
     refine Nj (d+1) e.2.1.length (fun x k hx hl=> ?_) (fun k=>rfl) N _ (Nat.le_refl _) h2
     have:0<x.length:=by cases x with | nil=>exact absurd rfl hx | cons _ _=>simp
     dsimp only
     rw[J7 N x hN (by omega),Af]
     unfold CP
     simp only[EU,bne_iff_ne,decide_eq_true_eq]
     rw[if_pos (by omega),w64 (by omega) (by omega)]
     by_cases he:Sp.err x=0
     ·rw[if_pos he]
      simp only[he,ne_eq,not_true_eq_false,if_false]
      rw[if_pos (by omega),if_pos (by omega)]
     ·rw[if_neg he]
      simp [he]
    ·rw[if_neg hc,show e.1 / 32 % 2=0 by omega];rfl
  | succ m ih =>
    intro n hn e d hd h0 h1 h2 h3
    obtain⟨n,rfl⟩: ∃ k,n=k+1:=⟨n - 1,by omega⟩
    show Fh N (Gj N n) e d=_
    unfold Fh H5
    rw[Int.tdiv_eq_ediv_of_nonneg h0,w64 (by omega) (by omega),Int.tmod_eq_emod_of_nonneg (by omega)]
    by_cases hc:e.1 / 32 % 2=1
    ·rw[if_pos hc,hc]
     refine Nj (d+1) e.2.1.length (fun x k hx hl=> ?_) (fun k=>rfl) N _ (Nat.le_refl _) h2
     have:0<x.length:=by cases x with | nil=>exact absurd rfl hx | cons _ _=>simp
     dsimp only
     rw[J7 N x hN (by omega),Af]
     unfold CP
     simp only[EU,bne_iff_ne,decide_eq_true_eq]
     rw[if_pos (by omega),w64 (by omega) (by omega)]
     by_cases he:Sp.err x=0
     ·rw[if_pos he]
      simp only[he,ne_eq,not_true_eq_false,if_false]
      have hcl:=Sp.FN x he
      have htl:=Yp x
      rw[if_neg (by omega),if_neg (by omega),show(d:Int)+1=((d+1:Nat):Int) by omega,ih n (by omega) (CV x) (d+1) (by omega) (by show(0:Int)<=((Sp.tag x:Nat):Int);omega) (by show((Sp.tag x:Nat):Int)<256;omega) (by show(Sp.content x).length<N;omega) (by show(Sp.content x).length<=_;omega),Af]
     ·rw[if_neg he]
      simp [he]
    ·rw[if_neg hc,show e.1 / 32 % 2=0 by omega];rfl
theorem fO {s:Bs} (h:Sp.G9 s=0):H5 (CV s) 1=Sp.chk s:=by
  unfold Sp.chk
  rw[if_neg (by simp [h])]
  unfold H5 Sp.inner Sp.cons CV
  have h1:=Sp.FN s (QR h).1
  rw[UA _ (s.length+1) 1 (Sp.content s) (Nat.lt_succ_self _) (by omega)]
  have:(((Sp.tag s:Nat):Int) / 32 % 2=1)↔(Sp.tag s / 32 % 2=1):=by omega
  simp [this]
theorem xK (N:Nat) (s:Bs) (hN:16<N) (hs:s.length<=1099511627776) (hl:s.length<N):NJ N s=some (Sp.chk s):=by
  unfold NJ
  rw[jM N s (by omega) hs,Af]
  unfold Ig
  by_cases h:Sp.G9 s=0
  ·have h1:=Sp.FN s (QR h).1
   have h2:=Yp s
   rw[if_pos h,<- fO h]
   have:=Aee N (by omega) 15 N (by omega) (CV s) 1 rfl (by show(0:Int)<=((Sp.tag s:Nat):Int);omega) (by show((Sp.tag s:Nat):Int)<256;omega) (by show(Sp.content s).length<N;omega) (by show(Sp.content s).length<=_;omega)
   show Ae (Hu N N (CV s) 1) _=_
   rw[show(1:Int)=((1:Nat):Int)from rfl,this,Af]
  ·rw[if_neg h]
   have:Sp.chk s=Sp.G9 s:=by unfold Sp.chk;rw[if_pos h]
   simp [EU,h,this]
theorem lV (N:Nat) (s:Bs) (hN:16<N) (hs:s.length<=1099511627776) (hl:s.length<N):Ju N s=some (Sp.chk s):=by
  unfold Ju
  rw[XI N s (by omega) hs,Af]
  unfold Ig
  by_cases h:Sp.G9 s=0
  ·have h1:=Sp.FN s (QR h).1
   have h2:=Yp s
   rw[if_pos h,<- fO h]
   have:=Aez N (by omega) 15 N (by omega) (CV s) 0 rfl (by show(0:Int)<=((Sp.tag s:Nat):Int);omega) (by show((Sp.tag s:Nat):Int)<256;omega) (by show(Sp.content s).length<N;omega) (by show(Sp.content s).length<=_;omega)
   show Ae (Gj N N (CV s) 0) _=_
   rw[show(0:Int)=((0:Nat):Int)from rfl,this,Af]
  ·rw[if_neg h]
   have:Sp.chk s=Sp.G9 s:=by unfold Sp.chk;rw[if_pos h]
   simp [EU,h,this]
end Go.Proofs.YtadefjgbcapakaaGreatDoor.Pl
namespace Go.Proofs.YtadefjgbcapakaaGreatDoor.Vm
open IntKind (i64)
open Go
theorem Af1 {a b:Int} {q:Decidable (a<b)} (h:a<b): @decide (a<b) q=true:= @decide_eq_true _ q h
theorem Af0 {a b:Int} {q:Decidable (a<b)} (h:b<=a): @decide (a<b) q=false:= @decide_eq_false _ q (by omega)
theorem Ahp {a b:Int} {q:Decidable (a<=b)} (h:a<=b): @decide (a<=b) q=true:= @decide_eq_true _ q h
theorem Aho {a b:Int} {q:Decidable (a<=b)} (h:b<a): @decide (a<=b) q=false:= @decide_eq_false _ q (by omega)
theorem Ahn {a b:Int} {q:Decidable (a>b)} (h:b<a): @decide (a>b) q=true:= @decide_eq_true _ q h
theorem Ahm {a b:Int} {q:Decidable (a>b)} (h:a<=b): @decide (a>b) q=false:= @decide_eq_false _ q (by omega)
theorem Ahl {a b:Int} {q:Decidable (a>=b)} (h:b<=a): @decide (a>=b) q=true:= @decide_eq_true _ q h
theorem Ahk {a b:Int} {q:Decidable (a>=b)} (h:a<b): @decide (a>=b) q=false:= @decide_eq_false _ q (by omega)
theorem Aht {a b:Nat} {q:Decidable (a<b)} (h:a<b): @decide (a<b) q=true:= @decide_eq_true _ q h
theorem Ahs {a b:Nat} {q:Decidable (a<b)} (h:b<=a): @decide (a<b) q=false:= @decide_eq_false _ q (by omega)
theorem Ahr {a b:Nat} {q:Decidable (a<=b)} (h:a<=b): @decide (a<=b) q=true:= @decide_eq_true _ q h
theorem Ahq {a b:Nat} {q:Decidable (a<=b)} (h:b<a): @decide (a<=b) q=false:= @decide_eq_false _ q (by omega)
theorem Ac5 {a b:Int} (h:a=b):(a==b)=true:=by subst h;exact beq_self_eq_true _
theorem Ac4 {a b:Int} (h:a≠b):(a==b)=false:=beq_false_of_ne h
theorem Ags {a b:Int} (h:a≠b):(a != b)=true:=by unfold bne;rw[Ac4 h];rfl
theorem sZ {a b:Int} (h:a=b):(a != b)=false:=by unfold bne;rw[Ac5 h];rfl
theorem toNat_add (a b:Nat):((a:Int)+(b:Int)).toNat=a+b:=by omega
theorem toNat_sub (a b:Nat):((a:Int) - (b:Int)).toNat=a - b:=by omega
theorem Acl (a:Nat):((a:Int)+1).toNat=a+1:=by omega
theorem Acm (a:Nat):((a:Int) - 1).toNat=a - 1:=by omega
theorem CO (a:Nat):((a:Int)+1)=((a+1:Nat):Int):=rfl
theorem getD_mem {α :Type} {l:List α} {i:Nat} (d: α) (h:i<l.length):l.getD i d∈l:=by rw[getD_lt l i d h];exact List.getElem_mem h
def IX {R S ρ :Type} (x:R ⊕ S) (ret:R->Option ρ) (k:S->Option ρ):Option ρ :=match x with
  | .inl r=>ret r
  | .inr s=>k s
theorem AfF {R S ρ :Type} (r:R) (ret:R->Option ρ) (k:S->Option ρ):IX (.inl r) ret k=ret r:=rfl
theorem AfG {R S ρ :Type} (s:S) (ret:R->Option ρ) (k:S->Option ρ):IX (.inr s) ret k=k s:=rfl
theorem I9 {R S ρ :Type} (b:Bool) (x y:R ⊕ S) (ret:R->Option ρ) (k:S->Option ρ):IX (bif b then x else y) ret k=bif b then IX x ret k else IX y ret k:=by cases b<;>rfl
theorem AcI {R S ρ :Type} (b:Prop) [Decidable b] (x y:R ⊕ S) (ret:R->Option ρ) (k:S->Option ρ):IX (if b then x else y) ret k=if b then IX x ret k else IX y ret k:=by split<;>rfl
def Gt {E R S:Type} (step:E->S->R ⊕ S):List E->S->R ⊕ S
  | [],s=>.inr s
  | e::r,s=>match step e s with
    | .inl x=>.inl x
    | .inr s'=>Gt step r s'
theorem FO {E R S:Type} (step:E->S->R ⊕ S) (e:E) (l:List E) (s:S):Gt step (e::l) s=(step e s).elim Sum.inl (fun s'=>Gt step l s'):=by
  simp only[Gt]
  cases step e s<;>rfl
theorem XC {X Y S E R ρ :Type} {B:X->(X->Option ρ)->(Y->Option ρ)->Option ρ} {kx:Y->Option ρ} (mk:Nat->S->X) (l:List E) (d:E) (I:Nat->S->Prop) (step:E->S->R ⊕ S) (ret:R->Option ρ) (fin:S->Option ρ)
    (h: ∀(i:Nat) (s:S),i<l.length->I i s-> ∀ k,B (mk i s) k kx=IX (step (l.getD i d) s) ret fun s'=>k (mk (i+1) s'))
    (hI: ∀(i:Nat) (s s':S),i<l.length->I i s->step (l.getD i d) s= .inr s'->I (i+1) s')
    (hend: ∀(s:S) (k:X->Option ρ),I l.length s->B (mk l.length s) k kx=fin s) (N:Nat) (s:S) (h0:I 0 s) (hN:l.length<N):Ar B N (mk 0 s) kx=IX (Gt step l s) ret fin:=by
  have key: ∀(n i:Nat) (s:S),I i s->i<=l.length->l.length - i<n->Ar B n (mk i s) kx=IX (Gt step (l.drop i) s) ret fin:=by
    intro n
    induction n with
    | zero=>intro i s _ _ h;omega
    | succ n ih =>
      intro i s hi hil hn
      rw[CY]
      by_cases hl:i<l.length
      ·rw[h i s hl hi,List.drop_eq_getElem_cons hl]
       have hs:=hI i s
       rw[show l.getD i d=l[i]from getD_lt l i d hl]at *
       rw[FO]
       cases hst:step l[i] s with
       | inl x=>rfl
       | inr s'=>exact ih (i+1) _ (hs _ hl hi hst) (by omega) (by omega)
      ·have:i=l.length:=by omega
       subst this
       rw[hend s _ hi,List.drop_length];rfl
  exact key N 0 s h0 (by omega) (by omega)
theorem ND {X Y S E R ρ :Type} {B:X->(X->Option ρ)->(Y->Option ρ)->Option ρ} {kx:Y->Option ρ} (mk:Nat->S->X) (l:List E) (d:E) (step:E->S->R ⊕ S) (ret:R->Option ρ) (fin:S->Option ρ)
    (h: ∀(i:Nat) (s:S),i<l.length-> ∀ k,B (mk i s) k kx=IX (step (l.getD i d) s) ret fun s'=>k (mk (i+1) s'))
    (hend: ∀(s:S) (k:X->Option ρ),B (mk l.length s) k kx=fin s) (N:Nat) (s:S) (hN:l.length<N):Ar B N (mk 0 s) kx=IX (Gt step l s) ret fin :=
  XC mk l d (fun _ _=>True) step ret fin (fun i s hi _=>h i s hi) (fun _ _ _ _ _ _=>trivial) (fun s k _=>hend s k) N s trivial hN
theorem Adz {E R:Type} (p:E->Bool) (r:R): ∀ l:List E,Gt (fun e (_:Unit)=>bif p e then .inl r else .inr ()) l ()=bif l.any p then .inl r else .inr ():=by
  intro l
  induction l with
  | nil=>rfl
  | cons e t ih =>
    rw[FO,List.any_cons]
    cases p e with
    | true=>rfl
    | false=>exact ih
theorem yH {E:Type} (f:E->Int): ∀ l:List E,Gt (fun e (_:Unit)=>bif f e != 0 then .inl (f e)else .inr ()) l ()=bif BD f l != 0 then .inl (BD f l)else .inr ():=by
  intro l
  induction l with
  | nil=>rfl
  | cons e t ih =>
    rw[FO]
    unfold BD
    by_cases h:f e=0
    ·rw[h,show((0:Int) != 0)=false from rfl]
     exact ih
    ·rw[if_pos h,show(f e != 0)=true from bne_iff_ne.2 h];rfl
theorem wC {n i:Nat} (h:i<n):(List.range n).getD i 0=i:=by
  rw[getD_lt _ _ _ (by rw[List.length_range];exact h),List.getElem_range]
section
variable {X Y E ρ :Type} {B:X->(X->Option ρ)->(Y->Option ρ)->Option ρ} {kx:Y->Option ρ}
theorem AcZ (mk:Nat->X) (l:List E) (d:E) (f:E->Int) (ret:Int->Option ρ) (fin:Option ρ)
    (h: ∀ i,i<l.length-> ∀ k,B (mk i) k kx=bif f (l.getD i d) != 0 then ret (f (l.getD i d))else k (mk (i+1)))
    (hend: ∀ k,B (mk l.length) k kx=fin) (N:Nat) (hN:l.length<N):Ar B N (mk 0) kx=bif BD f l != 0 then ret (BD f l)else fin:=by
  refine Eq.trans (ND (S:=Unit) (R:=Int) (mk:=fun i _=>mk i) l d (fun e _=>bif f e != 0 then .inl (f e)else .inr ()) ret (fun _=>fin) ?_ (fun _ k=>hend k) N () hN) ?_
  ·intro i _ hi k
   rw[h i hi,I9];rfl
  ·rw[yH,I9];rfl
theorem Ja (mk:Nat->X) (n:Nat) (f:Nat->Int) (ret:Int->Option ρ) (fin:Option ρ)
    (h: ∀ i,i<n-> ∀ k,B (mk i) k kx=bif f i != 0 then ret (f i)else k (mk (i+1)))
    (hend: ∀ k,B (mk n) k kx=fin) (N:Nat) (hN:n<N):Ar B N (mk 0) kx=bif BD f (List.range n) != 0 then ret (BD f (List.range n))else fin:=by
  refine AcZ mk (List.range n) 0 f ret fin ?_ ?_ N (by rw[List.length_range];exact hN)
  ·intro i hi k
   rw[List.length_range]at hi
   rw[wC hi];exact h i hi k
  ·intro k;rw[List.length_range];exact hend k
theorem JJ (mk:Nat->X) (l:List E) (d:E) (p:E->Bool) (x fin:Option ρ)
    (h: ∀ i,i<l.length-> ∀ k,B (mk i) k kx=bif p (l.getD i d)then x else k (mk (i+1)))
    (hend: ∀ k,B (mk l.length) k kx=fin) (N:Nat) (hN:l.length<N):Ar B N (mk 0) kx=bif l.any p then x else fin:=by
  refine Eq.trans (ND (S:=Unit) (R:=Unit) (mk:=fun i _=>mk i) l d (fun e _=>bif p e then .inl ()else .inr ()) (fun _=>x) (fun _=>fin) ?_ (fun _ k=>hend k) N () hN) ?_
  ·intro i _ hi k
   rw[h i hi,I9];rfl
  ·rw[Adz,I9];rfl
end
theorem first_some (e:Int):(bif e != 0 then some e else some 0)=some e:=by
  by_cases h:e=0
  ·subst h;rfl
  ·rw[show(e != 0)=true from bne_iff_ne.2 h];rfl
theorem AZ {α :Type} (b:Bool) (x y: α):(bif b then some x else some y)=some (bif b then x else y):=by cases b<;>rfl
theorem Zx {E:Type} (f:E->Int) (x:E) (r:List E):BD f (x::r)=bif f x != 0 then f x else BD f r:=by
  show(if f x≠0 then f x else BD f r)=_
  by_cases h:f x=0
  ·rw[if_neg (fun hn=>hn h),h];rfl
  ·rw[if_pos h,show(f x != 0)=true from bne_iff_ne.2 h];rfl
theorem o9 {α :Type} (l:List α) (d: α) {i j:Nat} (h:j<i):(l.take i).getD j d=l.getD j d:=by
  rw[List.getD_eq_getElem?_getD,List.getElem?_take,if_pos h,<- List.getD_eq_getElem?_getD]
theorem JM {α :Type} (l:List α) (i:Nat):AV l 0 i=l.take i:=rfl
section
variable {X Y E A ρ :Type} {B:X->(X->Option ρ)->(Y->Option ρ)->Option ρ} {kx:Y->Option ρ}
theorem Abl (er:E->Int) (g:E->A): ∀(l:List E) (acc:List A),Gt (fun e (acc:List A)=>bif er e != 0 then Sum.inl (er e)else Sum.inr (acc++[g e])) l acc=bif BD er l != 0 then .inl (BD er l)else .inr (acc++l.map g):=by
  intro l
  induction l with
  | nil=>intro acc;rw[List.map_nil,List.append_nil];rfl
  | cons e r ih =>
    intro acc
    rw[FO,Zx]
    cases h:er e != 0 with
    | true=>rw[cond_true,cond_true,h];rfl
    | false =>
      rw[cond_false,cond_false]
      show Gt _ r (acc++[g e])=_
      rw[ih,List.append_assoc];rfl
theorem Uw (mk:Nat->List A->X) (l:List E) (d:E) (er:E->Int) (g:E->A) (ret:Int->Option ρ) (fin:List A->Option ρ)
    (h: ∀(i:Nat) (acc:List A),i<l.length->acc.length=i-> ∀ k,B (mk i acc) k kx=bif er (l.getD i d) != 0 then ret (er (l.getD i d))else k (mk (i+1) (acc++[g (l.getD i d)])))
    (hend: ∀(acc:List A) (k:X->Option ρ),acc.length=l.length->B (mk l.length acc) k kx=fin acc) (N:Nat) (hN:l.length<N):Ar B N (mk 0 []) kx=bif BD er l != 0 then ret (BD er l)else fin (l.map g):=by
  refine(XC (S:=List A) (R:=Int) mk l d (fun i acc=>acc.length=i) (fun e acc=>bif er e != 0 then .inl (er e)else .inr (acc++[g e])) ret fin ?_ ?_ (fun acc k ha=>hend acc k ha) N [] rfl hN).trans ?_
  ·intro i acc hi ha k
   rw[h i acc hi ha,I9];rfl
  ·intro i acc acc' hi ha he
   cases hb:er (l.getD i d) != 0 with
   | true=>rw[hb]at he;cases he
   | false =>
     rw[hb]at he;injection he with he;subst he
     rw[List.length_append,ha];rfl
  ·rw[Abl,I9,List.nil_append];rfl
theorem AeC: ∀ l:List E,BD (fun _=>(0:Int)) l=0:=by
  intro l
  induction l with
  | nil=>rfl
  | cons e r ih=>rw[Zx];exact ih
theorem uZ (mk:Nat->List A->X) (l:List E) (d:E) (g:E->A) (fin:List A->Option ρ)
    (h: ∀(i:Nat) (acc:List A),i<l.length->acc.length=i-> ∀ k,B (mk i acc) k kx=k (mk (i+1) (acc++[g (l.getD i d)])))
    (hend: ∀(acc:List A) (k:X->Option ρ),acc.length=l.length->B (mk l.length acc) k kx=fin acc) (N:Nat) (hN:l.length<N):Ar B N (mk 0 []) kx=fin (l.map g):=by
  refine(Uw mk l d (fun _=>0) g (fun _=>none) fin (fun i acc hi ha k=>h i acc hi ha k) hend N hN).trans ?_
  rw[AeC];rfl
end
theorem Af5 (x y:Bool):(!x|| !y&&x||y)=true:=by cases x<;>cases y<;>rfl
theorem BR {α :Type} {c:Bool} {a x y: α} (h:c=false->x=y):(bif c then a else x)=bif c then a else y:=by
  cases c with
  | true=>rfl
  | false=>exact h rfl
set_option linter.defProp false in
def AU:=And.intro @Aag (And.intro @Tv (And.intro @AY (And.intro @Af (And.intro @cond_true.{1} (And.intro @cond_false.{1} (And.intro @Af1 (And.intro @Af0 (And.intro @Ahp (And.intro @Aho (And.intro @Ahn (And.intro @Ahm (And.intro @Ahl (And.intro @Ahk (And.intro @Aht (And.intro @Ahs (And.intro @Ahr (And.intro @Ahq (And.intro @Ac5 (And.intro @Ac4 (And.intro @Ags (And.intro @sZ (And.intro @w64 (And.intro @Int.toNat_natCast (And.intro @toNat_add (And.intro @toNat_sub (And.intro @Acl (And.intro @Acm (And.intro @Bool.true_or (And.intro @Bool.or_true (And.intro @Bool.false_or (And.intro @Bool.or_false (And.intro @Bool.true_and (And.intro @Bool.and_true (And.intro @Bool.false_and (And.intro @Bool.and_false (And.intro @Bool.not_true (And.intro @Bool.not_false (And.intro @Bool.not_not (And.intro @Bool.or_not_self (And.intro @Bool.not_or_self (And.intro @Bool.cond_self.{1} (And.intro @Bool.cond_true_left (And.intro @Bool.cond_false_left (And.intro @Bool.cond_true_right (And.intro @Bool.cond_false_right (And.intro @Bool.or_self (And.intro @Bool.and_self (And.intro @AfF (And.intro @AfG (And.intro @I9 (And.intro @AcI (And.intro @U2.eq_1 (And.intro @U3.eq_1 (And.intro @U4.eq_1 (And.intro @U5.eq_1 (And.intro @U6.eq_1 (And.intro @U7.eq_1 (And.intro @U8.eq_1 (And.intro @U9.eq_1 (@U10.eq_1))))))))))))))))))))))))))))))))))))))))))))))))))))))))))))
end Go.Proofs.YtadefjgbcapakaaGreatDoor.Vm
namespace Go.Proofs.YtadefjgbcapakaaGreatDoor.Pl
open IntKind (i64)
open Go Vm
theorem AaL (s:Bs):(s==([]:Bs))=decide (s=[]):=by cases s<;>rfl
theorem nU {α :Type} {s:List α} (h:s≠ []):0<s.length:=by cases s with | nil=>exact absurd rfl h | cons _ _=>simp
abbrev El:=Int×Bs×Bs
def J4:Nat->Bs->List El->List El×Int
  | 0,_,a=>(a,0)
  | f+1,s,a=>if s=[]then(a,0)else if Sp.err s≠0 then([],Sp.err s)else J4 f (Sp.rest s) (a++[CV s])
def OM (s:Bs):List El×Int:=J4 (s.length+1) s []
theorem gG: ∀(f g:Nat) (s:Bs) (a:List El),s.length<f->s.length<g->J4 f s a=J4 g s a:=by
  intro f
  induction f with
  | zero=>intro g s a h;omega
  | succ f ih =>
    intro g s a hf hg
    cases g with
    | zero=>omega
    | succ g =>
      show(if s=[]then(a,(0:Int))else if Sp.err s≠0 then([],Sp.err s)else J4 f (Sp.rest s) (a++[CV s]))=(if s=[]then(a,0)else if Sp.err s≠0 then([],Sp.err s)else J4 g (Sp.rest s) (a++[CV s]))
      by_cases h:s=[]
      ·rw[if_pos h,if_pos h]
      ·rw[if_neg h,if_neg h]
       by_cases he:Sp.err s=0
       ·have:=Sp.P7 s he
        rw[if_neg (by simp [he]),if_neg (by simp [he])]
        exact ih g _ _ (by omega) (by omega)
       ·rw[if_pos he,if_pos he]
def KA (M:Nat) (e:El):Prop:= ∃ t:Bs,Sp.err t=0/\e=CV t/\t.length<=M
structure Good (M:Nat) (l:List El):Prop where
  len:l.length<=M
  all: ∀ e∈l,KA M e
  AgC:(l.map (·.2.2)).flatten.length<=M
theorem KA.mono {M K:Nat} {e:El} (h:KA M e) (hk:M<=K):KA K e:=by
  obtain⟨t,h1,h2,h3⟩:=h;exact⟨t,h1,h2,by omega⟩
theorem KA.content {M:Nat} {e:El} (h:KA M e):e.2.1.length+2<=e.2.2.length/\e.2.2.length<=M/\0<=e.1/\e.1<256:=by
  obtain⟨t,h1,rfl,h3⟩:=h
  have:=Sp.Y6 t h1
  have hr:=Sp.iP t h1
  have hc:=Sp.kR t h1
  have ht:=Yp t
  show(Sp.content t).length+2<=(Sp.raw t).length/\(Sp.raw t).length<=M/\0<=((Sp.tag t:Nat):Int)/\((Sp.tag t:Nat):Int)<256
  omega
theorem Afc {s:Bs}:Sp.raw s++Sp.rest s=s:=List.take_append_drop _ _
theorem Abh (M:Nat): ∀(f:Nat) (s:Bs) (a:List El),s.length<=M->Good M a->(a.map (·.2.2)).flatten.length+s.length<=M->a.length+s.length<=M->Good M (J4 f s a).1:=by
  intro f
  induction f with
  | zero=>intro s a _ h _ _;exact h
  | succ f ih =>
    intro s a hs ha hr hl
    show Good M (if s=[]then(a,(0:Int))else if Sp.err s≠0 then([],Sp.err s)else J4 f (Sp.rest s) (a++[CV s])).1
    by_cases h:s=[]
    ·rw[if_pos h];exact ha
    ·rw[if_neg h]
     by_cases he:Sp.err s=0
     ·rw[if_neg (by simp [he])]
      have h1:=Sp.P7 s he
      have h2:(Sp.raw s).length+(Sp.rest s).length=s.length:=by rw[<- List.length_append,Afc]
      have hq:((a++[CV s]).map (·.2.2)).flatten.length=(a.map (·.2.2)).flatten.length+(Sp.raw s).length:=by
        rw[List.map_append,List.flatten_append,List.length_append];congr 1;show(Sp.raw s++[]).length=_;rw[List.append_nil]
      refine ih _ _ (by omega) ⟨by simp;omega,?_,by omega⟩ (by omega) (by simp;omega)
      intro e he'
      rcases List.mem_append.1 he' with h' | h'
      ·exact ha.all e h'
      ·rw[List.mem_singleton.1 h'];exact⟨s,he,rfl,hs⟩
     ·rw[if_pos he];exact⟨by simp,by simp,by simp⟩
theorem KE (s:Bs):Good s.length (OM s).1:=Abh _ _ _ _ (Nat.le_refl _) ⟨by simp,by simp,by simp⟩ (by simp) (by simp)
theorem Good.mono {M K:Nat} {l:List El} (h:Good M l) (hk:M<=K):Good K l:=⟨by have:=h.len;omega,fun e he=>(h.all e he).mono hk,by have:=h.AgC;omega⟩
theorem Good.tail {M:Nat} {e:El} {l:List El} (h:Good M (e::l)):Good M l:=⟨by have:=h.len;simp at this;omega,fun e he=>h.all e (List.mem_cons_of_mem _ he),by have:=h.AgC;rw[List.map_cons,List.flatten_cons,List.length_append]at this;omega⟩
theorem ZF (N:Nat) (s:Bs) (hN:4<N) (hs:s.length<=1099511627776) (hl:s.length<N):Vt N s=some (OM s):=by
  unfold Vt OM
  refine Gh (F:=fun x=>some (J4 (x.1.length+1) x.1 x.2)) (fun x=>x.1.length+x.2.length<=s.length) (fun x=>x.1.length) ?_ N (s,[]) (by simp) hl
  rintro ⟨t,a⟩ hI k hk
  dsimp only at hI hk
  dsimp only[U2]
  by_cases h:t=[]
  ·subst h;rfl
  ·have hp:=nU h
   rw[AaL,decide_eq_false h,Bool.not_false,cond_true]
   show(Ae (JH N t) _:Option (List El×Int))=some (if t=[]then(a,0)else if Sp.err t≠0 then([],Sp.err t)else J4 t.length (Sp.rest t) (a++[CV t]))
   rw[if_neg h,Nh N t hN (by omega),Af]
   by_cases he:Sp.err t=0
   ·have hr:CP t=(CV t,Sp.rest t,0):=by unfold CP;rw[if_pos he]
    have hlt:=Sp.P7 t he
    rw[hr,if_neg (by simp [he])]
    show Vm.chk (decide ((a.length+1)*41<=140737488355328)) (k (Sp.rest t,a++[CV t]))=_
    rw[AcA,if_pos (by omega),hk (Sp.rest t,a++[CV t]) (by simp;omega) hlt]
    exact congrArg some (gG _ _ _ _ (by show(Sp.rest t).length<(Sp.rest t).length+1;omega) hlt)
   ·have hr:CP t=((0,[],[]),[],Sp.err t):=by unfold CP;rw[if_neg he]
    rw[hr,if_pos he]
    show(bif Sp.err t != 0 then some (([]:List El),Sp.err t)else _)=_
    rw[show(Sp.err t != 0)=true by simp [he]];rfl
theorem V4 (N:Nat) (s:Bs) (hN:4<N) (hs:s.length<=1099511627776) (hl:s.length<N):OV N s=some (OM s):=by
  unfold OV OM
  refine Gh (F:=fun x=>some (J4 (x.1.length+1) x.1 x.2)) (fun x=>x.1.length+x.2.length<=s.length) (fun x=>x.1.length) ?_ N (s,[]) (by simp) hl
  rintro ⟨t,a⟩ hI k hk
  dsimp only at hI hk
  dsimp only[U2]
  by_cases h:t=[]
  ·subst h;rfl
  ·have hp:=nU h
   rw[sV,if_pos (show(t.length:Int)>0 by omega)]
   show(Ae (Hq N t) _:Option (List El×Int))=some (if t=[]then(a,0)else if Sp.err t≠0 then([],Sp.err t)else J4 t.length (Sp.rest t) (a++[CV t]))
   rw[if_neg h,J7 N t hN (by omega),Af]
   by_cases he:Sp.err t=0
   ·have hr:CP t=(CV t,Sp.rest t,0):=by unfold CP;rw[if_pos he]
    have hlt:=Sp.P7 t he
    rw[hr,if_neg (by simp [he])]
    show Vm.chk (decide ((a.length+1)*41<=140737488355328)) (k (Sp.rest t,a++[CV t]))=_
    rw[AcA,if_pos (by omega),hk (Sp.rest t,a++[CV t]) (by simp;omega) hlt]
    exact congrArg some (gG _ _ _ _ (by show(Sp.rest t).length<(Sp.rest t).length+1;omega) hlt)
   ·have hr:CP t=((0,[],[]),[],Sp.err t):=by unfold CP;rw[if_neg he]
    rw[hr,if_pos he]
    show(bif Sp.err t != 0 then some (([]:List El),Sp.err t)else _)=_
    rw[show(Sp.err t != 0)=true by simp [he]];rfl
def BB (l:List El) (t:Int):El×Bool×List El:=match l with
  | []=>((0,[],[]),false,[])
  | e::r=>if e.1=t then(e,true,r)else((0,[],[]),false,e::r)
theorem Aaf {e:El} {r:List El} {t:Int} (h:e.1=t):BB (e::r) t=(e,true,r):=by
  show(if e.1=t then(e,true,r)else((0,[],[]),false,e::r))=_
  rw[if_pos h]
theorem Aae {e:El} {r:List El} {t:Int} (h: ¬ e.1=t):BB (e::r) t=((0,[],[]),false,e::r):=by
  show(if e.1=t then(e,true,r)else((0,[],[]),false,e::r))=_
  rw[if_neg h]
theorem sG (N:Nat) (l:List El) (t:Int):DK N l t=some (BB l t):=by
  cases l with
  | nil=>rfl
  | cons e r =>
    have h0:(((e::r).length:Int)==(0:Int))=false:=by simp;omega
    have h1:decide ((0:Int)<((e::r).length:Int))=true:=decide_eq_true (by simp only[List.length_cons];omega)
    have h2:decide ((1:Int)<=((e::r).length:Int))=true:=decide_eq_true (by simp only[List.length_cons];omega)
    unfold DK
    rw[h0,h1,h2]
    show(bif (e.1 != t)then some (((0,[],[]):El),false,e::r)else some (e,true,AV (e::r) 1 (e::r).length))=some (if e.1=t then(e,true,r)else((0,[],[]),false,e::r))
    have hc:AV (e::r) 1 (e::r).length=r:=by
      show((e::r).take (e::r).length).drop 1=r
      rw[List.take_length];rfl
    rw[hc]
    by_cases h:e.1=t
    ·rw[if_pos h,show(e.1 != t)=false by simp [h]];rfl
    ·rw[if_neg h,show(e.1 != t)=true by simp [h]];rfl
def At (es:List El) (l:List El) (x:List El×Int):Prop:= ∃ i:Nat,x=(es,(i:Int))/\i<=es.length/\es.drop i=l
theorem Acv (N:Nat) (es l:List El) (x:List El×Int) (hx:At es l x) (hl:es.length<=1099511627776) (t:Int) :
    ∃ y,Fj N x t=some ((BB l t).1,(BB l t).2.1,y)/\At es (BB l t).2.2 y:=by
  obtain⟨i,rfl,hi,hd⟩:=hx
  unfold Fj
  by_cases h:i=es.length
  ·have hl0:l=[]:=by rw[<- hd,h,List.drop_length]
   subst hl0
   have h0:decide ((i:Int)>=(es.length:Int))=true:=decide_eq_true (by omega)
   have h1:decide ((0:Int)<=(i:Int))=true:=decide_eq_true (by omega)
   have h2:decide ((i:Int)<(es.length:Int))=false:=decide_eq_false (by omega)
   dsimp only
   rw[h0,h1,h2]
   exact⟨(es,(i:Int)),rfl,i,rfl,hi,hd⟩
  ·have h0:decide ((i:Int)>=(es.length:Int))=false:=decide_eq_false (by omega)
   have h1:decide ((0:Int)<=(i:Int))=true:=decide_eq_true (by omega)
   have h2:decide ((i:Int)<(es.length:Int))=true:=decide_eq_true (by omega)
   have hg:es.drop i=es.getD i (0,[],[])::es.drop (i+1):=by
     rw[List.drop_eq_getElem_cons (by omega)];congr 1
     simp [List.getD_eq_getElem?_getD,show i<es.length by omega]
   dsimp only
   rw[h0,h1,h2,w64 (x:=(i:Int)+1) (by omega) (by omega),w64 (x:=(i:Int)+1 - 1) (by omega) (by omega),show(i:Int)+1 - 1=(i:Int) by omega,h1,h2]
   rw[<- hd,hg]
   show ∃ y,(bif ((es.getD (i:Int).toNat (0,[],[])).1 != t)then some (((0,[],[]):El),false,(es,(i:Int)))else some (es.getD (i:Int).toNat (0,[],[]),true,(es,(i:Int)+1)))=some (_,_,y)/\_
   rw[show(i:Int).toNat=i from rfl]
   by_cases he:(es.getD i (0,[],[])).1=t
   ·rw[Aaf he,show((es.getD i (0,[],[])).1 != t)=false by rw[he];simp]
    exact⟨(es,(i:Int)+1),rfl,i+1,rfl,by omega,rfl⟩
   ·rw[Aae he,show((es.getD i (0,[],[])).1 != t)=true from bne_iff_ne.2 he]
    exact⟨(es,(i:Int)),rfl,i,rfl,hi,hg⟩
theorem Af6 (N:Nat) (l:List El):BF N l=some (if l=[]then 0 else 4,l):=by
  cases l with
  | nil=>rfl
  | cons e r =>
    unfold BF
    rw[sV,if_pos (by simp only[List.length_cons];omega),if_neg (by simp)]
theorem Agk (N:Nat) (es l:List El) (x:List El×Int) (hx:At es l x):Dh N x=some (if l=[]then 0 else 4,x):=by
  obtain⟨i,rfl,hi,rfl⟩:=hx
  unfold Dh
  rw[sV]
  by_cases h:i=es.length
  ·rw[if_neg (by show ¬((i:Int)<(es.length:Int));omega),if_pos (by rw[h,List.drop_length])]
  ·rw[if_pos (by show((i:Int)<(es.length:Int));omega),if_neg (by rw[List.drop_eq_nil_iff];omega)]
theorem Qa {M:Nat} {l:List El} (h:Good M l) (t:Int):Good M (BB l t).2.2/\((BB l t).2.1=true->KA M (BB l t).1):=by
  cases l with
  | nil=>exact⟨h,fun h=>by cases h⟩
  | cons e r =>
    by_cases he:e.1=t
    ·rw[Aaf he];exact⟨h.tail,fun _=>h.all e List.mem_cons_self⟩
    ·rw[Aae he];exact⟨h,fun h=>by cases h⟩
theorem yO (s:Bs):(Ig s).1.2.1.length<=s.length/\(Ig s).1.2.2.length<=s.length:=by
  unfold Ig
  split
  ·rename_i h
   have he:=(QR h).1
   have:=Sp.FN s he
   have hr:=Sp.iP s he
   have:=Sp.Y6 s he
   show(Sp.content s).length<=_/\(Sp.raw s).length<=_
   omega
  ·simp
abbrev Att:Type:=Bs×Int×Bs
abbrev Gn:Type:=Int×Bs×List (List Att)
abbrev Pt:Type:=List Gn×Int×Bool×List (List Att)
abbrev St2:Type:=List Gn×List Gn
theorem len0 {α :Type} (l:List α):(((l.length:Nat):Int)==0)=l.isEmpty:=by
  cases l with
  | nil=>rfl
  | cons a r=>exact beq_false_of_ne (by rw[List.length_cons];omega)
theorem Ur (n k:Nat):decide ((n:Int)>(k:Int))=decide (k<n):=by congr 1;apply propext;omega
def P8 (l:List Gn):Prop:=l=[]
def NC (_:List Gn) (_:Bool):Int:=0
theorem Ab0 {N:Nat} (hN:1048578<N): ∃ M,N=M+4:=⟨N - 4,by omega⟩
theorem Sv (N:Nat) (l:List Gn) (hN:1048578<N) (_:l.length<=1048576) (hs:P8 l):I5 N l=some (NC l false):=by
  obtain⟨M,rfl⟩:=Ab0 hN
  rw[show l=[]from hs];rfl
theorem Wv (N:Nat) (l:List Gn) (hN:1048578<N) (hs:P8 l):Hr N l=some (bif decide (16<l.length)then 2 else NC l false):=by
  obtain⟨M,rfl⟩:=Ab0 hN
  rw[show l=[]from hs];rfl
def TQ (_:Pt):Prop:=False
def ptI (_:Pt):Int:=0
theorem Ab2 {l:List Pt} (h: ∀ p∈l,TQ p):l=[]:=by
  cases l with
  | nil=>rfl
  | cons p r=>exact(h p List.mem_cons_self).elim
theorem Jq (N:Nat) (l:List Pt) (hN:1048578<N) (hs: ∀ p∈l,TQ p):Dx N l=some (bif decide (4<l.length)then 2 else BD ptI l):=by
  obtain⟨M,rfl⟩:=Ab0 hN
  rw[Ab2 hs];rfl
theorem KY (N:Nat) (l:List Pt) (hN:1048578<N) (hs: ∀ p∈l,TQ p):Ef N l=some (bif decide (4<l.length)then 2 else BD ptI l):=by
  obtain⟨M,rfl⟩:=Ab0 hN
  rw[Ab2 hs];rfl
def AhC (_:St2):Int:=0
