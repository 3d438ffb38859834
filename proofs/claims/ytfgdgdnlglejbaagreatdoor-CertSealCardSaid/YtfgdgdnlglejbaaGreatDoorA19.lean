import Derived.Test.YtfgdgdnlglejbaaGreatDoorA11
import Derived.Test.YtfgdgdnlglejbaaGreatDoorA18
import Derived.Sort.Walk0
set_option linter.all false
namespace Go.Proofs.YtfgdgdnlglejbaaGreatDoor.Pl
open IntKind (i64)
open Go Vm
def Gt (l:Bs):Int×Bs×Bs:=((Sp.tag l:Int),Sp.content l,Sp.raw l)
def Hl (l:Bs):(Int×Bs×Bs)×Bs×Int:=if Sp.err l=0 then(Gt l,Sp.rest l,0)else((0,[],[]),[],Sp.err l)
theorem Alj {s:Bs} {p n:Nat} (hh:Sp.head s=(0,p,n)) (hp:p<=s.length):(if((s.length:Int) - p<n)then(some ((0,([]:Bs),([]:Bs)),([]:Bs),3):Option ((Int×Bs×Bs)×Bs×Int))else some ((((s.getD 0 0).toNat:Int),D9 s p (p+n),D9 s 0 (p+n)),D9 s (p+n) s.length,0))=some (Hl s):=by
 have e1: ∀ a b,(D9 s a b)=(s.take b).drop a:=fun a b=>rfl;by_cases h:(s.length:Int) - p<n
 ·rw[if_pos h];have:Sp.rd s=(3,0,0):=by unfold Sp.rd;rw[hh,if_pos ⟨rfl,by show s.length - p<n;omega⟩]
  unfold Hl Sp.err;rw[this];rfl
 ·rw[if_neg h];have hr:Sp.rd s=(0,p,n):=by unfold Sp.rd;rw[hh,if_neg (by intro hc;have:=hc.2;simp at this;omega)]
  have he:Sp.err s=0:=by unfold Sp.err;rw[hr]
  unfold Hl;rw[if_pos he];unfold Gt Sp.content Sp.raw Sp.rest;rw[hr,e1,e1,e1];congr 1;refine Prod.ext (Prod.ext ?_ (Prod.ext ?_ ?_)) (Prod.ext ?_ rfl)
  ·show((s.getD 0 0).toNat:Int)=((Sp.tag s:Nat):Int);unfold Sp.tag;cases s<;>rfl
  ·show(s.take (p+n)).drop p=(s.drop p).take n;rw[List.drop_take];congr 1;omega
  ·show(s.take (p+n)).drop 0=_;rw[List.drop_zero]
  ·show(s.take s.length).drop (p+n)=_;rw[List.take_length]
theorem take_snoc {α :Type} {l:List α} {i:Nat} (h:i<l.length):l.take (i+1)=l.take i++[l[i]]:=by rw[List.take_add_one,List.getElem?_eq_getElem h];rfl
theorem Aeu {l:Bs} {i:Nat} (h:i<l.length):Sp.beNat (l.take (i+1))=Sp.beNat (l.take i)*256+(l[i]).toNat:=by rw[take_snoc h,Sp.AnB]
theorem Acl {l:Bs} (i:Nat) (hl:l.length<=3):Sp.beNat (l.take i)<16777216:=by
 have h1:=Sp.Arx (l.take i);have h2:256 ^ (l.take i).length<=256 ^ 3:=Nat.pow_le_pow_right (by omega) (by rw[List.length_take];omega);have:(256:Nat) ^ 3=16777216:=by decide
 omega
theorem ApS {ρ :Type} (N:Nat) (l:Bs) (hl:l.length<=3) (hN:4<N) (kx:Int->Option ρ) :
 D5 (X:=Int×Int×List Int) (Y:=Int) (U3 fun t7b t52b l45568b k2 x3 =>
  if t52b<((List.map (fun(b:UInt8)=>((b.toNat:Int))) l).length:Int)then if(0:Int)<=t52b then if t52b<(l45568b.length:Int)then if t52b.toNat<l45568b.length then
   k2 (DX .or .i64 (i64.wrap (t7b*(256))) (i64.wrap (l45568b.getD t52b.toNat 0)),i64.wrap (t52b+(1:Int)),l45568b)else none else none else none
  else x3 t7b) N (0,0,List.map (fun(b:UInt8)=>((b.toNat:Int))) l) kx=kx (Sp.beNat l):=by
 refine PH (fun x=> ∃ i,i<=l.length/\x=((Sp.beNat (l.take i):Int),(i:Int),List.map (fun(b:UInt8)=>((b.toNat:Int))) l)) (fun x=>l.length - x.2.1.toNat) (fun _=>kx (Sp.beNat l)) ?_ N _ ⟨0,by omega,rfl⟩ (by show l.length - 0<N;omega);rintro x ⟨i,hi,rfl⟩ k hk;show(if(i:Int)<_ then _ else _)=_;rw[List.length_map];by_cases h:i<l.length
 ·dsimp only;rw[if_pos (by omega),if_pos (by omega),if_pos (by omega),Int.toNat_natCast,if_pos h];have hb:=(l[i]).toNat_lt;have hs:=Acl (l:=l) i hl;rw[show(List.map (fun(b:UInt8)=>((b.toNat:Int))) l).getD i 0=((l[i].toNat:Nat):Int) by simp [List.getD_eq_getElem?_getD,h]];rw[w64 (x:=((Sp.beNat (l.take i):Nat):Int)*256) (by omega) (by omega),w64 (x:=((l[i].toNat:Nat):Int)) (by omega) (by omega),w64 (x:=(i:Int)+1) (by omega) (by omega)];rw[show((Sp.beNat (l.take i):Nat):Int)*256=((Sp.beNat (l.take i)*256:Nat):Int) by omega,or8 _ _ (by omega) hb,<- Aeu h];exact hk _ ⟨i+1,h,rfl⟩ (by show l.length - ((i:Int)+1).toNat<l.length - (i:Int).toNat;omega)
 ·rw[if_neg (by omega)];rw[List.take_of_length_le (by omega)]
theorem ArU (N:Nat) (k:Nat) (h1:1<=k) (h3:k<=3):Abm N (k:Int)=some (Sp.leastOf k:Int):=by
 have:k=1\/k=2\/k=3:=by omega
 rcases this with rfl | rfl | rfl<;>rfl
set_option maxRecDepth 4000
theorem AcQ (N:Nat) (s:Bs) (hN:4<N) (hs:s.length<=1099511627776):SE N s=some (Hl s):=by
 unfold SE;try simp -zeta only[Ap]
 cases s with
 | nil=>rfl
 | cons a r =>
  have ha:=a.toNat_lt;have h0:((a::r:Bs)==([]:Bs))=false:=rfl;simp only[h0,cond_false,List.getD_cons_zero,List.length_cons,Ae7,Abr,Abs,Aev];simp only[AmS,NZ,beq_iff_eq,decide_eq_true_eq,Bool.or_eq_true,Bool.and_eq_true];rw[w64 (by omega) (by omega),AsN _ ha];by_cases h31:a.toNat % 32=31
  ·have:Sp.err (a::r)=5:=by simp [Sp.err,Sp.rd,Sp.head,h31]
   unfold Hl;rw[this,if_pos (by omega),if_pos (by omega)];rfl
  ·rw[if_pos (by omega),if_neg (by omega)];cases r with
   | nil =>
    have:Sp.err [a]=3:=by simp [Sp.err,Sp.rd,Sp.head,h31]
    unfold Hl;rw[this,if_pos (by simp)];rfl
   | cons b c =>
    have hb:=b.toNat_lt;simp only[List.length_cons]at hs;simp only[List.getD_cons_succ,List.getD_cons_zero,List.length_cons];rw[w64 (x:=((b.toNat:Nat):Int)) (by omega) (by omega),if_neg (by omega),if_pos (by omega)];by_cases h6:b.toNat=128\/131<b.toNat
    ·have:Sp.err (a::b::c)=6:=by simp [Sp.err,Sp.rd,Sp.head,h31,h6,show ¬ b.toNat<128 by omega]
     unfold Hl;rw[this,if_pos (by omega)];rfl
    ·rw[if_neg (by omega),YM]
     have hend: ∀ p n:Nat,Sp.head (a::b::c)=(0,p,n)->p<=c.length+2->n<=131072->(if i64.wrap (((c.length+1+1:Nat):Int) - (p:Int))<(n:Int)then some ((0,([]:Bs),([]:Bs)),([]:Bs),3)
      else if(0:Int)<=(p:Int)then if(p:Int)<=i64.wrap ((p:Int)+(n:Int))then if i64.wrap ((p:Int)+(n:Int))<=((c.length+1+1:Nat):Int)then if(0:Int)<=i64.wrap ((p:Int)+(n:Int))then
       if i64.wrap ((p:Int)+(n:Int))<=((c.length+1+1:Nat):Int)then if(0:Int)<=i64.wrap ((p:Int)+(n:Int))then if i64.wrap ((p:Int)+(n:Int))<=((c.length+1+1:Nat):Int)then
       some ((((a.toNat:Nat):Int),D9 (a::b::c) (p:Int).toNat (i64.wrap ((p:Int)+(n:Int))).toNat,D9 (a::b::c) 0 (i64.wrap ((p:Int)+(n:Int))).toNat),D9 (a::b::c) (i64.wrap ((p:Int)+(n:Int))).toNat (c.length+1+1),0)
       else none else none else none else none else none else none else none:Option ((Int×Bs×Bs)×Bs×Int))=some (Hl (a::b::c)):=by
      intro p n hh hp hn;have:=Alj (s:=a::b::c) hh (by simp;omega);rw[w64 (x:=((c.length+1+1:Nat):Int) - (p:Int)) (by omega) (by omega),w64 (x:=(p:Int)+(n:Int)) (by omega) (by omega)];rw[<- this];show(if((c.length+1+1:Nat):Int) - (p:Int)<(n:Int)then _ else _)=(if((c.length+1+1:Nat):Int) - (p:Int)<(n:Int)then _ else _);by_cases hlt:((c.length+1+1:Nat):Int) - (p:Int)<(n:Int)
      ·rw[if_pos hlt,if_pos hlt]
      ·rw[if_neg hlt,if_neg hlt,if_pos (by omega),if_pos (by omega),if_pos (by omega),if_pos (by omega),if_pos (by omega),if_pos (by omega),if_pos (by omega)];rw[show((p:Int)+(n:Int)).toNat=p+n by omega,Int.toNat_natCast];rfl
     by_cases h128:b.toNat<128
     ·rw[if_neg (by omega)];exact hend 2 b.toNat (by simp [Sp.head,h31,h128]) (by omega) (by omega)
     ·rw[if_pos (by omega)];obtain⟨k,hk⟩: ∃ k:Nat,b.toNat=128+k:=⟨b.toNat - 128,by omega⟩
      rw[w64 (x:=((b.toNat:Nat):Int) - 128) (by omega) (by omega),show((b.toNat:Nat):Int) - 128=(k:Int) by omega,w64 (x:=2+(k:Int)) (by omega) (by omega)];by_cases hlen:c.length<k
      ·rw[if_pos (by omega)];have:Sp.err (a::b::c)=3:=by simp [Sp.err,Sp.rd,Sp.head,h31,h128,h6,show b.toNat - 128=k by omega,hlen]
       unfold Hl;rw[this];rfl
      ·have hcut:D9 (a::b::c) 2 ((2+(k:Int)).toNat)=c.take k:=by
        rw[show(2+(k:Int)).toNat=k+2 by omega];rfl
       have hlk:(c.take k).length=k:=by rw[List.length_take];omega
       rw[if_neg (by omega),if_pos (by omega),if_pos (by omega),hcut,if_pos (by omega)];rw[ApS N (c.take k) (by omega) hN,ArU N k (by omega) (by omega),Dz];by_cases hbad:Sp.beNat (c.take k)<Sp.leastOf k\/131072<Sp.beNat (c.take k)
       ·have:Sp.err (a::b::c)=6:=by simp [Sp.err,Sp.rd,Sp.head,h31,h128,h6,show b.toNat - 128=k by omega,hlen,hbad]
        unfold Hl;rw[if_pos (by omega),this];rfl
       ·rw[if_neg (by omega)];have:=hend (2+k) (Sp.beNat (c.take k)) (by simp [Sp.head,h31,h128,h6,show b.toNat - 128=k by omega,hlen,hbad]) (by omega) (by omega);rw[show(((2+k:Nat)):Int)=2+(k:Int) by omega]at this;exact this
theorem Akk {ρ :Type} (N:Nat) (s:Bs) (k:Nat) (hk:k<=3) (hl:k+2<=s.length) (hs:s.length<=1099511627776) (hN:4<N) (kx:Int->Option ρ) :
 D5 (X:=Int×Int) (Y:=Int) (U2 fun t6b t9b k2 x3 =>
  if t9b<(k:Int)then if(0:Int)<=i64.wrap ((2:Int)+t9b)then if i64.wrap ((2:Int)+t9b)<(s.length:Int)then
   k2 (i64.wrap ((i64.wrap ((256:Int)*t6b))+i64.wrap ((s.getD ((i64.wrap ((2:Int)+t9b)).toNat) 0).toNat:Int)),i64.wrap (t9b+(1:Int)))else none else none
  else x3 t6b) N (0,0) kx=kx (Sp.beNat ((s.drop 2).take k)):=by
 have hlen:((s.drop 2).take k).length=k:=by rw[List.length_take,List.length_drop];omega
 generalize hL:(s.drop 2).take k=l at hlen;refine PH (fun x=> ∃ i,i<=k/\x=((Sp.beNat (l.take i):Int),(i:Int))) (fun x=>k - x.2.toNat) (fun _=>kx (Sp.beNat l)) ?_ N _ ⟨0,by omega,rfl⟩ (by show k - 0<N;omega);rintro x ⟨i,hi,rfl⟩ kk hkk;show(if(i:Int)<_ then _ else _)=_;by_cases h:i<k
 ·have hb:=(l[i]'(by omega)).toNat_lt;have hs':=Acl (l:=l) i (by omega);dsimp only;rw[if_pos (by omega),w64 (x:=2+(i:Int)) (by omega) (by omega),if_pos (by omega),if_pos (by omega),show(2+(i:Int)).toNat=i+2 by omega]
  have e:s.getD (i+2) 0=l[i]'(by omega):=by
   have:l[i]? =s[i+2]? :=by rw[<- hL,List.getElem?_take,if_pos h,List.getElem?_drop,Nat.add_comm]
   rw[List.getD_eq_getElem?_getD,<- this,List.getElem?_eq_getElem (by omega)];rfl
  rw[e,w64 (x:=256*((Sp.beNat (l.take i):Nat):Int)) (by omega) (by omega),w64 (x:=(((l[i]'(by omega)).toNat:Nat):Int)) (by omega) (by omega),w64 (x:=(i:Int)+1) (by omega) (by omega),w64 (by omega) (by omega)];have:=Aeu (l:=l) (i:=i) (by omega);rw[show 256*((Sp.beNat (l.take i):Nat):Int)+(((l[i]'(by omega)).toNat:Nat):Int)=((Sp.beNat (l.take (i+1)):Nat):Int) by omega];exact hkk _ ⟨i+1,h,rfl⟩ (by show k - ((i:Int)+1).toNat<k - (i:Int).toNat;omega)
 ·rw[if_neg (by omega),List.take_of_length_le (by omega)]
theorem Aqx (k:Nat) (h1:1<=k) (h3:k<=3):(([0,128,256,65536]:List Int).getD k 0)=(Sp.leastOf k:Int):=by
 have:k=1\/k=2\/k=3:=by omega
 rcases this with rfl | rfl | rfl<;>rfl
theorem XE (N:Nat) (s:Bs) (hN:4<N) (hs:s.length<=1099511627776):U1 N s=some (Hl s):=by
 unfold U1;try simp -zeta only[Ap]
 cases s with
 | nil=>rfl
 | cons a r =>
  have ha:=a.toNat_lt;simp only[List.getD_cons_zero,List.length_cons,Ae7,Abr,Abs,Aev];simp only[AmS,NZ,beq_iff_eq,decide_eq_true_eq,Bool.or_eq_true,Bool.and_eq_true];rw[if_neg (by omega),if_pos (by omega)];have ht:((a.toNat:Nat):Int).tmod 32=((a.toNat % 32:Nat):Int):=by rw[Int.tmod_eq_emod_of_nonneg (by omega)];omega
  rw[ht];by_cases h31:a.toNat % 32=31
  ·have:Sp.err (a::r)=5:=by simp [Sp.err,Sp.rd,Sp.head,h31]
   unfold Hl;rw[this,if_pos (by omega)];rfl
  ·rw[if_neg (by omega)];cases r with
   | nil =>
    have:Sp.err [a]=3:=by simp [Sp.err,Sp.rd,Sp.head,h31]
    unfold Hl;rw[this];rfl
   | cons b c =>
    have hb:=b.toNat_lt;simp only[List.length_cons]at hs;simp only[List.getD_cons_succ,List.getD_cons_zero,List.length_cons];rw[w64 (x:=((b.toNat:Nat):Int)) (by omega) (by omega),if_neg (by omega),if_pos (by omega)];by_cases h6:b.toNat=128\/131<b.toNat
    ·have:Sp.err (a::b::c)=6:=by simp [Sp.err,Sp.rd,Sp.head,h31,h6,show ¬ b.toNat<128 by omega]
     unfold Hl;rw[this,if_pos (by omega)];rfl
    ·rw[if_neg (by omega),YM]
     have hend: ∀ p n:Nat,Sp.head (a::b::c)=(0,p,n)->p<=c.length+2->n<=131072->(if i64.wrap (((c.length+1+1:Nat):Int) - (p:Int))<(n:Int)then some ((0,([]:Bs),([]:Bs)),([]:Bs),3)
      else if(0:Int)<((c.length+1+1:Nat):Int)then if(0:Int)<=(p:Int)then if(p:Int)<=i64.wrap ((p:Int)+(n:Int))then if i64.wrap ((p:Int)+(n:Int))<=((c.length+1+1:Nat):Int)then if(0:Int)<=i64.wrap ((p:Int)+(n:Int))then
       if i64.wrap ((p:Int)+(n:Int))<=((c.length+1+1:Nat):Int)then if(0:Int)<=i64.wrap ((p:Int)+(n:Int))then if i64.wrap ((p:Int)+(n:Int))<=((c.length+1+1:Nat):Int)then
       some ((i64.wrap ((a.toNat:Nat):Int),D9 (a::b::c) (p:Int).toNat (i64.wrap ((p:Int)+(n:Int))).toNat,D9 (a::b::c) 0 (i64.wrap ((p:Int)+(n:Int))).toNat),D9 (a::b::c) (i64.wrap ((p:Int)+(n:Int))).toNat (c.length+1+1),0)
       else none else none else none else none else none else none else none else none:Option ((Int×Bs×Bs)×Bs×Int))=some (Hl (a::b::c)):=by
      intro p n hh hp hn;have:=Alj (s:=a::b::c) hh (by simp;omega);rw[w64 (x:=((c.length+1+1:Nat):Int) - (p:Int)) (by omega) (by omega),w64 (x:=(p:Int)+(n:Int)) (by omega) (by omega),w64 (x:=((a.toNat:Nat):Int)) (by omega) (by omega)];rw[<- this];show(if((c.length+1+1:Nat):Int) - (p:Int)<(n:Int)then _ else _)=(if((c.length+1+1:Nat):Int) - (p:Int)<(n:Int)then _ else _);by_cases hlt:((c.length+1+1:Nat):Int) - (p:Int)<(n:Int)
      ·rw[if_pos hlt,if_pos hlt]
      ·rw[if_neg hlt,if_neg hlt,if_pos (by omega),if_pos (by omega),if_pos (by omega),if_pos (by omega),if_pos (by omega),if_pos (by omega),if_pos (by omega),if_pos (by omega)];rw[show((p:Int)+(n:Int)).toNat=p+n by omega,Int.toNat_natCast];rfl
     by_cases h128:b.toNat<128
     ·rw[if_neg (by omega)];exact hend 2 b.toNat (by simp [Sp.head,h31,h128]) (by omega) (by omega)
     ·rw[if_pos (by omega)];obtain⟨k,hk⟩: ∃ k:Nat,b.toNat=128+k:=⟨b.toNat - 128,by omega⟩
      rw[w64 (x:=((b.toNat:Nat):Int) - 128) (by omega) (by omega),show((b.toNat:Nat):Int) - 128=(k:Int) by omega,w64 (x:=2+(k:Int)) (by omega) (by omega)];by_cases hlen:c.length<k
      ·rw[if_pos (by omega)];have:Sp.err (a::b::c)=3:=by simp [Sp.err,Sp.rd,Sp.head,h31,h128,h6,show b.toNat - 128=k by omega,hlen]
       unfold Hl;rw[this];rfl
      ·rw[if_neg (by omega)];have hd:=fun kx=>Akk (ρ :=(Int×Bs×Bs)×Bs×Int) N (a::b::c) k (by omega) (by simp;omega) (by simp;omega) hN kx;refine Eq.trans (hd _) ?_;show(if(0:Int)<=(k:Int)then _ else _)=_;have hdr:((a::b::c).drop 2).take k=c.take k:=rfl;rw[hdr,if_pos (by omega),if_pos (by omega),Int.toNat_natCast,if_pos (by omega),Aqx k (by omega) (by omega)];by_cases hbad:Sp.beNat (c.take k)<Sp.leastOf k\/131072<Sp.beNat (c.take k)
       ·have:Sp.err (a::b::c)=6:=by simp [Sp.err,Sp.rd,Sp.head,h31,h128,h6,show b.toNat - 128=k by omega,hlen,hbad]
        unfold Hl;rw[if_pos (by omega),this];rfl
       ·rw[if_neg (by omega)];have:=hend (2+k) (Sp.beNat (c.take k)) (by simp [Sp.head,h31,h128,h6,show b.toNat - 128=k by omega,hlen,hbad]) (by omega) (by omega);rw[show(((2+k:Nat)):Int)=2+(k:Int) by omega]at this;exact this
def XA (s:Bs):(Int×Bs×Bs)×Int:=if Sp.NV s=0 then(Gt s,0)else((0,[],[]),Sp.NV s)
theorem Ais {s:Bs} (h:Sp.NV s=0):Sp.err s=0/\Sp.rest s=[]:=by
 unfold Sp.NV at h;by_cases he:Sp.err s=0
 ·rw[if_neg (by simp [he])]at h;by_cases hr:Sp.rest s=[]
  ·exact⟨he,hr⟩
  ·rw[if_neg hr]at h;cases h
 ·rw[if_pos he]at h;exact absurd h he
theorem Agi (N:Nat) (s:Bs) (hN:4<N) (hs:s.length<=1099511627776):Qx N s=some (XA s):=by
 unfold Qx;rw[AcQ N s hN hs,Dz];unfold Hl XA Sp.NV;by_cases he:Sp.err s=0
 ·rw[if_pos he];by_cases hr:Sp.rest s=[]
  ·simp [he,hr,NZ]
  ·simp [he,hr,NZ]
 ·rw[if_neg he];simp [he,NZ]
theorem Aa8 (N:Nat) (s:Bs) (hN:4<N) (hs:s.length<=1099511627776):Xd N s=some (XA s):=by
 unfold Xd;rw[XE N s hN hs,Dz];unfold Hl XA Sp.NV;by_cases he:Sp.err s=0
 ·rw[if_pos he];by_cases hr:Sp.rest s=[]
  ·simp [he,hr]
  ·have:0<(Sp.rest s).length:=by cases h:Sp.rest s with | nil=>exact absurd h hr | cons _ _=>simp
   simp [he,hr,this,NZ]
 ·rw[if_neg he];simp [he,NZ]
theorem Al5 (s:Bs):Sp.tag s<256:=UInt8.toNat_lt _
def Ub (e:Int×Bs×Bs) (d:Nat):Int:=if e.1 / 32 % 2=1 then Sp.within (e.2.1.length+1) d e.2.1 else 0
theorem Uc: ∀(f g d:Nat) (l:Bs),l.length<f->l.length<g->Sp.within f d l=Sp.within g d l:=by
 intro f
 induction f with
 | zero=>intro g d l h;omega
 | succ f ih =>
  intro g d l hf hg;cases g with
  | zero=>omega
  | succ g =>
   show(if l=[]then _ else _)=if l=[]then _ else _;by_cases hl:l=[]
   ·rw[if_pos hl,if_pos hl]
   ·rw[if_neg hl,if_neg hl];by_cases he:Sp.err l=0
    ·have h1:=Sp.TS l he;have h2:=Sp.Ab7 l he;rw[ih g (d+1) (Sp.content l) (by omega) (by omega),ih g d (Sp.rest l) (by omega) (by omega)]
    ·rw[if_pos he,if_pos he]
theorem AcU {B:Bs->(Bs->Option Int)->(Unit->Option Int)->Option Int} {kx:Unit->Option Int} (d L:Nat)
 (hB: ∀ x k,x≠ []->x.length<=L->B x k kx=if Sp.err x≠0 then some (Sp.err x)else if 16<=d then some 8 else if Ub (Gt x) (d+1)≠0 then some (Ub (Gt x) (d+1))else k (Sp.rest x))
 (hend: ∀ k,B [] k kx=some 0) (N:Nat) (x:Bs) (hx:x.length<=L) (hN:x.length<N):D5 B N x kx=some (Sp.within (x.length+1) d x):=by
 refine PH (fun x=>x.length<=L) (fun x=>x.length) (fun x=>some (Sp.within (x.length+1) d x)) ?_ N x hx hN;intro x hx k hk;by_cases h0:x=[]
 ·subst h0;rw[hend];rfl
 ·rw[hB x k h0 hx];by_cases he:Sp.err x=0
  ·rw[if_neg (by simp [he])];by_cases hd:16<=d
   ·rw[if_pos hd,Sp.AmK _ _ _ h0 he hd]
   ·rw[if_neg hd];have h1:=Sp.TS x he;have h2:=Sp.Ab7 x he
    have hin:Ub (Gt x) (d+1)=Sp.inner x.length (d+1) (Sp.tag x) (Sp.content x):=by
     unfold Ub Sp.inner Sp.cons Gt;rw[Uc _ x.length (d+1) (Sp.content x) (Nat.lt_succ_self _) h1];have:(((Sp.tag x:Nat):Int) / 32 % 2=1)↔(Sp.tag x / 32 % 2=1):=by omega
     simp [this]
    rw[hin];by_cases hi:Sp.inner x.length (d+1) (Sp.tag x) (Sp.content x)=0
    ·rw[if_neg (by simp [hi]),hk _ (by show(Sp.rest x).length<=L;omega) h2,Sp.AcV _ _ _ h0 he hd hi];rw[Uc _ x.length d (Sp.rest x) (Nat.lt_succ_self _) h2]
    ·rw[if_pos hi,Sp.Apv _ _ _ h0 he hd hi]
  ·rw[if_pos he,Sp.Apw _ _ _ h0 he]
theorem Ar6 (N:Nat) (hN:4<N): ∀(m n:Nat),m<n-> ∀(e:Int×Bs×Bs) (d:Nat),d+1+m=16->0<=e.1->e.1<256->e.2.1.length<N->e.2.1.length<=1099511627776 ->
 LK N n e (d:Int)=some (Ub e (d+1)):=by
 intro m
 induction m with
 | zero =>
  intro n hn e d hd h0 h1 h2 h3;obtain⟨n,rfl⟩: ∃ k,n=k+1:=⟨n - 1,by omega⟩
  show Kv N (LK N n) e d=_;unfold Kv Ub;rw[Int.tdiv_eq_ediv_of_nonneg h0,w64 (by omega) (by omega),Int.tmod_eq_emod_of_nonneg (by omega)];by_cases hc:e.1 / 32 % 2=1
  ·rw[if_pos hc,hc];refine AcU (d+1) e.2.1.length (fun x k hx hl=> ?_) (fun k=>rfl) N _ (Nat.le_refl _) h2;have:0<x.length:=by cases x with | nil=>exact absurd rfl hx | cons _ _=>simp
   dsimp only;rw[XE N x hN (by omega),Dz];unfold Hl;simp only[NZ,bne_iff_ne,decide_eq_true_eq];rw[if_pos (by omega),w64 (by omega) (by omega)];by_cases he:Sp.err x=0
   ·rw[if_pos he];simp only[he,ne_eq,not_true_eq_false,if_false];rw[if_pos (by omega),if_pos (by omega)]
   ·rw[if_neg he];simp [he]
  ·rw[if_neg hc,show e.1 / 32 % 2=0 by omega];rfl
 | succ m ih =>
  intro n hn e d hd h0 h1 h2 h3;obtain⟨n,rfl⟩: ∃ k,n=k+1:=⟨n - 1,by omega⟩
  show Kv N (LK N n) e d=_;unfold Kv Ub;rw[Int.tdiv_eq_ediv_of_nonneg h0,w64 (by omega) (by omega),Int.tmod_eq_emod_of_nonneg (by omega)];by_cases hc:e.1 / 32 % 2=1
  ·rw[if_pos hc,hc];refine AcU (d+1) e.2.1.length (fun x k hx hl=> ?_) (fun k=>rfl) N _ (Nat.le_refl _) h2;have:0<x.length:=by cases x with | nil=>exact absurd rfl hx | cons _ _=>simp
   dsimp only;rw[XE N x hN (by omega),Dz];unfold Hl;simp only[NZ,bne_iff_ne,decide_eq_true_eq];rw[if_pos (by omega),w64 (by omega) (by omega)];by_cases he:Sp.err x=0
   ·rw[if_pos he];simp only[he,ne_eq,not_true_eq_false,if_false];have hcl:=Sp.TS x he;have htl:=Al5 x;rw[if_neg (by omega),if_neg (by omega),show(d:Int)+1=((d+1:Nat):Int) by omega,ih n (by omega) (Gt x) (d+1) (by omega) (by show(0:Int)<=((Sp.tag x:Nat):Int);omega) (by show((Sp.tag x:Nat):Int)<256;omega) (by show(Sp.content x).length<N;omega) (by show(Sp.content x).length<=_;omega),Dz]
   ·rw[if_neg he];simp [he]
  ·rw[if_neg hc,show e.1 / 32 % 2=0 by omega];rfl
theorem Aoy {s:Bs} (h:Sp.NV s=0):Ub (Gt s) 1=Sp.chk s:=by
 unfold Sp.chk;rw[if_neg (by simp [h])];unfold Ub Sp.inner Sp.cons Gt;have h1:=Sp.TS s (Ais h).1;rw[Uc _ (s.length+1) 1 (Sp.content s) (Nat.lt_succ_self _) (by omega)];have:(((Sp.tag s:Nat):Int) / 32 % 2=1)↔(Sp.tag s / 32 % 2=1):=by omega
 simp [this]
theorem Ahv (N:Nat) (s:Bs) (hN:16<N) (hs:s.length<=1099511627776) (hl:s.length<N):QY N s=some (Sp.chk s):=by
 unfold QY;rw[Aa8 N s (by omega) hs,Dz];unfold XA;by_cases h:Sp.NV s=0
 ·have h1:=Sp.TS s (Ais h).1;have h2:=Al5 s;rw[if_pos h,<- Aoy h];have:=Ar6 N (by omega) 15 N (by omega) (Gt s) 0 rfl (by show(0:Int)<=((Sp.tag s:Nat):Int);omega) (by show((Sp.tag s:Nat):Int)<256;omega) (by show(Sp.content s).length<N;omega) (by show(Sp.content s).length<=_;omega);show Dk (LK N N (Gt s) 0) _=_;rw[show(0:Int)=((0:Nat):Int)from rfl,this,Dz]
 ·rw[if_neg h];have:Sp.chk s=Sp.NV s:=by unfold Sp.chk;rw[if_pos h]
  simp [NZ,h,this]
end Go.Proofs.YtfgdgdnlglejbaaGreatDoor.Pl
namespace Go.Proofs.YtfgdgdnlglejbaaGreatDoor.Vm
open IntKind (i64)
theorem EY {ρ :Type} {c:Bool} (k:Option ρ) (h:c=true):chk c k=k:=by rw[h];rfl
theorem Atk (c:UInt8):c.toNat<256:=UInt8.toNat_lt c
theorem getD_lt {α :Type} (l:List α) (i:Nat) (d: α) (h:i<l.length):l.getD i d=l[i]:=by rw[List.getD_eq_getElem?_getD,List.getElem?_eq_getElem h];rfl
open Go
theorem AsT {a b:Int} {q:Decidable (a<b)} (h:a<b): @decide (a<b) q=true:= @decide_eq_true _ q h
theorem Aj4 {a b:Int} {q:Decidable (a<b)} (h:b<=a): @decide (a<b) q=false:= @decide_eq_false _ q (by omega)
theorem AsR {a b:Int} {q:Decidable (a<=b)} (h:a<=b): @decide (a<=b) q=true:= @decide_eq_true _ q h
theorem AvD {a b:Int} {q:Decidable (a<=b)} (h:b<a): @decide (a<=b) q=false:= @decide_eq_false _ q (by omega)
theorem AvB {a b:Int} {q:Decidable (a>b)} (h:b<a): @decide (a>b) q=true:= @decide_eq_true _ q h
theorem AvA {a b:Int} {q:Decidable (a>b)} (h:a<=b): @decide (a>b) q=false:= @decide_eq_false _ q (by omega)
theorem Av9 {a b:Int} {q:Decidable (a>=b)} (h:b<=a): @decide (a>=b) q=true:= @decide_eq_true _ q h
theorem Av8 {a b:Int} {q:Decidable (a>=b)} (h:a<b): @decide (a>=b) q=false:= @decide_eq_false _ q (by omega)
theorem Atc {a b:Nat} {q:Decidable (a<b)} (h:a<b): @decide (a<b) q=true:= @decide_eq_true _ q h
theorem AvI {a b:Nat} {q:Decidable (a<b)} (h:b<=a): @decide (a<b) q=false:= @decide_eq_false _ q (by omega)
theorem N7 {a b:Nat} {q:Decidable (a<=b)} (h:a<=b): @decide (a<=b) q=true:= @decide_eq_true _ q h
theorem AvH {a b:Nat} {q:Decidable (a<=b)} (h:b<a): @decide (a<=b) q=false:= @decide_eq_false _ q (by omega)
theorem ApA {a b:Int} (h:a=b):(a==b)=true:=by subst h;exact beq_self_eq_true _
theorem YR {a b:Int} (h:a≠b):(a==b)=false:=beq_false_of_ne h
theorem YS {a b:Int} (h:a≠b):(a != b)=true:=by unfold bne;rw[YR h];rfl
theorem Akb {a b:Int} (h:a=b):(a != b)=false:=by unfold bne;rw[ApA h];rfl
theorem toNat_add (a b:Nat):((a:Int)+(b:Int)).toNat=a+b:=by omega
theorem toNat_sub (a b:Nat):((a:Int) - (b:Int)).toNat=a - b:=by omega
theorem Apt (a:Nat):((a:Int)+1).toNat=a+1:=by omega
theorem Apu (a:Nat):((a:Int) - 1).toNat=a - 1:=by omega
theorem FX (a:Nat):((a:Int)+1)=((a+1:Nat):Int):=rfl
theorem getD_mem {α :Type} {l:List α} {i:Nat} (d: α) (h:i<l.length):l.getD i d∈l:=by rw[getD_lt l i d h];exact List.getElem_mem h
def Qi {R S ρ :Type} (x:R ⊕ S) (ret:R->Option ρ) (k:S->Option ρ):Option ρ :=match x with
 | .inl r=>ret r
 | .inr s=>k s
theorem Atx {R S ρ :Type} (r:R) (ret:R->Option ρ) (k:S->Option ρ):Qi (.inl r) ret k=ret r:=rfl
theorem AmU {R S ρ :Type} (s:S) (ret:R->Option ρ) (k:S->Option ρ):Qi (.inr s) ret k=k s:=rfl
theorem Py {R S ρ :Type} (b:Bool) (x y:R ⊕ S) (ret:R->Option ρ) (k:S->Option ρ):Qi (bif b then x else y) ret k=bif b then Qi x ret k else Qi y ret k:=by cases b<;>rfl
theorem ApO {R S ρ :Type} (b:Prop) [Decidable b] (x y:R ⊕ S) (ret:R->Option ρ) (k:S->Option ρ):Qi (if b then x else y) ret k=if b then Qi x ret k else Qi y ret k:=by split<;>rfl
def Qp {E R S:Type} (step:E->S->R ⊕ S):List E->S->R ⊕ S
 | [],s=>.inr s
 | e::r,s=>match step e s with
  | .inl x=>.inl x
  | .inr s'=>Qp step r s'
theorem Aq0 {E R S:Type} (step:E->S->R ⊕ S) (s:S):Qp step [] s= .inr s:=rfl
theorem Ue {E R S:Type} (step:E->S->R ⊕ S) (e:E) (l:List E) (s:S):Qp step (e::l) s=(step e s).elim Sum.inl (fun s'=>Qp step l s'):=by simp only[Qp];cases step e s<;>rfl
theorem fB {X Y S E R ρ :Type} {B:X->(X->Option ρ)->(Y->Option ρ)->Option ρ} {kx:Y->Option ρ} (mk:Nat->S->X) (l:List E) (d:E) (I:Nat->S->Prop) (step:E->S->R ⊕ S) (ret:R->Option ρ) (fin:S->Option ρ)
 (h: ∀(i:Nat) (s:S),i<l.length->I i s-> ∀ k,B (mk i s) k kx=Qi (step (l.getD i d) s) ret fun s'=>k (mk (i+1) s'))
 (hI: ∀(i:Nat) (s s':S),i<l.length->I i s->step (l.getD i d) s= .inr s'->I (i+1) s')
 (hend: ∀(s:S) (k:X->Option ρ),I l.length s->B (mk l.length s) k kx=fin s) (N:Nat) (s:S) (h0:I 0 s) (hN:l.length<N):D5 B N (mk 0 s) kx=Qi (Qp step l s) ret fin:=by
 have key: ∀(n i:Nat) (s:S),I i s->i<=l.length->l.length - i<n->D5 B n (mk i s) kx=Qi (Qp step (l.drop i) s) ret fin:=by
  intro n
  induction n with
  | zero=>intro i s _ _ h;omega
  | succ n ih =>
   intro i s hi hil hn;rw[MC];by_cases hl:i<l.length
   ·rw[h i s hl hi,List.drop_eq_getElem_cons hl];have hs:=hI i s;rw[show l.getD i d=l[i]from getD_lt l i d hl]at *
    rw[Ue];cases hst:step l[i] s with
    | inl x=>rfl
    | inr s'=>exact ih (i+1) _ (hs _ hl hi hst) (by omega) (by omega)
   ·have:i=l.length:=by omega
    subst this;rw[hend s _ hi,List.drop_length];rfl
 exact key N 0 s h0 (by omega) (by omega)
theorem AqP {X Y S E R ρ :Type} {B:X->(X->Option ρ)->(Y->Option ρ)->Option ρ} {kx:Y->Option ρ} (mk:Nat->S->X) (l:List E) (d:E) (step:E->S->R ⊕ S) (ret:R->Option ρ) (fin:S->Option ρ)
 (h: ∀(i:Nat) (s:S),i<l.length-> ∀ k,B (mk i s) k kx=Qi (step (l.getD i d) s) ret fun s'=>k (mk (i+1) s'))
 (hend: ∀(s:S) (k:X->Option ρ),B (mk l.length s) k kx=fin s) (N:Nat) (s:S) (hN:l.length<N):D5 B N (mk 0 s) kx=Qi (Qp step l s) ret fin :=
 fB mk l d (fun _ _=>True) step ret fin (fun i s hi _=>h i s hi) (fun _ _ _ _ _ _=>trivial) (fun s k _=>hend s k) N s trivial hN
theorem As2 {X Y E ρ :Type} {B:X->(X->Option ρ)->(Y->Option ρ)->Option ρ} {kx:Y->Option ρ} (mk:Nat->X) (out:Nat->Y) (l:List E) (d:E) (p:E->Bool)
 (h: ∀(i:Nat) (k:X->Option ρ),i<l.length->B (mk i) k kx=bif p (l.getD i d)then kx (out i)else k (mk (i+1)))
 (hend: ∀ k:X->Option ρ,B (mk l.length) k kx=kx (out l.length)) (N:Nat) (hN:l.length<N):D5 B N (mk 0) kx=kx (out (l.findIdx p)):=by
 have key: ∀(n i:Nat),i<=l.length->l.length - i<n->D5 B n (mk i) kx=kx (out (i+(l.drop i).findIdx p)):=by
  intro n
  induction n with
  | zero=>intro i _ h;omega
  | succ n ih =>
   intro i hi hn;rw[MC];by_cases hl:i<l.length
   ·rw[h i _ hl,List.drop_eq_getElem_cons hl,List.findIdx_cons,show l.getD i d=l[i]from getD_lt l i d hl];cases p l[i]with
    | true=>rfl
    | false =>rw[cond_false,cond_false,ih (i+1) (by omega) (by omega)];congr 2;omega
   ·have:i=l.length:=by omega
    subst this;rw[hend,List.drop_length];rfl
 have:=key N 0 (Nat.zero_le _) (by omega);rwa [Nat.zero_add,List.drop_zero]at this
theorem Amq {E:Type} (f:E->Int): ∀ l:List E,Qp (fun e (_:Unit)=>bif f e != 0 then .inl (f e)else .inr ()) l ()=bif Ha f l != 0 then .inl (Ha f l)else .inr ():=by
 intro l
 induction l with
 | nil=>rfl
 | cons e t ih =>
  rw[Ue];unfold Ha;by_cases h:f e=0
  ·rw[h,show((0:Int) != 0)=false from rfl];exact ih
  ·rw[if_pos h,show(f e != 0)=true from bne_iff_ne.2 h];rfl
theorem Asr {n i:Nat} (h:i<n):(List.range n).getD i 0=i:=by rw[getD_lt _ _ _ (by rw[List.length_range];exact h),List.getElem_range]
section
variable {X Y E ρ :Type} {B:X->(X->Option ρ)->(Y->Option ρ)->Option ρ} {kx:Y->Option ρ}
theorem Aqf (mk:Nat->X) (l:List E) (d:E) (f:E->Int) (ret:Int->Option ρ) (fin:Option ρ)
 (h: ∀ i,i<l.length-> ∀ k,B (mk i) k kx=bif f (l.getD i d) != 0 then ret (f (l.getD i d))else k (mk (i+1)))
 (hend: ∀ k,B (mk l.length) k kx=fin) (N:Nat) (hN:l.length<N):D5 B N (mk 0) kx=bif Ha f l != 0 then ret (Ha f l)else fin:=by
 refine Eq.trans (AqP (S:=Unit) (R:=Int) (mk:=fun i _=>mk i) l d (fun e _=>bif f e != 0 then .inl (f e)else .inr ()) ret (fun _=>fin) ?_ (fun _ k=>hend k) N () hN) ?_
 ·intro i _ hi k;rw[h i hi,Py];rfl
 ·rw[Amq,Py];rfl
theorem Aol (mk:Nat->X) (n:Nat) (f:Nat->Int) (ret:Int->Option ρ) (fin:Option ρ)
 (h: ∀ i,i<n-> ∀ k,B (mk i) k kx=bif f i != 0 then ret (f i)else k (mk (i+1)))
 (hend: ∀ k,B (mk n) k kx=fin) (N:Nat) (hN:n<N):D5 B N (mk 0) kx=bif Ha f (List.range n) != 0 then ret (Ha f (List.range n))else fin:=by
 refine Aqf mk (List.range n) 0 f ret fin ?_ ?_ N (by rw[List.length_range];exact hN)
 ·intro i hi k;rw[List.length_range]at hi;rw[Asr hi];exact h i hi k
 ·intro k;rw[List.length_range];exact hend k
end
theorem o8 {α :Type} (b:Bool) (x y: α):(bif b then some x else some y)=some (bif b then x else y):=by cases b<;>rfl
theorem iM {E:Type} (f:E->Int) (x:E) (r:List E):Ha f (x::r)=bif f x != 0 then f x else Ha f r:=by
 show(if f x≠0 then f x else Ha f r)=_;by_cases h:f x=0
 ·rw[if_neg (fun hn=>hn h),h];rfl
 ·rw[if_pos h,show(f x != 0)=true from bne_iff_ne.2 h];rfl
section
variable {X Y E A ρ :Type} {B:X->(X->Option ρ)->(Y->Option ρ)->Option ρ} {kx:Y->Option ρ}
theorem AoC (er:E->Int) (g:E->A): ∀(l:List E) (acc:List A),Qp (fun e (acc:List A)=>bif er e != 0 then Sum.inl (er e)else Sum.inr (acc++[g e])) l acc=bif Ha er l != 0 then .inl (Ha er l)else .inr (acc++l.map g):=by
 intro l
 induction l with
 | nil=>intro acc;rw[List.map_nil,List.append_nil];rfl
 | cons e r ih =>
  intro acc;rw[Ue,iM];cases h:er e != 0 with
  | true=>rw[cond_true,cond_true,h];rfl
  | false =>rw[cond_false,cond_false];show Qp _ r (acc++[g e])=_;rw[ih,List.append_assoc];rfl
theorem ArM (mk:Nat->List A->X) (l:List E) (d:E) (er:E->Int) (g:E->A) (ret:Int->Option ρ) (fin:List A->Option ρ)
 (h: ∀(i:Nat) (acc:List A),i<l.length->acc.length=i-> ∀ k,B (mk i acc) k kx=bif er (l.getD i d) != 0 then ret (er (l.getD i d))else k (mk (i+1) (acc++[g (l.getD i d)])))
 (hend: ∀(acc:List A) (k:X->Option ρ),acc.length=l.length->B (mk l.length acc) k kx=fin acc) (N:Nat) (hN:l.length<N):D5 B N (mk 0 []) kx=bif Ha er l != 0 then ret (Ha er l)else fin (l.map g):=by
 refine(fB (S:=List A) (R:=Int) mk l d (fun i acc=>acc.length=i) (fun e acc=>bif er e != 0 then .inl (er e)else .inr (acc++[g e])) ret fin ?_ ?_ (fun acc k ha=>hend acc k ha) N [] rfl hN).trans ?_
 ·intro i acc hi ha k;rw[h i acc hi ha,Py];rfl
 ·intro i acc acc' hi ha he;cases hb:er (l.getD i d) != 0 with
  | true=>rw[hb]at he;cases he
  | false =>rw[hb]at he;injection he with he;subst he;rw[List.length_append,ha];rfl
 ·rw[AoC,Py,List.nil_append];rfl
theorem Adz: ∀ l:List E,Ha (fun _=>(0:Int)) l=0:=by
 intro l
 induction l with
 | nil=>rfl
 | cons e r ih=>rw[iM];exact ih
theorem qI (mk:Nat->List A->X) (l:List E) (d:E) (g:E->A) (fin:List A->Option ρ)
 (h: ∀(i:Nat) (acc:List A),i<l.length->acc.length=i-> ∀ k,B (mk i acc) k kx=k (mk (i+1) (acc++[g (l.getD i d)])))
 (hend: ∀(acc:List A) (k:X->Option ρ),acc.length=l.length->B (mk l.length acc) k kx=fin acc) (N:Nat) (hN:l.length<N):D5 B N (mk 0 []) kx=fin (l.map g):=by
 refine(ArM mk l d (fun _=>0) g (fun _=>none) fin (fun i acc hi ha k=>h i acc hi ha k) hend N hN).trans ?_;rw[Adz];rfl
theorem AhY (g:E->Bs) (l:List E) (d:E) {i:Nat} (h:i<l.length):((l.take i).map g).flatten++g (l.getD i d)=((l.take (i+1)).map g).flatten:=by rw[getD_lt l i d h,List.take_add_one,List.getElem?_eq_getElem h,List.map_append,List.flatten_append];simp
theorem AtF (g:E->Bs) (l:List E) (i:Nat):((l.take i).map g).flatten.length<=(l.map g).flatten.length:=by
 conv=>rhs;rw[<- List.take_append_drop i l,List.map_append,List.flatten_append,List.length_append]
 omega
theorem Ar5 (mk:Nat->Bs->X) (l:List E) (d:E) (er:E->Int) (g:E->Bs) (ret:Int->Option ρ) (fin:Bs->Option ρ)
 (h: ∀(i:Nat) (t:Bs),i<l.length->t.length+(g (l.getD i d)).length<=(l.map g).flatten.length-> ∀ k,B (mk i t) k kx=bif er (l.getD i d) != 0 then ret (er (l.getD i d))else k (mk (i+1) (t++g (l.getD i d))))
 (hend: ∀(t:Bs) (k:X->Option ρ),B (mk l.length t) k kx=fin t) (N:Nat) (hN:l.length<N):D5 B N (mk 0 []) kx=bif Ha er l != 0 then ret (Ha er l)else fin (l.map g).flatten:=by
 refine(fB (S:=Bs) (R:=Int) mk l d (fun i t=>t=((l.take i).map g).flatten) (fun e t=>bif er e != 0 then .inl (er e)else .inr (t++g e)) ret fin ?_ ?_ (fun t k _=>hend t k) N [] rfl hN).trans ?_
 ·intro i t hi ht k;rw[h i t hi ?_,Py]
  ·rfl
  ·rw[ht,<- List.length_append,AhY g l d hi];exact AtF g l (i+1)
 ·intro i t t' hi ht he;cases hb:er (l.getD i d) != 0 with
  | true=>rw[hb]at he;cases he
  | false =>rw[hb]at he;injection he with he;rw[<- he,ht,AhY g l d hi]
 ·have: ∀(l:List E) (t:Bs),Qp (fun e (t:Bs)=>bif er e != 0 then Sum.inl (er e)else Sum.inr (t++g e)) l t=bif Ha er l != 0 then .inl (Ha er l)else .inr (t++(l.map g).flatten):=by
   intro l
   induction l with
   | nil=>intro t;simp [Aq0,Ha]
   | cons e r ih =>
    intro t;rw[Ue,iM];cases h:er e != 0 with
    | true=>rw[cond_true,cond_true,h];rfl
    | false=>rw[cond_false,cond_false,List.map_cons,List.flatten_cons,<- List.append_assoc,<- ih];rfl
  rw[this,Py,List.nil_append];rfl
theorem SG (mk:Nat->Bs->X) (l:List E) (d:E) (g:E->Bs) (fin:Bs->Option ρ)
 (h: ∀(i:Nat) (t:Bs),i<l.length->t.length+(g (l.getD i d)).length<=(l.map g).flatten.length-> ∀ k,B (mk i t) k kx=k (mk (i+1) (t++g (l.getD i d))))
 (hend: ∀(t:Bs) (k:X->Option ρ),B (mk l.length t) k kx=fin t) (N:Nat) (hN:l.length<N):D5 B N (mk 0 []) kx=fin (l.map g).flatten:=by
 refine(Ar5 mk l d (fun _=>0) g (fun _=>none) fin (fun i t hi ht k=>h i t hi ht k) hend N hN).trans ?_;rw[Adz];rfl
theorem Ig {g:E->Bs} {M:Nat}: ∀ {l:List E},(∀ e∈l,(g e).length<=M)->(l.map g).flatten.length<=M*l.length:=by
 intro l
 induction l with
 | nil=>intro _;simp
 | cons e r ih =>intro h;have h1:=h e List.mem_cons_self;have h2:=ih fun e he=>h e (List.mem_cons_of_mem _ he);rw[List.map_cons,List.flatten_cons,List.length_append,List.length_cons,Nat.mul_succ];omega
end
theorem AjG (x y:Bool):(x|| !y&& !x||y)=true:=by cases x<;>cases y<;>rfl
set_option linter.defProp false in
def Et:=And.intro @Aha (And.intro @YM (And.intro @Gs (And.intro @Dz (And.intro @cond_true.{1} (And.intro @cond_false.{1} (And.intro @AsT (And.intro @Aj4 (And.intro @AsR (And.intro @AvD (And.intro @AvB (And.intro @AvA (And.intro @Av9 (And.intro @Av8 (And.intro @Atc (And.intro @AvI (And.intro @N7 (And.intro @AvH (And.intro @ApA (And.intro @YR (And.intro @YS (And.intro @Akb (And.intro @w64 (And.intro @Int.toNat_natCast (And.intro @toNat_add (And.intro @toNat_sub (And.intro @Apt (And.intro @Apu (And.intro @Bool.true_or (And.intro @Bool.or_true (And.intro @Bool.false_or (And.intro @Bool.or_false (And.intro @Bool.true_and (And.intro @Bool.and_true (And.intro @Bool.false_and (And.intro @Bool.and_false (And.intro @Bool.not_true (And.intro @Bool.not_false (And.intro @Bool.not_not (And.intro @Bool.or_not_self (And.intro @Bool.not_or_self (And.intro @Bool.cond_self.{1} (And.intro @Bool.cond_true_left (And.intro @Bool.cond_false_left (And.intro @Bool.cond_true_right (And.intro @Bool.cond_false_right (And.intro @Bool.or_self (And.intro @Bool.and_self (And.intro @Atx (And.intro @AmU (And.intro @Py (And.intro @ApO (And.intro @U2.eq_1 (And.intro @U3.eq_1 (And.intro @U4.eq_1 (And.intro @U5.eq_1 (And.intro @U6.eq_1 (And.intro @U7.eq_1 (And.intro @U8.eq_1 (And.intro @U9.eq_1 (@U10.eq_1))))))))))))))))))))))))))))))))))))))))))))))))))))))))))))
end Go.Proofs.YtfgdgdnlglejbaaGreatDoor.Vm
namespace Go.Proofs.YtfgdgdnlglejbaaGreatDoor.Pl
open IntKind (i64)
open Go Vm
theorem Aof (s:Bs):(s==([]:Bs))=decide (s=[]):=by cases s<;>rfl
theorem AqL {α :Type} {s:List α} (h:s≠ []):0<s.length:=by cases s with | nil=>exact absurd rfl h | cons _ _=>simp
def I9 (t:Nat) (c:Bs):Option Bs:=if c.length<=131072 then some (Sp.elem t c)else none
theorem Arb {t:Nat} {c:Bs}:((I9 t c).getD []).length<=131077:=by
 unfold I9;by_cases h:c.length<=131072
 ·rw[if_pos h];have:=Sp.Eb t c;show(Sp.elem t c).length<=_;omega
 ·rw[if_neg h];simp
theorem Aid: ∀(l:List Bs),([]:Bs).intercalate l=l.flatten
 | []=>rfl
 | [a]=>by simp [List.intercalate]
 | a::b::r=>by have:=Aid (b::r);simp only[List.intercalate,List.intersperse,List.flatten_cons]at this ⊢;simp [this]
theorem dG (n:Nat):Vm.byteOf (IntKind.u8.wrap (n:Int))=UInt8.ofNat n:=by rw[w8];unfold Vm.byteOf;rw[show((n:Int) % 256).toNat=n % 256 by omega];apply UInt8.toNat.inj;simp
theorem Akv (n k:Nat):(n:Int).fdiv (k:Int)=((n / k:Nat):Int):=by rw[Int.fdiv_eq_ediv_of_nonneg _ (by omega)];rfl
theorem head_eq {ρ :Type} (t n:Nat) (ht:t<256) (K:List Int->Option ρ) (K':Bs->Option ρ) (hK: ∀ l,List.all l isByte=true->l.length<=5->K l=K' (List.map Vm.byteOf l)) :
 (bif decide ((n:Int)<(128:Int))then K ([IntKind.u8.wrap (t:Int),IntKind.u8.wrap (n:Int)]:List Int)
   else bif decide ((n:Int)<(256:Int))then K ([IntKind.u8.wrap (t:Int),129,IntKind.u8.wrap (n:Int)]:List Int)
   else bif decide ((n:Int)<(65536:Int))then K ([IntKind.u8.wrap (t:Int),130,IntKind.u8.wrap ((n:Int).fdiv (256)),IntKind.u8.wrap (n:Int)]:List Int)
   else K ([IntKind.u8.wrap (t:Int),131,IntKind.u8.wrap ((n:Int).fdiv (65536)),IntKind.u8.wrap ((n:Int).fdiv (256)),IntKind.u8.wrap (n:Int)]:List Int))=K' (UInt8.ofNat t::Sp.IP n):=by
 have f1:=Akv n 256;have f2:=Akv n 65536;have g1: ∀ k:Nat,isByte (k:Int)=decide (k<256):=fun k=>by unfold isByte;simp;omega
 rw[show((256:Nat):Int)=256 from rfl]at f1;rw[show((65536:Nat):Int)=65536 from rfl]at f2;rw[f1,f2];unfold Sp.IP;simp only[OY];by_cases h1:n<128
 ·rw[if_pos (by omega),if_pos h1,hK _ (by simp [KW]) (by simp)];simp only[List.map_cons,List.map_nil,dG]
 ·rw[if_neg (by omega),if_neg h1];by_cases h2:n<256
  ·rw[if_pos (by omega),if_pos h2,hK _ (by simp [KW];decide) (by simp)];simp only[List.map_cons,List.map_nil,dG];rfl
  ·rw[if_neg (by omega),if_neg h2];by_cases h3:n<65536
   ·rw[if_pos (by omega),if_pos h3,hK _ (by simp [KW];decide) (by simp)];simp only[List.map_cons,List.map_nil,dG];rfl
   ·rw[if_neg (by omega),if_neg h3,hK _ (by simp [KW];decide) (by simp)];simp only[List.map_cons,List.map_nil,dG];rfl
theorem AsE {ρ :Type} (bad:Option ρ) (fin:Nat->Option ρ): ∀(l:List Bs) (s: {n:Nat // n<=131072}),
 Abu (fun(e:Bs) (s: {n:Nat // n<=131072}) (k: {n:Nat // n<=131072}->Option ρ)=>if h:s.1+e.length<=131072 then k ⟨s.1+e.length,h⟩else bad) (fun s=>fin s.1) l s=if s.1+l.flatten.length<=131072 then fin (s.1+l.flatten.length)else bad:=by
 intro l
 induction l with
 | nil=>intro s;have:=s.2;simp [Abu,this]
 | cons e r ih =>
  intro s;show(if h:s.1+e.length<=131072 then _ else bad)=_;rw[List.flatten_cons,List.length_append];by_cases h:s.1+e.length<=131072
  ·rw[dif_pos h,ih];dsimp only;rw[Nat.add_assoc]
  ·rw[dif_neg h,if_neg (by omega)]
theorem As8 {ρ :Type} (N:Nat) (l:List Bs) (hN:l.length<N) (hl:l.length<=1099511627776) (bad:Option ρ) (kx:Int->Option ρ) :
 D5 (X:=Int×Int) (Y:=Int) (U2 fun t6a t23a k1 x2 =>
  bif decide (t23a<(l.length:Int))then(Vm.chk (decide ((0:Int)<=t23a)) <|
  Vm.chk (decide (t23a<(l.length:Int))) <|
  let x31:Bool:=decide (((l.getD t23a.toNat ([]:Bs)).length:Int)>(i64.wrap ((131072:Int) - t6a)))
  bif x31 then bad
  else(k1 (i64.wrap (t6a+((l.getD t23a.toNat ([]:Bs)).length:Int)),i64.wrap (t23a+(1:Int)))))
  else(x2 t6a)) N (0,0) kx=if l.flatten.length<=131072 then kx (l.flatten.length:Int)else bad:=by
 refine Eq.trans (Ao0 (S:= {n:Nat // n<=131072}) (fun i s=>((s.1:Int),i)) l ([]:Bs) (fun e s k=>if h:s.1+e.length<=131072 then k ⟨s.1+e.length,h⟩else bad) (fun s=>(fun n:Nat=>kx (n:Int)) s.1) ?_ ?_ N ⟨0,by omega⟩ hN) ?_
 ·intro i s k hi;have hs:=s.2;show(bif decide ((i:Int)<(l.length:Int))then _ else _)=_;simp only[OY,Zq,Int.toNat_natCast];rw[if_pos (by omega),if_pos (by omega),if_pos (by omega),w64 (x:=131072 - ((s.1:Nat):Int)) (by omega) (by omega)];by_cases h:s.1+(l.getD i []).length<=131072
  ·rw[if_neg (by omega),dif_pos h,w64 (by omega) (by omega),w64 (by omega) (by omega)];rfl
  ·rw[if_pos (by omega),dif_neg h]
 ·intro s k;show(bif decide ((l.length:Int)<(l.length:Int))then _ else _)=_;simp only[OY];rw[if_neg (by omega)]
 ·refine(AsE bad (fun n:Nat=>kx (n:Int)) l ⟨0,by omega⟩).trans ?_;dsimp only;rw[Nat.zero_add]
theorem AcR (N t:Nat) (l:List Bs) (ht:t<256) (h31:t % 32≠31) (hN:l.length<N) (hl:l.length<=1099511627776):EE N (t:Int) l=some ((I9 t l.flatten).getD [],if(I9 t l.flatten).isNone then 6 else 0):=by
 unfold EE;try simp -zeta only[Ap]
 simp only[Ae7,Abr,Abs,AmR,Akf,Aev,AsN t ht];rw[show(decide ((t:Int)<0)||decide ((t:Int)>255)||((t % 32:Nat):Int)==31)=false by simp;omega,cond_false];refine Eq.trans (As8 N l hN hl _ _) ?_;unfold I9;by_cases h:l.flatten.length<=131072
 ·rw[if_pos h,if_pos h,YM];refine Eq.trans (head_eq t l.flatten.length ht (fun l1:List Int=>Vm.chk (List.all l1 isByte)<|Dk (strings_Join N l ([]:Bs)) fun r81=>Vm.chk (decide ((List.map Vm.byteOf l1).length+r81.length<=140737488355328))<|some ((List.map Vm.byteOf l1)++r81,(0:Int))) (fun h=>some (h++l.flatten,0)) (fun l' hl' hl5=> ?_)) rfl;rw[hl',Gs];unfold strings_Join;rw[Aid,decide_eq_true (show l.length<=140737488355328 by omega),decide_eq_true (show l.flatten.length<=140737488355328 by omega)];show Vm.chk (decide ((List.map Vm.byteOf l').length+l.flatten.length<=140737488355328)) _=_;rw[Zq,if_pos (by rw[List.length_map];omega)];rfl
 ·rw[if_neg h,if_neg h];rfl
theorem uO (N t:Nat) (l:List Bs) (ht:t<256) (h31:t % 32≠31) (hN:l.length<N) (hl:l.length<=1099511627776) (hs:l.flatten.length<=140737488355328):NG N (t:Int) l=some ((I9 t l.flatten).getD [],if(I9 t l.flatten).isNone then 6 else 0):=by
 unfold NG;try simp -zeta only[Ap]
 simp only[Ae7,Abr,Abs,AmR,Akf,Aev];rw[show(decide ((t:Int)<0)||decide ((t:Int)>255)||(t:Int).tmod 32==31)=false by rw[Int.tmod_eq_emod_of_nonneg (by omega)];simp;omega,cond_false];refine Eq.trans (PH (fun x=> ∃ i,i<=l.length/\x=((l.take i).flatten,(i:Int))) (fun x=>l.length - x.2.toNat) (fun _=>some ((I9 t l.flatten).getD [],if(I9 t l.flatten).isNone then 6 else 0)) ?_ N _ ⟨0,by omega,rfl⟩ (by show l.length - 0<N;omega)) rfl;rintro x ⟨i,hi,rfl⟩ k hk;show(bif decide ((i:Int)<(l.length:Int))then _ else _)=_;by_cases h:i<l.length
 ·simp only[OY,Zq,Int.toNat_natCast];have e:(l.take i).flatten++l.getD i []=(l.take (i+1)).flatten:=by rw[take_snoc h,List.flatten_append,show l.getD i []=l[i] by simp [List.getD_eq_getElem?_getD,h]];simp
  have hle:(l.take (i+1)).flatten.length<=l.flatten.length:=by
   conv=>rhs;rw[<- List.take_append_drop (i+1) l,List.flatten_append,List.length_append]
   omega
  have e2:(l.take i).flatten.length+(l.getD i []).length<=140737488355328:=by rw[<- List.length_append,e];omega
  rw[if_pos (by omega),if_pos (by omega),if_pos (by omega),if_pos e2,e,w64 (by omega) (by omega)];exact hk _ ⟨i+1,h,rfl⟩ (by show l.length - ((i:Int)+1).toNat<l.length - (i:Int).toNat;omega)
 ·have hil:i=l.length:=by omega
  subst hil;rw[OY,if_neg (by omega)];dsimp only;rw[List.take_length];unfold I9;by_cases h:l.flatten.length<=131072
  ·rw[if_pos h,OY,if_neg (by omega),YM];have:=head_eq t l.flatten.length ht (fun l':List Int=>Vm.chk (List.all l' isByte)<|Vm.chk (decide ((List.map Vm.byteOf l').length+l.flatten.length<=140737488355328))<|some ((List.map Vm.byteOf l')++l.flatten,(0:Int))) (fun h=>some (h++l.flatten,0)) (fun l' hl' hl5=>by rw[hl',Gs,Zq,if_pos (by rw[List.length_map];omega)]);refine Eq.trans ?_ this;simp only[OY];by_cases h1:l.flatten.length<128
   ·rw[if_neg (by omega),if_neg (by omega),if_neg (by omega),if_pos (by omega)]
   ·by_cases h2:l.flatten.length<256
    ·rw[if_neg (by omega),if_neg (by omega),if_pos (by omega),if_neg (by omega),if_pos (by omega)]
    ·by_cases h3:l.flatten.length<65536
     ·rw[if_neg (by omega),if_pos (by omega),if_neg (by omega),if_neg (by omega),if_pos (by omega)]
     ·rw[if_pos (by omega),if_neg (by omega),if_neg (by omega),if_neg (by omega)]
  ·rw[if_neg h,OY,if_pos (by omega)];rfl
theorem Aem (N t:Nat) (l:List Bs) (ht:t<256) (h31:t % 32≠31) (hN:l.length<N) (hl:l.length<=1099511627776) (hs:l.flatten.length<=140737488355328):Fb N (t:Int) l=some ((I9 t l.flatten).getD [],if(I9 t l.flatten).isNone then 2 else 0):=by unfold Fb;rw[uO N t l ht h31 hN hl hs,Dz];cases I9 t l.flatten<;>rfl
theorem Atp (N:Nat) (b:Bool) (s:Bs) (e:Int):Eh N b s e=some (s,b||decide (e≠0)):=by
 unfold Eh;try simp -zeta only[Ap]
 cases b<;>simp [Vm.chk,bne,BEq.beq,decide_not]
theorem AmN (N t:Nat) (b:Bool) (l:List Bs) (ht:t<256) (h31:t % 32≠31) (hN:l.length<N) (hl:l.length<=1099511627776):Ej N b (t:Int) l=some ((I9 t l.flatten).getD [],b||(I9 t l.flatten).isNone):=by unfold Ej;rw[AcR N t l ht h31 hN hl,Dz,Atp,Dz];cases I9 t l.flatten<;>simp
abbrev El:=Int×Bs×Bs
def KA:Nat->Bs->List El->List El×Int
 | 0,_,a=>(a,0)
 | f+1,s,a=>if s=[]then(a,0)else if Sp.err s≠0 then([],Sp.err s)else KA f (Sp.rest s) (a++[Gt s])
def dW (s:Bs):List El×Int:=KA (s.length+1) s []
theorem Afv: ∀(f g:Nat) (s:Bs) (a:List El),s.length<f->s.length<g->KA f s a=KA g s a:=by
 intro f
 induction f with
 | zero=>intro g s a h;omega
 | succ f ih =>
  intro g s a hf hg;cases g with
  | zero=>omega
  | succ g =>
   show(if s=[]then(a,(0:Int))else if Sp.err s≠0 then([],Sp.err s)else KA f (Sp.rest s) (a++[Gt s]))=(if s=[]then(a,0)else if Sp.err s≠0 then([],Sp.err s)else KA g (Sp.rest s) (a++[Gt s]));by_cases h:s=[]
   ·rw[if_pos h,if_pos h]
   ·rw[if_neg h,if_neg h];by_cases he:Sp.err s=0
    ·have:=Sp.Ab7 s he;rw[if_neg (by simp [he]),if_neg (by simp [he])];exact ih g _ _ (by omega) (by omega)
    ·rw[if_pos he,if_pos he]
def Abw (M:Nat) (e:El):Prop:= ∃ t:Bs,Sp.err t=0/\e=Gt t/\t.length<=M
structure Good (M:Nat) (l:List El):Prop where
 len:l.length<=M
 all: ∀ e∈l,Abw M e
 Avd:(l.map (·.2.2)).flatten.length<=M
theorem Abw.mono {M K:Nat} {e:El} (h:Abw M e) (hk:M<=K):Abw K e:=by obtain⟨t,h1,h2,h3⟩:=h;exact⟨t,h1,h2,by omega⟩
theorem Abw.content {M:Nat} {e:El} (h:Abw M e):e.2.1.length+2<=e.2.2.length/\e.2.2.length<=M/\0<=e.1/\e.1<256:=by obtain⟨t,h1,rfl,h3⟩:=h;have:=Sp.AfJ t h1;have hr:=Sp.AoY t h1;have hc:=Sp.Ag6 t h1;have ht:=Al5 t;show(Sp.content t).length+2<=(Sp.raw t).length/\(Sp.raw t).length<=M/\0<=((Sp.tag t:Nat):Int)/\((Sp.tag t:Nat):Int)<256;omega
theorem Good.mono {M K:Nat} {l:List El} (h:Good M l) (hk:M<=K):Good K l:=⟨by have:=h.len;omega,fun e he=>(h.all e he).mono hk,by have:=h.Avd;omega⟩
theorem Good.tail {M:Nat} {e:El} {l:List El} (h:Good M (e::l)):Good M l:=⟨by have:=h.len;simp at this;omega,fun e he=>h.all e (List.mem_cons_of_mem _ he),by have:=h.Avd;rw[List.map_cons,List.flatten_cons,List.length_append]at this;omega⟩
theorem AcP (N:Nat) (s:Bs) (hN:4<N) (hs:s.length<=1099511627776) (hl:s.length<N):Hy N s=some (dW s):=by
 unfold Hy dW;try simp -zeta only[Ap]
 refine PH (F:=fun x=>some (KA (x.1.length+1) x.1 x.2)) (fun x=>x.1.length+x.2.length<=s.length) (fun x=>x.1.length) ?_ N (s,[]) (by simp) hl;rintro ⟨t,a⟩ hI k hk;dsimp only at hI hk;dsimp only[U2];by_cases h:t=[]
 ·subst h;rfl
 ·have hp:=AqL h;rw[Aof,decide_eq_false h,Bool.not_false,cond_true];show(Dk (SE N t) _:Option (List El×Int))=some (if t=[]then(a,0)else if Sp.err t≠0 then([],Sp.err t)else KA t.length (Sp.rest t) (a++[Gt t]));rw[if_neg h,AcQ N t hN (by omega),Dz];by_cases he:Sp.err t=0
  ·have hr:Hl t=(Gt t,Sp.rest t,0):=by unfold Hl;rw[if_pos he]
   have hlt:=Sp.Ab7 t he;rw[hr,if_neg (by simp [he])];show Vm.chk (decide ((a.length+1)*41<=140737488355328)) (k (Sp.rest t,a++[Gt t]))=_;rw[Zq,if_pos (by omega),hk (Sp.rest t,a++[Gt t]) (by simp;omega) hlt];exact congrArg some (Afv _ _ _ _ (by show(Sp.rest t).length<(Sp.rest t).length+1;omega) hlt)
  ·have hr:Hl t=((0,[],[]),[],Sp.err t):=by unfold Hl;rw[if_neg he]
   rw[hr,if_pos he];show(bif Sp.err t != 0 then some (([]:List El),Sp.err t)else _)=_;rw[show(Sp.err t != 0)=true by simp [he]];rfl
def AgT (l:List El) (t:Int):El×Bool×List El:=match l with
 | []=>((0,[],[]),false,[])
 | e::r=>if e.1=t then(e,true,r)else((0,[],[]),false,e::r)
theorem AtJ {e:El} {r:List El} {t:Int} (h:e.1=t):AgT (e::r) t=(e,true,r):=by show(if e.1=t then(e,true,r)else((0,[],[]),false,e::r))=_;rw[if_pos h]
theorem AtI {e:El} {r:List El} {t:Int} (h: ¬ e.1=t):AgT (e::r) t=((0,[],[]),false,e::r):=by show(if e.1=t then(e,true,r)else((0,[],[]),false,e::r))=_;rw[if_neg h]
theorem Aen (N:Nat) (l:List El) (t:Int):FN N l t=some (AgT l t):=by
 cases l with
 | nil=>rfl
 | cons e r =>
  have h0:(((e::r).length:Int)==(0:Int))=false:=by simp;omega
  have h1:decide ((0:Int)<((e::r).length:Int))=true:=decide_eq_true (by simp only[List.length_cons];omega);have h2:decide ((1:Int)<=((e::r).length:Int))=true:=decide_eq_true (by simp only[List.length_cons];omega);unfold FN;try simp -zeta only[Ap]
  rw[h0,h1,h2];show(bif (e.1 != t)then some (((0,[],[]):El),false,e::r)else some (e,true,D9 (e::r) 1 (e::r).length))=some (if e.1=t then(e,true,r)else((0,[],[]),false,e::r));have hc:D9 (e::r) 1 (e::r).length=r:=by show((e::r).take (e::r).length).drop 1=r;rw[List.take_length];rfl
  rw[hc];by_cases h:e.1=t
  ·rw[if_pos h,show(e.1 != t)=false by simp [h]];rfl
  ·rw[if_neg h,show(e.1 != t)=true by simp [h]];rfl
theorem Abq (N:Nat) (l:List El):EG N l=some (if l=[]then 0 else 4,l):=by
 cases l with
 | nil=>rfl
 | cons e r =>unfold EG;rw[OY,if_pos (by simp only[List.length_cons];omega),if_neg (by simp)]
def AdI (s:Bs) (t:Int):El×Int:=bif (XA s).2 != 0 then((0,[],[]),(XA s).2)else bif (XA s).1.1 != t then((0,[],[]),5)else((XA s).1,0)
theorem AeG (N:Nat) (s:Bs) (t:Int) (hN:1048578<N) (hs:s.length<=1048576):Iu N s t=some (AdI s t):=by
 unfold Iu AdI;try simp only[clR]
 rw[Agi N s (by omega) (by omega),Dz];simp only[o8]
theorem AsL (N:Nat) (s:Bs) (t:Int) (hN:1048578<N) (hs:s.length<=1048576):Wu N s t=some (AdI s t):=by
 unfold Wu AdI;try simp only[clR]
 rw[Aa8 N s (by omega) (by omega),Dz];simp only[o8]
theorem u8n {n:Nat} (h:n<256):(UInt8.ofNat n).toNat=n:=by rw[UInt8.toNat_ofNat'];omega
theorem u8m (n:Nat):(UInt8.ofNat n).toNat=n % 256:=UInt8.toNat_ofNat'
theorem Aqk (t n:Nat) (s:Bs) (ht:t<256) (h31:t % 32≠31) (hn:n<=131072):Sp.head (UInt8.ofNat t::(Sp.IP n++s))=(0,1+(Sp.IP n).length,n):=by
 have h1: ¬(UInt8.ofNat t).toNat % 32=31:=by rw[u8n ht];exact h31
 unfold Sp.IP;by_cases a1:n<128
 ·rw[if_pos a1];have e:=u8n (show n<256 by omega);unfold Sp.head;dsimp only[List.cons_append,List.nil_append];rw[if_neg h1,e,if_pos a1];rfl
 ·rw[if_neg a1];by_cases a2:n<256
  ·rw[if_pos a2];have e:=u8n a2;have hb:Sp.beNat (((UInt8.ofNat n)::s).take 1)=n:=by show 0*256+(UInt8.ofNat n).toNat=n;omega
   unfold Sp.head;dsimp only[List.cons_append,List.nil_append];rw[if_neg h1,if_neg (by decide),if_neg (by decide),show(129:UInt8).toNat - 128=1 from rfl];rw[hb,if_neg (by simp),if_neg (by rw[show Sp.leastOf 1=128 from rfl];omega)];rfl
  ·rw[if_neg a2];by_cases a3:n<65536
   ·rw[if_pos a3];have e1:=u8m (n / 256);have e2:=u8m n;have hb:Sp.beNat (((UInt8.ofNat (n / 256))::UInt8.ofNat n::s).take 2)=n:=by show(0*256+(UInt8.ofNat (n / 256)).toNat)*256+(UInt8.ofNat n).toNat=n;omega
    unfold Sp.head;dsimp only[List.cons_append,List.nil_append];rw[if_neg h1,if_neg (by decide),if_neg (by decide),show(130:UInt8).toNat - 128=2 from rfl];rw[hb,if_neg (by simp),if_neg (by rw[show Sp.leastOf 2=256 from rfl];omega)];rfl
   ·rw[if_neg a3];have e0:=u8m (n / 65536);have e1:=u8m (n / 256);have e2:=u8m n;have hb:Sp.beNat (((UInt8.ofNat (n / 65536))::(UInt8.ofNat (n / 256))::UInt8.ofNat n::s).take 3)=n:=by show((0*256+(UInt8.ofNat (n / 65536)).toNat)*256+(UInt8.ofNat (n / 256)).toNat)*256+(UInt8.ofNat n).toNat=n;omega
    unfold Sp.head;dsimp only[List.cons_append,List.nil_append];rw[if_neg h1,if_neg (by decide),if_neg (by decide),show(131:UInt8).toNat - 128=3 from rfl];rw[hb,if_neg (by simp),if_neg (by rw[show Sp.leastOf 3=65536 from rfl];omega)];rfl
section
variable (t:Nat) (c r:Bs) (ht:t<256) (h31:t % 32≠31) (hc:c.length<=131072)
include ht h31 hc
theorem Auh:Sp.rd (Sp.elem t c++r)=(0,1+(Sp.IP c.length).length,c.length):=by
 have h:Sp.elem t c++r=UInt8.ofNat t::(Sp.IP c.length++(c++r)):=by unfold Sp.elem;simp
 unfold Sp.rd;rw[h,Aqk t c.length (c++r) ht h31 hc];rw[if_neg];rintro ⟨_,h2⟩;simp only[List.length_cons,List.length_append]at h2;omega
theorem Aa6:Sp.err (Sp.elem t c++r)=0/\Gt (Sp.elem t c++r)=((t:Int),c,Sp.elem t c)/\Sp.rest (Sp.elem t c++r)=r:=by
 have h:=Auh t c r ht h31 hc;have hl:(Sp.elem t c).length=1+(Sp.IP c.length).length+c.length:=by unfold Sp.elem;simp;omega
 have hd:(Sp.elem t c++r).drop (1+(Sp.IP c.length).length)=c++r:=by
  have h2:Sp.elem t c++r=(UInt8.ofNat t::Sp.IP c.length)++(c++r):=by unfold Sp.elem;simp
  rw[h2];exact List.drop_left' (by simp;omega)
 refine⟨by unfold Sp.err;rw[h],?_,?_⟩
 ·unfold Gt Sp.content Sp.raw;rw[h];dsimp only;rw[hd,List.take_left,<- hl,List.take_left];rw[show Sp.tag (Sp.elem t c++r)=t from u8n ht]
 ·unfold Sp.rest;rw[h];dsimp only;rw[<- hl,List.drop_left]
end
def Gx (t:Nat) (c:Bs):El:=((t:Int),c,Sp.elem t c)
theorem AkX (t:Nat) (c:Bs) (ht:t<256) (h31:t % 32≠31) (hc:c.length<=131072):XA (Sp.elem t c)=(Gx t c,0):=by obtain⟨h1,h2,h3⟩:=Aa6 t c [] ht h31 hc;rw[List.append_nil]at h1 h2 h3;unfold XA Sp.NV;rw[h1,h3,if_pos (show(if(0:Int)≠0 then(0:Int)else if([]:Bs)=[]then 0 else 4)=0 from rfl),h2];rfl
theorem AqC (t:Nat) (c:Bs) (ht:t<256) (h31:t % 32≠31) (hc:c.length<=131072):AdI (Sp.elem t c) t=(Gx t c,0):=by unfold AdI;rw[AkX t c ht h31 hc];show(bif ((t:Int) != (t:Int))then((0,[],[]),(5:Int))else(Gx t c,0))=_;rw[show((t:Int) != (t:Int))=false by simp];rfl
structure Fine (p:Nat×Bs):Prop where
 lt:p.1<256
 low:p.1 % 32≠31
 len:p.2.length<=131072
end Go.Proofs.YtfgdgdnlglejbaaGreatDoor.Pl
namespace Go.Proofs.YtfgdgdnlglejbaaGreatDoor.Pl
open IntKind (i64)
open Go Vm
theorem dR {t:Nat} {c:Bs} (ht:t<256) (h31:t % 32≠31) (hc:c.length<=131072):Fine (t,c):=⟨ht,h31,hc⟩
def TC (d:Nat) (s:Bs):Prop:=Sp.within (s.length+1) d s=0
theorem Asf (d:Nat):TC d []:=Sp.Apx _ _
theorem AmL: ∀(f d:Nat) (l:Bs),Sp.within f (d+1) l=0->Sp.within f d l=0:=by
 intro f
 induction f with
 | zero=>intro d l _;rfl
 | succ f ih =>
  intro d l h;unfold Sp.within at h ⊢;by_cases h1:l=[]
  ·rw[if_pos h1]
  ·rw[if_neg h1]at h ⊢;by_cases h2:Sp.err l≠0
   ·rw[if_pos h2]at h;exact absurd h h2
   ·rw[if_neg h2]at h ⊢;by_cases h3:16<=d+1
    ·rw[if_pos h3]at h;cases h
    ·rw[if_neg h3]at h;rw[if_neg (by omega)];by_cases h4:(if Sp.cons (Sp.tag l)=true then Sp.within f (d+1+1) (Sp.content l)else 0)=0
     ·have h5:(if Sp.cons (Sp.tag l)=true then Sp.within f (d+1) (Sp.content l)else 0)=0:=by
       by_cases hc:Sp.cons (Sp.tag l)=true
       ·rw[if_pos hc]at h4 ⊢;exact ih _ _ h4
       ·rw[if_neg hc]
      rw[if_neg (by simp [h4])]at h;rw[if_neg (by simp [h5])];exact ih _ _ h
     ·rw[if_pos h4]at h;exact absurd h h4
theorem AtX {d e:Nat} (h:d<=e) {s:Bs} (hs:TC e s):TC d s:=by
 obtain⟨k,rfl⟩: ∃ k,e=d+k:=⟨e - d,by omega⟩
 clear h
 induction k with
 | zero=>exact hs
 | succ k ih=>exact ih (AmL _ _ _ hs)
theorem Akm (t:Nat) (c r:Bs):Sp.elem t c++r≠ []:=by unfold Sp.elem;simp
theorem Anb (t:Nat) (c:Bs):c.length<(Sp.elem t c).length:=by unfold Sp.elem;simp;omega
theorem Asv {t:Nat} {c r:Bs} (h:Fine (t,c)):Sp.err (Sp.elem t c++r)=0/\Sp.tag (Sp.elem t c++r)=t/\Sp.content (Sp.elem t c++r)=c/\Sp.rest (Sp.elem t c++r)=r:=by obtain⟨h1,h2,h3⟩:=Aa6 t c r h.lt h.low h.len;unfold Gt at h2;injection h2 with h4 h5;injection h5 with h5 h6;exact⟨h1,by exact_mod_cast h4,h5,h3⟩
theorem Aq4 {d t:Nat} {c r:Bs} (h:Fine (t,c)) (hd:d<16) (hc:Sp.cons t=true->TC (d+1) c) (hr:TC d r):TC d (Sp.elem t c++r):=by
 obtain⟨h1,h2,h3,h4⟩:=Asv (r:=r) h;have hl:=Anb t c;have hlen:(Sp.elem t c++r).length=(Sp.elem t c).length+r.length:=List.length_append;unfold TC;rw[Sp.AcV _ d _ (Akm t c r) h1 (by omega),h4]
 ·rw[Uc _ (r.length+1) d r (by omega) (by omega)];exact hr
 ·rw[h2,h3];unfold Sp.inner;by_cases hq:Sp.cons t=true
  ·rw[if_pos hq,Uc _ (c.length+1) (d+1) c (by omega) (by omega)];exact hc hq
  ·rw[if_neg hq]
theorem Aqy: ∀(f:Nat) (s:Bs) (a:List El),KA f s a=if(KA f s []).2=0 then(a++(KA f s []).1,0)else([],(KA f s []).2):=by
 intro f
 induction f with
 | zero=>intro s a;show(a,(0:Int))=if(0:Int)=0 then(a++[],0)else _;rw[if_pos rfl,List.append_nil]
 | succ f ih =>
  intro s a;show(if s=[]then(a,(0:Int))else if Sp.err s≠0 then([],Sp.err s)else KA f (Sp.rest s) (a++[Gt s]))=if(if s=[]then(([]:List El),(0:Int))else if Sp.err s≠0 then([],Sp.err s)else KA f (Sp.rest s) ([]++[Gt s])).2=0 then(a++(if s=[]then(([]:List El),(0:Int))else if Sp.err s≠0 then([],Sp.err s)else KA f (Sp.rest s) ([]++[Gt s])).1,0)else([],(if s=[]then(([]:List El),(0:Int))else if Sp.err s≠0 then([],Sp.err s)else KA f (Sp.rest s) ([]++[Gt s])).2);by_cases h1:s=[]
  ·simp only[if_pos h1];rw[if_pos trivial,List.append_nil]
  ·simp only[if_neg h1];by_cases h2:Sp.err s=0
   ·have h2': ¬ Sp.err s≠0:=fun h=>h h2;simp only[if_neg h2'];rw[ih _ (a++[Gt s]),ih _ ([]++[Gt s])];by_cases h3:(KA f (Sp.rest s) []).2=0
    ·simp only[if_pos h3];simp
    ·simp only[if_neg h3]
   ·have h2':Sp.err s≠0:=h2;simp only[if_pos h2',if_neg h2]
structure Par (d:Nat) (x:Bs) (es:List El):Prop where
 rd: ∀ r fs,dW r=(fs,0)->dW (x++r)=(es++fs,0)
 ns: ∀ r,TC d r->TC d (x++r)
theorem ArX:dW []=([],0):=rfl
theorem Par.list {d:Nat} {x:Bs} {es:List El} (h:Par d x es):dW x=(es,0):=by have:=h.rd [] [] ArX;rwa [List.append_nil,List.append_nil]at this
theorem Par.nest {d:Nat} {x:Bs} {es:List El} (h:Par d x es):TC d x:=by have:=h.ns [] (Asf d);rwa [List.append_nil]at this
theorem Ano (d:Nat):Par d [] []:=⟨fun _ _ h=>h,fun _ h=>h⟩
theorem Ahq {d:Nat} {x y:Bs} {es fs:List El} (h:Par d x es) (g:Par d y fs):Par d (x++y) (es++fs):=by
 refine⟨fun r gs hr=> ?_,fun r hr=> ?_⟩
 ·rw[List.append_assoc,List.append_assoc];exact h.rd _ _ (g.rd _ _ hr)
 ·rw[List.append_assoc];exact h.ns _ (g.ns _ hr)
theorem Alc {d t:Nat} {c:Bs} (h:Fine (t,c)) (hd:d<16) (hc:Sp.cons t=true->TC (d+1) c):Par d (Sp.elem t c) [Gx t c]:=by refine⟨fun r fs hr=> ?_,fun r hr=>Aq4 h hd hc hr⟩;obtain⟨h1,h2,h3⟩:=Aa6 t c r h.lt h.low h.len;have hl:=Anb t c;have hlen:(Sp.elem t c++r).length=(Sp.elem t c).length+r.length:=List.length_append;unfold dW at hr ⊢;show(if Sp.elem t c++r=[]then(([]:List El),(0:Int))else if Sp.err (Sp.elem t c++r)≠0 then([],Sp.err (Sp.elem t c++r))else KA (Sp.elem t c++r).length (Sp.rest (Sp.elem t c++r)) ([]++[Gt (Sp.elem t c++r)]))=_;rw[if_neg (Akm t c r),h1,if_neg (by decide),h2,h3,Aqy,Afv _ (r.length+1) r [] (by omega) (by omega),hr,if_pos rfl];rfl
theorem Tm {d t:Nat} {c:Bs} (h:Fine (t,c)) (hd:d<16) (hc:TC (d+1) c):Par d (Sp.elem t c) [Gx t c]:=Alc h hd fun _=>hc
theorem AdN {d t:Nat} {c:Bs} (h:Fine (t,c)) (hd:d<16) (hc:Sp.cons t=false):Par d (Sp.elem t c) [Gx t c]:=Alc h hd fun h=>by rw[hc]at h;cases h
theorem Anm {d:Nat} {x:Bs} {es:List El} (b:Bool) (h:b=true->Par d x es):Par d (bif b then x else []) (bif b then es else []):=by
 cases b with
 | true=>exact h rfl
 | false=>exact Ano d
theorem Ann {α :Type} {d:Nat} {f: α ->Bs} {g: α ->El}: ∀ {l:List α},(∀ a∈l,Par d (f a) [g a])->Par d (l.map f).flatten (l.map g):=by
 intro l
 induction l with
 | nil=>intro _;exact Ano d
 | cons a l ih =>intro h;rw[List.map_cons,List.map_cons,List.flatten_cons];exact Ahq (h a List.mem_cons_self) (ih fun b hb=>h b (List.mem_cons_of_mem _ hb))
theorem Aow {t:Nat} {c:Bs} {r:List El} {k:Int} (h:(t:Int)=k):AgT (Gx t c::r) k=(Gx t c,true,r):=AtJ h
theorem Aou {t:Nat} {c:Bs} {r:List El} {k:Int} (h: ¬(t:Int)=k):AgT (Gx t c::r) k=((0,[],[]),false,Gx t c::r):=AtI h
theorem Aov (k:Int):AgT [] k=((0,[],[]),false,[]):=rfl
theorem el1 (t:Nat) (c:Bs):(Gx t c).1=(t:Int):=rfl
theorem el2 (t:Nat) (c:Bs):(Gx t c).2.1=c:=rfl
theorem el3 (t:Nat) (c:Bs):(Gx t c).2.2=Sp.elem t c:=rfl
section
variable {X Y ρ :Type} {B:X->(X->Option ρ)->(Y->Option ρ)->Option ρ} {kx:Y->Option ρ}
theorem ZR (mk:Nat->X) (n:Nat) (fin:Option ρ) (h: ∀ i,i<n-> ∀ k,B (mk i) k kx=k (mk (i+1))) (hend: ∀ k,B (mk n) k kx=fin) (N:Nat) (hN:n<N):D5 B N (mk 0) kx=fin:=by refine(Aol mk n (fun _=>0) (fun _=>none) fin (fun i hi k=>h i hi k) hend N hN).trans ?_;rw[Adz];rfl
end
end Go.Proofs.YtfgdgdnlglejbaaGreatDoor.Pl
namespace Go.Proofs.YtfgdgdnlglejbaaGreatDoor.Pl
open IntKind (i64)
open Go Vm
def leB (a b:Bs):Bool:=Vm.bytesLess a b||a==b
theorem Aqw (a b:Bs):leB a b=decide (a<=b):=by
 unfold leB Vm.bytesLess;rw[bytesLess_eq];by_cases h:a=b
 ·subst h;rw[beq_self_eq_true,Bool.or_true];exact(decide_eq_true (List.le_refl a)).symm
 ·rw[beq_false_of_ne h,Bool.or_false];by_cases h2:a<b
  ·rw[decide_eq_true h2,decide_eq_true (List.le_of_lt h2)]
  ·rw[decide_eq_false h2,decide_eq_false];intro h3;exact h (List.le_antisymm h3 (by simpa using h2))
def PE (x:Bs):List Bs->List Bs
 | []=>[x]
 | y::r=>bif leB y x then y::PE x r else x::y::r
theorem qE (x:Bs): ∀ s:List Bs,(PE x s).Perm (x::s):=by
 intro s
 induction s with
 | nil=>exact List.Perm.refl _
 | cons y r ih =>
  show(bif leB y x then y::PE x r else x::y::r).Perm _;cases leB y x with
  | true=>exact(List.Perm.cons y ih).trans (List.Perm.swap x y r)
  | false=>exact List.Perm.refl _
theorem ArQ (x:Bs): ∀ s:List Bs,s.Pairwise (fun a b=>a<=b)->(PE x s).Pairwise (fun a b=>a<=b):=by
 intro s
 induction s with
 | nil=>intro _;exact List.pairwise_singleton _ _
 | cons y r ih =>
  intro h;rw[List.pairwise_cons]at h;show(bif leB y x then y::PE x r else x::y::r).Pairwise _;cases hl:leB y x with
  | true =>
   rw[Aqw,decide_eq_true_eq]at hl;rw[cond_true,List.pairwise_cons];refine⟨fun z hz=> ?_,ih h.2⟩;rcases List.mem_cons.1 ((qE x r).mem_iff.1 hz)with rfl | hz
   ·exact hl
   ·exact h.1 z hz
  | false =>
   rw[Aqw,decide_eq_false_iff_not]at hl
   have hxy:x<=y:=by
    rcases List.le_total x y with h | h
    ·exact h
    ·exact absurd h hl
   rw[cond_false,List.pairwise_cons,List.pairwise_cons];refine⟨fun z hz=> ?_,h⟩;rcases List.mem_cons.1 hz with rfl | hz
   ·exact hxy
   ·exact List.le_trans hxy (h.1 z hz)
theorem Akz: ∀(l s:List Bs),s.Pairwise (fun a b=>a<=b)->(l.foldl (fun s x=>PE x s) s).Pairwise (fun a b=>a<=b)/\(l.foldl (fun s x=>PE x s) s).Perm (l++s):=by
 intro l
 induction l with
 | nil=>intro s h;exact⟨h,List.Perm.refl _⟩
 | cons x r ih =>intro s h;obtain⟨h1,h2⟩:=ih (PE x s) (ArQ x s h);refine⟨h1,h2.trans ?_⟩;exact((qE x s).append_left r).trans List.perm_middle
theorem AdJ (l:List Bs):(l.foldl (fun s x=>PE x s) []).flatten=QU l:=by
 unfold QU;congr 1;obtain⟨h1,h2⟩:=Akz l [] List.Pairwise.nil;rw[List.append_nil]at h2;refine List.Perm.eq_of_pairwise (le:=fun a b=>a<=b) (fun a b _ _ h3 h4=>List.le_antisymm h3 h4) h1 ?_ (h2.trans (List.mergeSort_perm l _).symm)
 have:=List.pairwise_mergeSort (le:=fun x y:Bs=>decide (x<=y)) (fun a b c h3 h4=>by
  rw[decide_eq_true_eq]at *
  exact List.le_trans h3 h4) (fun a b=>by
  rw[Bool.or_eq_true,decide_eq_true_eq,decide_eq_true_eq];exact List.le_total a b) l
 exact this.imp (fun h=>by simpa using h)
theorem AtO (x:Bs): ∀ s:List Bs,s.take (s.findIdx fun y=> !leB y x)++x::s.drop (s.findIdx fun y=> !leB y x)=PE x s:=by
 intro s
 induction s with
 | nil=>rfl
 | cons y r ih =>
  rw[List.findIdx_cons];show _=bif leB y x then y::PE x r else x::y::r;cases leB y x with
  | true=>rw[Bool.not_true,cond_false,cond_true,List.take_succ_cons,List.drop_succ_cons,List.cons_append,ih]
  | false=>rfl
theorem Ahy (N:Nat) (l:List Bs) (hN:1048578<N) (hl:l.length<=1048576) (hf:l.flatten.length<=1099511627776):Wp N l=some (QU l):=by
 unfold Wp;try simp only[clR]
 refine(fB (S:=List Bs) (R:=Unit) (mk:=fun i s=>((i:Int),s)) l [] (fun i s=>s.length=i/\s=(l.take i).foldl (fun s x=>PE x s) []) (fun x s=>.inr (PE x s)) (fun _=>none) (fun s=>some s.flatten) ?_ ?_ ?_ N [] ⟨rfl,rfl⟩ (by omega)).trans ?_
 ·intro i s hi hI k;obtain⟨hs,_⟩:=hI;have hp:(PE (l.getD i []) s).length=i+1:=by rw[(qE _ s).length_eq,List.length_cons,hs]
  simp (disch:=first | assumption | omega) only[Et];refine(As2 (mk:=fun j=>((j:Int),s)) (out:=fun j=>((j:Int),s)) s [] (fun y=> !leB y (l.getD i [])) ?_ ?_ N (by omega)).trans ?_
  ·intro j k hj;simp (disch:=first | assumption | omega) only[Et,FX];unfold leB;cases (Vm.bytesLess (s.getD j []) (l.getD i [])||s.getD j []==l.getD i [])<;>rfl
  ·intro k;simp (disch:=first | assumption | omega) only[Et]
  ·have hc:=AtO (l.getD i []) s;have hle:(s.findIdx fun y=> !leB y (l.getD i []))<=s.length:=List.findIdx_le_length;generalize (s.findIdx fun y=> !leB y (l.getD i []))=m at hc hle;have hc1:D9 s 0 m=s.take m:=rfl;have hc2:D9 s m s.length=s.drop m:=by unfold D9;rw[List.take_length]
   have hl1:(s.take m).length=m:=by rw[List.length_take];omega
   have hl2:(s.drop m).length=s.length - m:=List.length_drop ..;have hl3:(s.take m++[l.getD i []]).length=m+1:=by rw[List.length_append,hl1];rfl
   simp (disch:=first | assumption | omega) only[Et,hc1,hc2,hl1,hl2,hl3,FX];rw[List.append_assoc,List.singleton_append,hc]
 ·intro i s s' hi hI he;injection he with he;subst he;refine⟨by rw[(qE _ s).length_eq,List.length_cons,hI.1],?_⟩;rw[hI.2,List.take_add_one,List.getElem?_eq_getElem hi,List.foldl_append,getD_lt l i _ hi];rfl
 ·intro s k hI
  have hp:s.flatten.length<=1099511627776:=by
   have:=(Akz l [] List.Pairwise.nil).2;rw[List.append_nil]at this;have h2:=hI.2;rw[List.take_length]at h2;rw[<- h2]at this;have h3:=(this.map List.length).sum_nat
   rw[List.length_flatten]at hf ⊢;omega
  have hsl:=hI.1;simp (disch:=first | assumption | omega) only[Et];refine(SG (mk:=fun i t=>(t,(i:Int),s)) s [] id some ?_ ?_ N (by omega)).trans ?_
  ·intro i t hi ht k;rw[List.map_id]at ht;have ht:t.length+(s.getD i []).length<=s.flatten.length:=ht;simp (disch:=first | assumption | omega) only[Et,FX];rfl
  ·intro t k;simp (disch:=first | assumption | omega) only[Et]
  ·rw[List.map_id]
 ·have: ∀(l s:List Bs),Qp (R:=Unit) (fun x (s:List Bs)=>.inr (PE x s)) l s= .inr (l.foldl (fun s x=>PE x s) s):=by
   intro l
   induction l with
   | nil=>intro s;rfl
   | cons x r ih=>intro s;rw[Ue];exact ih _
  rw[this,AmU,AdJ]
