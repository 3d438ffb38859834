import Derived.Test.YtadefjgbcapakaaGreatDoorA26
import Derived.ChangeArms
import Derived.SliceStrings
import Derived.Test.YtadefjgbcapakaaGreatDoorRows
import Derived.Test.YtadefjgbcapakaaGreatDoorChecked
import Derived.Lib.LaidU8
import Derived.Shelf.Vars
import Derived.HandedShaped
import Derived.LaidLaws
set_option linter.all false
namespace Go.Proofs.YtadefjgbcapakaaGreatDoor.Pl
open IntKind (i64)
open Go Vm
section
variable (N:Nat) (hN:1048578<N) {L:List Int} (hL:L.length<=9223372036854775807)
theorem fU {k:Int} (h0:0<=k) (h1:k<9):Ends (fun s=>s∈Ht) (JV N k):=by
  unfold JV
  have h:k.tmod 9=k:=by
    have:k=0\/k=1\/k=2\/k=3\/k=4\/k=5\/k=6\/k=7\/k=8:=by omega
    rcases this with rfl | rfl | rfl | rfl | rfl | rfl | rfl | rfl | rfl<;>rfl
  rw[h]
  exact AX (decide_eq_true (by omega)) (AX (decide_eq_true (by omega)) (AX (decide_eq_true (by omega)) (D8 (G5 (P:=fun s=>s∈Ht) (fun s hs=>hs) h0 h1))))
theorem take_any {α :Type} (p: α ->Bool) {l:List α} {i:Nat} (hi:i<l.length) (d: α):(l.take (i+1)).any p=((l.take i).any p||p (l.getD i d)):=by
  rw[List.take_add_one,List.getElem?_eq_getElem hi,getD_lt l i d hi,List.any_append];simp
theorem AaN {α :Type} {l:List α} {x: α} (h:l.Nodup) (hx:x∉l):(l++[x]).Nodup:=by
  rw[List.nodup_append]
  refine⟨h,List.nodup_cons.2 ⟨List.not_mem_nil,List.nodup_nil⟩,fun a ha b hb=> ?_⟩
  rw[List.mem_singleton.1 hb]
  exact fun e=>hx (e▸ha)
include hN hL in
theorem AfE {d:List Int×Int} (p:Bool) (hd:BV L d):Ends (fun r=>(iY (bif p then Kq else Ht) r.1)/\BV L r.2) (QK N d p):=by
  unfold QK
  try simp only[clR]
  refine AQ (nx N hL hd 3 (by omega) (by omega)) ?_
  rintro ⟨r,d1,d2⟩ ⟨h0,h1,h2⟩
  dsimp only at h0 h1 h2 ⊢
  rw[w64 (by omega) (by omega)]
  refine GU (fun x=>0<=x.1/\x.1<4/\BV L (x.2.1,x.2.2.1)/\((x.2.2.2.length:Int)+x.1<=3)/\(∀ s∈x.2.2.2,s∈(bif p then Kq else Ht))/\x.2.2.2.Nodup) (fun x=>x.1.toNat) ?_ N _ ⟨by dsimp only;omega,by dsimp only;omega,h2,by simp;omega,(fun r hr=>by cases hr),List.nodup_nil⟩ (by dsimp only;omega)
  rintro ⟨t,a,b,acc⟩ ⟨g0,g1,g2,g3,g4,g5⟩ k hk
  dsimp only[U4]at g0 g1 g2 g3 g4 g5 ⊢
  refine BA (fun ht=> ?_) (fun _=>by dsimp only[U3];exact D8 ⟨⟨by dsimp only;omega,g4,g5⟩,g2⟩)
  have ht:=of_decide_eq_true ht
  refine AQ (nx N hL g2 9 (by omega) (by omega)) ?_
  rintro ⟨r9,e1,e2⟩ ⟨c0,c1,c2⟩
  dsimp only at c0 c1 c2 ⊢
  refine AQ (fU N c0 c1) ?_
  intro s hs
  refine eF (P:=fun x=>x.1∈(bif p then Kq else Ht)/\BV L (x.2.1,x.2.2.1)/\x.2.2.2=acc) (fun j hj=> ?_) ?_
  ·cases p with
   | false=>exact hj _ ⟨hs,c2,rfl⟩
   | true =>
     simp only[cond_true]
     refine AQ (nx N hL c2 5 (by omega) (by omega)) ?_
     rintro ⟨r3,q1,q2⟩ ⟨z0,z1,z2⟩
     dsimp only at z0 z1 z2 ⊢
     exact AX (decide_eq_true (by omega)) (AX (decide_eq_true (by omega)) (AX (decide_eq_true (by omega)) (hj _ ⟨G5 (P:=fun s=>s∈Kq) (fun s hs=>hs) z0 z1,z2,rfl⟩)))
  ·rintro ⟨s,q1,q2,x⟩ ⟨y1,y2,y3⟩
   dsimp only at y1 y2 y3
   subst y3
   dsimp only[U4]
   refine GU (fun z=>0<=z.2.1/\z.2.1<=(x.length:Int)/\BV L (z.2.2.1,z.2.2.2.1)/\z.2.2.2.2=x/\z.1=(x.take z.2.1.toNat).any (fun y=>s==y)) (fun z=>x.length - z.2.1.toNat) ?_ N _ ⟨Int.le_refl _,by dsimp only;omega,y2,rfl,rfl⟩ (by dsimp only;omega)
   rintro ⟨w1,i,a',b',x'⟩ ⟨p0,p1,p2,p3,p4⟩ k' hk'
   dsimp only[U5]at p0 p1 p2 p3 p4 ⊢
   subst p3
   refine BA (fun hi=> ?_) (fun hi=> ?_)
   ·have hi:=of_decide_eq_true hi
    refine AX (decide_eq_true (by omega)) (AX (decide_eq_true (by omega)) (AX (decide_eq_true (by omega)) (hk' _ ⟨?_,?_,p2,rfl,?_⟩ ?_)))
    ·dsimp only;rw[w64 (by omega) (by omega)];omega
    ·dsimp only;rw[w64 (by omega) (by omega)];omega
    ·dsimp only
     rw[w64 (by omega) (by omega),show(i+1).toNat=i.toNat+1 by omega,take_any _ (by omega) [],p4]
    ·dsimp only;rw[w64 (by omega) (by omega)];omega
   ·have hi:=of_decide_eq_false hi
    rw[List.take_of_length_le (by omega)]at p4
    dsimp only[U4]
    refine BA (fun hc=> ?_) (fun _=> ?_)
    ·have hnot:s∉x':=fun hm=>by
       rw[p4,List.any_eq_true.2 ⟨s,hm,beq_self_eq_true s⟩]at hc;cases hc
     refine AX (decide_eq_true (by omega)) (hk _ ⟨?_,?_,p2,?_,Qb g4 y1,AaN g5 hnot⟩ ?_)
     ·dsimp only;rw[w64 (by omega) (by omega)];omega
     ·dsimp only;rw[w64 (by omega) (by omega)];omega
     ·dsimp only;rw[w64 (by omega) (by omega),List.length_append];simp;omega
     ·dsimp only;rw[w64 (by omega) (by omega)];omega
    ·refine hk _ ⟨?_,?_,p2,?_,g4,g5⟩ ?_
     ·dsimp only;rw[w64 (by omega) (by omega)];omega
     ·dsimp only;rw[w64 (by omega) (by omega)];omega
     ·dsimp only;rw[w64 (by omega) (by omega)];omega
     ·dsimp only;rw[w64 (by omega) (by omega)];omega
include hN hL in
theorem AeN {d:List Int×Int} (hd:BV L d):Ends (fun r=>Aco r.1/\BV L r.2) (Nl N d):=by
  unfold Nl
  try simp only[clR]
  refine AQ (nx N hL hd 3 (by omega) (by omega)) ?_
  rintro ⟨r,d1,d2⟩ ⟨h0,h1,h2⟩
  dsimp only at h0 h1 h2 ⊢
  rw[w64 (by omega) (by omega)]
  refine GU (fun x=>0<=x.1/\x.1<4/\BV L (x.2.1,x.2.2.1)/\((x.2.2.2.length:Int)+x.1<=3)/\(∀ m∈x.2.2.2,m.1∈Ht/\m.2∈Ht)/\x.2.2.2.Nodup) (fun x=>x.1.toNat) ?_ N _ ⟨by dsimp only;omega,by dsimp only;omega,h2,by simp;omega,(fun r hr=>by cases hr),List.nodup_nil⟩ (by dsimp only;omega)
  rintro ⟨t,a,b,acc⟩ ⟨g0,g1,g2,g3,g4,g5⟩ k hk
  dsimp only[U4]at g0 g1 g2 g3 g4 g5 ⊢
  refine BA (fun ht=> ?_) (fun _=>by dsimp only[U3];exact D8 ⟨⟨by dsimp only;omega,g4,g5⟩,g2⟩)
  have ht:=of_decide_eq_true ht
  refine AQ (nx N hL g2 9 (by omega) (by omega)) ?_
  rintro ⟨r9,e1,e2⟩ ⟨c0,c1,c2⟩
  dsimp only at c0 c1 c2 ⊢
  refine AQ (fU N c0 c1) ?_
  intro s hs
  refine AQ (nx N hL c2 9 (by omega) (by omega)) ?_
  rintro ⟨r9,e1,e2⟩ ⟨c0,c1,c2⟩
  dsimp only at c0 c1 c2 ⊢
  refine AQ (fU N c0 c1) ?_
  intro s2 hs2
  refine GU (fun z=>0<=z.2.1/\z.2.1<=(acc.length:Int)/\BV L (z.2.2.1,z.2.2.2.1)/\z.2.2.2.2.1=s/\z.2.2.2.2.2.1=s2/\z.2.2.2.2.2.2=acc/\z.1=(acc.take z.2.1.toNat).any (fun y=>s==y.1&&(s2==y.2&&true))) (fun z=>acc.length - z.2.1.toNat) ?_ N _ ⟨Int.le_refl _,by dsimp only;omega,c2,rfl,rfl,rfl,rfl⟩ (by dsimp only;omega)
  rintro ⟨w1,i,a',b',s',s2',x'⟩ ⟨p0,p1,p2,p3,p4,p5,p6⟩ k' hk'
  dsimp only[U7]at p0 p1 p2 p3 p4 p5 p6 ⊢
  subst p3 p4 p5
  refine BA (fun hi=> ?_) (fun hi=> ?_)
  ·have hi:=of_decide_eq_true hi
   refine AX (decide_eq_true (by omega)) (AX (decide_eq_true (by omega)) (AX (decide_eq_true (by omega)) (hk' _ ⟨?_,?_,p2,rfl,rfl,rfl,?_⟩ ?_)))
   ·dsimp only;rw[w64 (by omega) (by omega)];omega
   ·dsimp only;rw[w64 (by omega) (by omega)];omega
   ·dsimp only
    rw[w64 (by omega) (by omega),show(i+1).toNat=i.toNat+1 by omega,take_any _ (by omega) ([],[]),p6]
   ·dsimp only;rw[w64 (by omega) (by omega)];omega
  ·have hi:=of_decide_eq_false hi
   rw[List.take_of_length_le (by omega)]at p6
   dsimp only[U6]
   refine BA (fun hc=> ?_) (fun _=> ?_)
   ·have hnot:(s',s2')∉x':=fun hm=>by
      rw[p6,List.any_eq_true.2 ⟨(s',s2'),hm,by simp⟩]at hc;cases hc
    refine AX (decide_eq_true (by omega)) (hk _ ⟨?_,?_,p2,?_,Qb g4 ⟨hs,hs2⟩,AaN g5 hnot⟩ ?_)
    ·dsimp only;rw[w64 (by omega) (by omega)];omega
    ·dsimp only;rw[w64 (by omega) (by omega)];omega
    ·dsimp only;rw[w64 (by omega) (by omega),List.length_append];simp;omega
    ·dsimp only;rw[w64 (by omega) (by omega)];omega
   ·refine hk _ ⟨?_,?_,p2,?_,g4,g5⟩ ?_
    ·dsimp only;rw[w64 (by omega) (by omega)];omega
    ·dsimp only;rw[w64 (by omega) (by omega)];omega
    ·dsimp only;rw[w64 (by omega) (by omega)];omega
    ·dsimp only;rw[w64 (by omega) (by omega)];omega
structure OkP (hb ca:Bool) (pl us re im ia:Int) (hc:Bool) (pe ex:List Gn) (sk ak:Bs) (fr:List Pt) (pu po:List Bs) (ma:List (Bs×Bs)) (na:List Gn) (pt:List Pt) (un:List Ex):Prop where
  bas:(hb=true/\(ca,pl)∈xR)\/(hb=false/\ca=false/\pl= -1)
  us:0<=us/\us<=511
  pu:iY Kq pu
  po:iY Ht po
  ma:Aco ma
  re:re∈oW
  im:im∈oW
  ia: -1<=ia/\ia<=64
  na:na.length<=2/\ ∀ g∈na,okG false g
  con:(hc=false/\pe=[]/\ex=[])\/(hc=true/\okS (pe,ex))
  sk:sk∈skL
  ak:ak∈akL
  pt:pt=[]\/WE pt
  fr:fr=[]\/WE fr
  un:un∈unL
theorem five {n:Int} (h0:0<=n) (h1:n<5):i64.wrap (n - 1)∈oW/\(true,i64.wrap (n - 1))∈xR:=by
  have:n=0\/n=1\/n=2\/n=3\/n=4:=by omega
  rcases this with rfl | rfl | rfl | rfl | rfl<;>exact⟨by decide,by decide⟩
theorem AmL {α :Type} {l:List α} {a b:Nat} {x: α} (h:x∈AA l a b):x∈l:=List.mem_of_mem_take (List.mem_of_mem_drop h)
include hN hL in
theorem AmZ {d:List Int×Int} (hd:BV L d):Ends (fun r=>OkI r.1/\BV L r.2) (QI N d):=by
  unfold QI
  try simp only[clR]
  rw[show Zg N=some (false,false,-1,0,[],[],[],-1,-1,-1,[],false,[],[],[],[],[],[],[])from rfl,Ae]
  refine AQ (nx N hL hd 6 (by omega) (by omega)) ?_
  rintro ⟨r,d1,d2⟩ ⟨h0,h1,h2⟩
  dsimp only at h0 h1 h2 ⊢
  refine GU (fun x=> ∃ t a b hb ca pl us re im ia hc pe ex sk ak fr pu po ma na pt un,x=(t,a,b,hb,ca,pl,us,re,im,ia,hc,pe,ex,sk,ak,fr,pu,po,ma,na,pt,un)/\0<=t/\t<6/\BV L (a,b)/\OkP hb ca pl us re im ia hc pe ex sk ak fr pu po ma na pt un) (fun x=>x.1.toNat) ?_ N _ ⟨r,d1,d2,false,false,-1,0,-1,-1,-1,false,[],[],[],[],[],[],[],[],[],[],[],rfl,h0,h1,h2,⟨Or.inr ⟨rfl,rfl,rfl⟩,by omega,⟨Nat.zero_le _,(fun s hs=>by cases hs),List.nodup_nil⟩,⟨Nat.zero_le _,(fun s hs=>by cases hs),List.nodup_nil⟩,⟨Nat.zero_le _,(fun s hs=>by cases hs),List.nodup_nil⟩,by decide,by decide,by omega,⟨Nat.zero_le _,fun s hs=>by cases hs⟩,Or.inl ⟨rfl,rfl,rfl⟩,by decide,by decide,Or.inl rfl,Or.inl rfl,by decide⟩⟩ (by dsimp only;omega)
  rintro _ ⟨t,a,b,hb,ca,pl,us,re,im,ia,hc,pe,ex,sk,ak,fr,pu,po,ma,na,pt,un,rfl,g0,g1,g2,P⟩ k hk
  dsimp only[U22]
  refine BA (fun ht=> ?_) (fun _=> ?_)
  ·have ht:=of_decide_eq_true ht
   have go: ∀(a':List Int) (b':Int) (hb' ca':Bool) (pl' us' re' im' ia':Int) (hc':Bool) (pe' ex':List Gn) (sk' ak':Bs) (fr':List Pt) (pu' po':List Bs) (ma':List (Bs×Bs)) (na':List Gn) (pt':List Pt) (un':List Ex),BV L (a',b')->OkP hb' ca' pl' us' re' im' ia' hc' pe' ex' sk' ak' fr' pu' po' ma' na' pt' un'->Ends (fun r=>OkI r.1/\BV L r.2) (k (i64.wrap (t - 1),a',b',hb',ca',pl',us',re',im',ia',hc',pe',ex',sk',ak',fr',pu',po',ma',na',pt',un')):=by
     intro a' b' hb' ca' pl' us' re' im' ia' hc' pe' ex' sk' ak' fr' pu' po' ma' na' pt' un' hda hP
     rw[w64 (by omega) (by omega)]
     exact hk _ ⟨t - 1,a',b',hb',ca',pl',us',re',im',ia',hc',pe',ex',sk',ak',fr',pu',po',ma',na',pt',un',rfl,by omega,by omega,hda,hP⟩ (by dsimp only;omega)
   refine AQ (nx N hL g2 14 (by omega) (by omega)) ?_
   rintro ⟨r,d1,d2⟩ ⟨h0,h1,h2⟩
   dsimp only at h0 h1 h2 ⊢
   refine eF (P:=fun x=> ∃ q,x=(q,d1,d2,hb,ca,pl,us,re,im,ia,hc,pe,ex,sk,ak,fr,un,pt,na,ma,po,pu)) (fun j hj=>BA (fun _=>hj _ ⟨_,rfl⟩) (fun _=>hj _ ⟨_,rfl⟩)) ?_
   rintro _ ⟨q,rfl⟩
   dsimp only[U22]
   refine BA (fun _=> ?_) (fun _=>BA (fun _=> ?_) (fun _=>BA (fun _=> ?_) (fun _=>BA (fun _=> ?_) (fun _=>BA (fun _=> ?_) (fun _=>BA (fun _=> ?_) (fun _=>BA (fun _=> ?_) (fun _=>BA (fun _=> ?_) (fun _=>BA (fun _=> ?_) (fun _=>BA (fun _=> ?_) (fun _=>BA (fun _=> ?_) (fun _=>BA (fun _=> ?_) (fun _=> ?_))))))))))))
   ·refine AQ (nx N hL h2 5 (by omega) (by omega)) ?_
    rintro ⟨r,e1,e2⟩ ⟨f0,f1,f2⟩
    dsimp only at f0 f1 f2 ⊢
    exact go _ _ _ _ _ _ _ _ _ _ _ _ _ _ _ _ _ _ _ _ _ f2 {P with bas:=Or.inl ⟨rfl,(five f0 f1).2⟩}
   ·exact go _ _ _ _ _ _ _ _ _ _ _ _ _ _ _ _ _ _ _ _ _ h2 {P with bas:=Or.inl ⟨rfl,by decide⟩}
   ·refine AQ (nx N hL h2 511 (by omega) (by omega)) ?_
    rintro ⟨r,e1,e2⟩ ⟨f0,f1,f2⟩
    dsimp only at f0 f1 f2 ⊢
    exact go _ _ _ _ _ _ _ _ _ _ _ _ _ _ _ _ _ _ _ _ _ f2 {P with us:=by rw[w64 (by omega) (by omega)];omega}
   ·refine AQ (AfE N hN hL true h2) ?_
    rintro ⟨r,e1,e2⟩ ⟨f0,f2⟩
    exact go _ _ _ _ _ _ _ _ _ _ _ _ _ _ _ _ _ _ _ _ _ f2 {P with pu:=f0}
   ·refine AQ (AfE N hN hL false h2) ?_
    rintro ⟨r,e1,e2⟩ ⟨f0,f2⟩
    exact go _ _ _ _ _ _ _ _ _ _ _ _ _ _ _ _ _ _ _ _ _ f2 {P with po:=f0}
   ·refine AQ (AeN N hN hL h2) ?_
    rintro ⟨r,e1,e2⟩ ⟨f0,f2⟩
    exact go _ _ _ _ _ _ _ _ _ _ _ _ _ _ _ _ _ _ _ _ _ f2 {P with ma:=f0}
   ·refine AQ (nx N hL h2 5 (by omega) (by omega)) ?_
    rintro ⟨r,e⟩ ⟨f0,f1,f2⟩
    refine AQ (nx N hL f2 5 (by omega) (by omega)) ?_
    rintro ⟨r2,e1,e2⟩ ⟨c0,c1,c2⟩
    dsimp only at f0 f1 c0 c1 c2 ⊢
    exact go _ _ _ _ _ _ _ _ _ _ _ _ _ _ _ _ _ _ _ _ _ c2 {P with re:=(five f0 f1).1,im:=(five c0 c1).1}
   ·refine AQ (nx N hL h2 65 (by omega) (by omega)) ?_
    rintro ⟨r,e1,e2⟩ ⟨f0,f1,f2⟩
    dsimp only at f0 f1 f2 ⊢
    exact go _ _ _ _ _ _ _ _ _ _ _ _ _ _ _ _ _ _ _ _ _ f2 {P with ia:=by omega}
   ·refine AQ (YG N hN hL h2) ?_
    rintro ⟨x,e⟩ ⟨f0,f2⟩
    refine AQ (YG N hN hL f2) ?_
    rintro ⟨y,e⟩ ⟨f1,f2⟩
    refine AQ (nx N hL f2 2 (by omega) (by omega)) ?_
    rintro ⟨r2,e1,e2⟩ ⟨c0,c1,c2⟩
    dsimp only at f0 f1 c0 c1 c2 ⊢
    rw[w64 (by omega) (by omega)]
    refine AX (decide_eq_true (by omega)) (AX (decide_eq_true (by omega)) ?_)
    refine go _ _ _ _ _ _ _ _ _ _ _ _ _ _ _ _ _ _ _ _ _ c2 {P with na:=⟨?_,fun g hg=> ?_⟩}
    ·unfold AA;rw[List.length_drop,List.length_take];simp;omega
    ·rcases List.mem_cons.1 (AmL hg)with rfl | hg
     ·exact f0
     ·rw[List.mem_singleton.1 hg];exact f1
   ·refine AQ (Afe N hN hL h2) ?_
    rintro ⟨⟨x,y⟩,e1,e2⟩ ⟨f0,f2⟩
    exact go _ _ _ _ _ _ _ _ _ _ _ _ _ _ _ _ _ _ _ _ _ f2 {P with con:=Or.inr ⟨rfl,f0⟩}
   ·refine AQ (nx N hL h2 3 (by omega) (by omega)) ?_
    rintro ⟨r,e⟩ ⟨f0,f1,f2⟩
    dsimp only at f0 f1 f2 ⊢
    refine AX (decide_eq_true (by omega)) (AX (decide_eq_true (by omega)) (AX (decide_eq_true (by omega)) ?_))
    refine AQ (nx N hL f2 2 (by omega) (by omega)) ?_
    rintro ⟨r2,e1,e2⟩ ⟨c0,c1,c2⟩
    dsimp only at c0 c1 c2 ⊢
    refine AX (decide_eq_true (by omega)) (AX (decide_eq_true (by omega)) (AX (decide_eq_true (by omega)) ?_))
    exact go _ _ _ _ _ _ _ _ _ _ _ _ _ _ _ _ _ _ _ _ _ c2 {P with sk:=G5 (P:=fun s=>s∈skL) (fun s hs=>hs) f0 f1,ak:=G5 (P:=fun s=>s∈akL) (fun s hs=>hs) c0 c1}
   ·refine AQ (AaV N hN hL h2) ?_
    rintro ⟨r,e1,e2⟩ ⟨f0,f2⟩
    exact go _ _ _ _ _ _ _ _ _ _ _ _ _ _ _ _ _ _ _ _ _ f2 {P with pt:=Or.inr f0}
   ·refine AQ (AaV N hN hL h2) ?_
    rintro ⟨r,e⟩ ⟨f0,f2⟩
    refine AQ (nx N hL f2 2 (by omega) (by omega)) ?_
    rintro ⟨r2,e⟩ ⟨c0,c1,c2⟩
    refine AQ (nx N hL c2 3 (by omega) (by omega)) ?_
    rintro ⟨r3,e1,e2⟩ ⟨z0,z1,z2⟩
    dsimp only at f0 c0 c1 z0 z1 z2 ⊢
    refine AX (decide_eq_true (by omega)) (AX (decide_eq_true (by omega)) ?_)
    refine go _ _ _ _ _ _ _ _ _ _ _ _ _ _ _ _ _ _ _ _ _ z2 {P with fr:=Or.inr f0,un:= ?_}
    have hz:r3=0\/r3=1\/r3=2:=by omega
    rcases hz with rfl | rfl | rfl
    ·exact List.mem_cons_self
    ·cases r2==1<;>decide
    ·cases r2==1<;>decide
  ·dsimp only[U21]
   exact D8 ⟨⟨P.bas,P.us,P.pu,P.po,P.ma,P.re,P.im,P.ia,P.na,P.con,P.sk,P.ak,P.pt,P.fr,P.un⟩,g2⟩
end
end Go.Proofs.YtadefjgbcapakaaGreatDoor.Pl
namespace Go.Proofs.YtadefjgbcapakaaGreatDoor.Pl
open IntKind (i64)
open Go Vm
theorem Ak8 (M:Nat):Qo (M+400)=some true:=by kernel_rfl
theorem AmE {N:Nat} (hN:1048578<N):Qo N=some true:=by
  obtain⟨M,rfl⟩: ∃ M,N=M+400:=⟨N - 400,by omega⟩
  exact Ak8 M
theorem Ajk (N:Nat) (l:List Int) (hN:1048578<N) (hl:l.length<=9223372036854775807): ∃ x d,QI N (l,0)=some (x,d)/\OkI x:=by
  obtain⟨⟨x,d⟩,h1,h2,_⟩:=AmZ N hN hl (d:=(l,0)) ⟨0,rfl,Nat.zero_le _⟩
  exact⟨x,d,h1,h2⟩
theorem Aif (N:Nat) (l:List Int) (hN:1048578<N) (hl:l.length<=9223372036854775807):Gs N l=some true:=by
  obtain⟨x,d,h1,h⟩:=Ajk N l hN hl
  have e1:=Rt N x hN (Aed h)
  have e2:=AnY hN h
  have e3:=Rt N (inK x (JC x)) hN (AfK h (iG h.un).1)
  rw[Apm h]at e3
  have hlen:(encI x).1.length<=1048576:=by
    have:=AfA h
    rw[sN h];show((La x).map (Gp x)).length<=_;rw[List.length_map];omega
  have e4:=ZC N (encI x).1 hN hlen
  have e5:(encI x).2=0:=by rw[sN h]
  unfold Gs
  rw[show pI N l=some (l,0)from rfl,Ae,h1,Ae]
  dsimp only
  rw[e1,Ae,e2,Ae]
  dsimp only
  rw[e3,Ae,AmE hN,Ae]
  simp only[Au,e4,e5,beq_self_eq_true,cond_true,AP,Bool.true_or,Option.isSome_some,Option.getD_some]
end Go.Proofs.YtadefjgbcapakaaGreatDoor.Pl
namespace Go.Proofs.YtadefjgbcapakaaGreatDoor.Vm
open Go.RowKit
theorem Moves.below {T:Nat->Prop} {w w':World} (h:Moves (fun _ _=>none) T w w'):Below w.heap.size w w' :=
  ⟨h.os,h.tape,h.output,h.size,fun b hb=>by
    rcases h.blk b hb with e | ⟨c,c',e,fr,_,_,_,_,k,o,_,ho,_⟩ | ⟨_,_,_,_,o,_,_,ho,_⟩
    ·exact e
    ·cases ho
    ·cases ho⟩
theorem Sig.ApW {Af Az:List Sh} {f:ShT Af->Option (ShT (EH Af Az))} {xs:List A} {a:ShT Af} {o:ShT (EH Af Az)} (hd:PU Af xs=some a) (hf:f a=some o):(Sig.of Af Az f).F xs=some (encs (EH Af Az) o):=by
  unfold Sig.F Sig.of
  dsimp only
  rw[hd]
  dsimp only
  rw[hf]
  rfl
theorem Ajx {P:Program} {f:FuncId} {sg:Sig} (h:Spec P f sg) {xs:List A} {vs:Array Value} {W:World} (hF:sg.F xs=some [.bool true]) (hress:sg.Az=[.cell false .bool]) (hv:vs.size=xs.length) (hl:xs.length=sg.Af.length) (h100:xs.length<=100)
    (hx: ∀ j,j<xs.length->IR (fun _ _=>none) W (256*j) (vs.getD j undef) (xs.getD j .undef)) (hI:Inv (fun _ _=>none) W):Calls P f vs W fun e w'=>e= .returned (.bool true)/\Below W.heap.size W w':=by
  refine(h.2 (fun _ _=>none) W vs xs _ hI hv hl h100 hx hF).mono fun e w' hq=> ?_
  obtain⟨v,O',he,hc⟩:=hq
  obtain⟨us,h1,h2,h3⟩:=hc.res
  rw[hress]at h1
  have h1':us.size=1:=h1
  have h4:Ai O' w' (us.getD 0 undef) (.bool true):=h3 0 (by omega)
  have h5:us.getD 0 undef= .bool true:=by
    generalize us.getD 0 undef=z at h4
    cases h4;rfl
  have h6:v= .bool true:=by
    rw[h2,dif_pos h1',<- h5]
    simp [Array.getD_eq_getD_getElem?,h1']
  exact⟨by rw[he,h6],hc.moves.below⟩
open Go.ChangeShapes Go.WideShapes
def nobody:Own:=fun _ _=>none
def AlD:A->Prop
  | .int k n=>k.min<=n/\n<=k.max
  | .str s=>s.length<=9223372036854775807
  | _=>True
def okN:Nat->A->Prop
  | 0,_=>False
  | n+1,.sl l=>l.xs.length<=9223372036854775807/\ ∀ c∈l.es,∀ a∈c,okN n a
  | _+1,a=>AlD a
structure Opened (n:Nat) (w:World) (ks:List CK) (cs:List Value) (aa:List A):Prop where
  lc:cs.length=ks.length
  la:aa.length=ks.length
  rel: ∀ j,j<ks.length->Ai nobody w (cs.getD j undef) (aa.getD j .undef)
  made:((tyl ks).mk aa).1=true
  ok: ∀ a∈aa,okN n a
theorem Aos: ∀(n:Nat) (a:A),okN n a->okN (n+1) a:=by
  intro n
  induction n with
  | zero=>intro a h;exact h.elim
  | succ n ih =>
    intro a h
    cases a<;>first | exact h | exact⟨h.1,fun c hc z hz=>ih z (h.2 c hc z hz)⟩
theorem Opened.up {n:Nat} {w:World} {ks:List CK} {cs:List Value} {aa:List A} (h:Opened n w ks cs aa):Opened (n+1) w ks cs aa:=⟨h.lc,h.la,h.rel,h.made,fun a ha=>Aos n a (h.ok a ha)⟩
theorem Aj9: ∀(a:List CK) {b:List CK} {x y:List A},((tyl a).mk x).1=true->((tyl b).mk y).1=true->((tyl (a++b)).mk (x++y)).1=true:=by
  intro a
  induction a with
  | nil =>
    intro b x y hx hy
    cases x with
    | nil=>exact hy
    | cons _ _=>cases hx
  | cons k a ih =>
    intro b x y hx hy
    cases k with
    | bool =>
      cases x with
      | nil=>cases hx
      | cons c x=>cases c<;>first | exact ih (x:=x) hx hy | cases hx
    | int k =>
      cases x with
      | nil=>cases hx
      | cons c x =>
        cases c<;>first
          | (simp only[tyl,Ty.mk,Bool.and_eq_true]at hx
             simp only[List.cons_append,tyl,Ty.mk,Bool.and_eq_true]
             exact⟨hx.1,ih hx.2 hy⟩)
          | cases hx
    | str =>
      cases x with
      | nil=>cases hx
      | cons c x=>cases c<;>first | exact ih (x:=x) hx hy | cases hx
    | sl e t =>
      cases x with
      | nil=>cases hx
      | cons c x =>
        cases c with
        | sl l =>
          simp only[tyl,Ty.mk]at hx
          simp only[List.cons_append,tyl,Ty.mk]
          cases hc:l.cast t with
          | none=>rw[hc]at hx;cases hx
          | some xs=>rw[hc]at hx;exact ih (x:=x) hx hy
        | _=>cases hx
    | sln e t =>
      cases x with
      | nil=>cases hx
      | cons c x =>
        cases c with
        | sl l =>
          simp only[tyl,Ty.mk]at hx
          simp only[List.cons_append,tyl,Ty.mk]
          cases hc:l.cast t with
          | none=>rw[hc]at hx;cases hx
          | some xs=>rw[hc]at hx;exact ih (x:=x) hx hy
        | _=>cases hx
    | ptr =>
      cases x with
      | nil=>cases hx
      | cons c x=>cases c<;>first | exact ih (x:=x) hx hy | cases hx
    | fn =>
      cases x with
      | nil=>cases hx
      | cons c x=>cases c<;>first | exact ih (x:=x) hx hy | cases hx
    | mp kt vt =>
      cases x with
      | nil=>cases hx
      | cons c x =>
        cases c with
        | ump l =>
          simp only[tyl,Ty.mk]at hx
          simp only[List.cons_append,tyl,Ty.mk]
          cases hc:l.cast kt vt with
          | none=>rw[hc]at hx;cases hx
          | some xs=>rw[hc]at hx;exact ih (x:=x) hx hy
        | _=>cases hx
    | oth =>
      cases x with
      | nil=>cases hx
      | cons c x=>cases c<;>first | exact ih (x:=x) hx hy | cases hx
theorem Opened.nil {n:Nat} {w:World}:Opened n w [] [] []:=⟨rfl,rfl,fun j hj=>absurd hj (Nat.not_lt_zero j),rfl,fun a ha=>(by cases ha)⟩
theorem Opened.append {n:Nat} {w:World} {a b:List CK} {x y:List Value} {p q:List A} (h1:Opened n w a x p) (h2:Opened n w b y q):Opened n w (a++b) (x++y) (p++q):=by
  refine⟨by simp [h1.lc,h2.lc],by simp [h1.la,h2.la],fun j hj=> ?_,Aj9 a h1.made h2.made,fun z hz=> ?_⟩
  ·rw[List.length_append]at hj
   by_cases h:j<a.length
   ·have:=h1.rel j h
    rw[List.getD_eq_getElem?_getD,List.getElem?_append_left (by rw[h1.lc];exact h),<- List.getD_eq_getElem?_getD,List.getD_eq_getElem?_getD (l:=p++q),List.getElem?_append_left (by rw[h1.la];exact h),<- List.getD_eq_getElem?_getD]
    exact this
   ·have:=h2.rel (j - a.length) (by omega)
    rw[List.getD_eq_getElem?_getD,List.getElem?_append_right (by rw[h1.lc];omega),<- List.getD_eq_getElem?_getD,List.getD_eq_getElem?_getD (l:=p++q),List.getElem?_append_right (by rw[h1.la];omega),<- List.getD_eq_getElem?_getD,h1.lc,h1.la]
    exact this
  ·rcases List.mem_append.1 hz with hz | hz
   ·exact h1.ok z hz
   ·exact h2.ok z hz
theorem Opened.one {n:Nat} {w:World} {k:CK} {v:Value} {a:A} (hr:Ai nobody w v a) (hm:((tyl [k]).mk [a]).1=true) (ho:okN n a):Opened n w [k] [v] [a] :=
  ⟨rfl,rfl,fun j hj=>by
    have:j=0:=by simp at hj;omega
    subst this;exact hr,hm,fun z hz=>by rw[List.mem_singleton.1 hz];exact ho⟩
def Qk (P:Program) (n t:Nat):Nat:=match ET P n t with | some cs=>cs.length | none=>0
def vH (P:Program) (n:Nat):List Field->Nat->Bool
  | [],_=>true
  | f::r,o=>Nat.beq f.offset o&&Nat.beq (P.cellsOf f.type) (Qk P n f.type)&&vH P n r (o+Qk P n f.type)
def XU (P:Program):Nat->Nat->Bool
  | 0,_=>false
  | n+1,t=>match P.underlying t with
    | some .bool=>true
    | some (.int _)=>true
    | some .string=>true
    | some (.slice e)=>XU P n e&&Nat.beq (P.cellsOf e) (Qk P n e)&&Nat.blt 0 (Qk P n e)&&(match ET P n e with | some cs=>cs.all CK.plain | none=>false)
    | some (.struct fs)=>Nat.beq (P.cellsOf t) (Qk P (n+1) t)&&vH P n fs.toList 0&&fs.toList.all (fun f=>XU P n f.type)
    | _=>false
section
variable {H:Type} {enc:TypeId×Value->H} {P:Program} {w:World} {base:Nat} {spare:Nat->Bool} {held:Bool}
theorem bC {a:Addr} {n:Nat} {cs:List Value} (h:w.cells? base a n=some cs):cs.length=n/\ ∀ j,j<n->w.cell? (a.add j)=some (cs.getD j undef):=by
  unfold World.cells? at h
  split at h
  ·have key: ∀(l:List Nat) (cs:List Value),l.mapM (fun i=>w.cell? (a.add i))=some cs->cs.length=l.length/\ ∀ j (hj:j<l.length),w.cell? (a.add l[j])=some (cs.getD j undef):=by
     intro l
     induction l with
     | nil =>
       intro cs h
       simp at h
       subst h
       exact⟨rfl,fun j hj=>by cases hj⟩
     | cons i l ih =>
       intro cs h
       rw[List.mapM_cons]at h
       cases h1:w.cell? (a.add i)with
       | none=>rw[h1]at h;cases h
       | some v =>
         rw[h1]at h
         cases h2:l.mapM (fun i=>w.cell? (a.add i))with
         | none=>rw[h2]at h;cases h
         | some r =>
           rw[h2]at h
           injection h with h
           subst h
           obtain⟨k1,k2⟩:=ih r h2
           refine⟨by simp [k1],fun j hj=> ?_⟩
           cases j with
           | zero=>exact h1
           | succ j=>exact k2 j (by simpa using hj)
   obtain⟨h1,h2⟩:=key _ _ h
   rw[List.length_range]at h1
   refine⟨h1,fun j hj=> ?_⟩
   have:=h2 j (by rw[List.length_range];exact hj)
   rw[List.getElem_range]at this
   exact this
  ·cases h
theorem AlY {l:List Value} {o a b:Nat}:(l.drop o).take (a+b)=(l.drop o).take a++(l.drop (o+a)).take b:=by
  rw[List.take_add,List.drop_drop]
theorem Zj (e:Nat) (t:Ty) (xs:List t.Val):((tyl [.sl e t]).mk [.sl ⟨t,xs⟩]).1=true:=by
  simp only[tyl,Ty.mk]
  rw[Sl.Vg]
  rfl
theorem Afl (hspare: ∀ b,spare b=true): ∀(n:Nat) (t:TypeId) (ks:List CK) (fuel:Nat) (cs:List Value) (x:DataW H×List MemPlace),ET P n t=some ks->XU P n t=true->DataW.trod enc P w base spare held fuel t cs=some x ->
    ∃ aa,Opened n w ks cs aa:=by
  intro n
  induction n with
  | zero=>intro t ks fuel cs x h;cases h
  | succ n ih =>
    intro t ks fuel cs x hck hok h
    unfold ET at hck
    unfold XU at hok
    cases hu:P.underlying t with
    | none=>rw[hu]at hck;cases hck
    | some d =>
      rw[hu]at hck hok
      cases d with
      | bool =>
        injection hck with hck
        subst hck
        obtain⟨b,rfl,_⟩:=DataW.trod_bool hu h
        exact⟨[.bool b],Opened.one (.bool b) rfl trivial⟩
      | int k =>
        injection hck with hck
        subst hck
        obtain⟨v,rfl,_,hw⟩:=DataW.trod_int hu h
        have hk:AlD (.int k v):=by
          unfold Lit.wf at hw
          rw[Bool.and_eq_true,decide_eq_true_eq,decide_eq_true_eq]at hw
          exact hw
        exact⟨[.int k v],Opened.one (.int k v) (by cases k<;>rfl) hk⟩
      | string =>
        injection hck with hck
        subst hck
        obtain⟨v,rfl,_,hw⟩:=DataW.trod_string hu h
        have hk:AlD (.str v.data.toList):=by
          show v.data.toList.length<=_
          have e:v.data.toList.length=v.size:=by rw[Array.length_toList];rfl
          have:maxLen=9223372036854775807:=rfl
          omega
        exact⟨[.str v.data.toList],Opened.one (.str v) rfl hk⟩
      | slice e =>
        dsimp only at hck hok
        simp only[Bool.and_eq_true]at hok
        obtain⟨⟨⟨hoe,hce⟩,hc0⟩,hpl⟩:=hok
        cases hke:ET P n e with
        | none=>rw[hke]at hpl;cases hpl
        | some ke =>
          rw[hke]at hck hpl
          dsimp only at hck hpl
          rw[hpl]at hck
          injection hck with hck
          subst hck
          have hlen:P.cellsOf e=ke.length:=by
            have:=Nat.eq_of_beq_eq_true hce
            unfold Qk at this
            rw[hke]at this;exact this
          rcases DataW.trod_slice hu h with ⟨rfl,_⟩ | ⟨a,len,cap,elems,rest,m,_,rfl,_,hb,hl,hm,hel,hels,hsp,_⟩
          ·exact⟨[.sl ⟨tyl ke,[]⟩],Opened.one (.nil _) (Zj _ _ _) ⟨Nat.zero_le _,fun c hc=>(by cases hc)⟩⟩
          ·by_cases hcap:cap=0
           ·have hlen0:len=0:=by omega
            subst hcap
            subst hlen0
            exact⟨[.sl ⟨tyl ke,[]⟩],Opened.one (.sl0 a _) (Zj _ _ _) ⟨Nat.zero_le _,fun c hc=>(by cases hc)⟩⟩
           have hk0:0<P.cellsOf e:=by
             have h2:=Nat.eq_of_beq_eq_true hce
             rw[h2]
             simpa using hc0
           have hread: ∃ u,w.cell? a=some u:=by
             by_cases h0:0<len
             ·have he:=hels 0 h0
              rw[List.getElem?_eq_getElem (by omega:0<elems.length),Option.bind_eq_some_iff]at he
              obtain⟨q,hq,_⟩:=he
              obtain⟨_,k2⟩:=bC hq
              have:=k2 0 hk0
              rw[Nat.zero_mul]at this
              exact⟨_,this⟩
             ·have hz:len=0:=by omega
              obtain⟨hr1,hr2⟩:=hsp (hspare _)
              have he:=hr2 0 (by omega)
              rw[List.getElem?_eq_getElem (by omega:0<rest.length),Option.bind_eq_some_iff]at he
              obtain⟨q,hq,_⟩:=he
              obtain⟨_,k2⟩:=bC hq
              have:=k2 0 hk0
              rw[hz,Nat.zero_mul]at this
              exact⟨_,this⟩
           have hspot:a.spot=none:=by
             obtain⟨u,hu⟩:=hread
             unfold World.cell? at hu
             split at hu
             ·cases hs:a.spot with
              | none=>rfl
              | some z=>rw[hs]at hu;cases hu
             ·cases hu
           have ha:a=at' a.block a.off:=by
             obtain⟨b,o,sp⟩:=a
             dsimp only at hspot
             rw[hspot]
           have each: ∀ i,∃(q:List Value) (aa:List A),i<len->(∀ j,j<ke.length->w.cell? (at' a.block (a.off+(i*ke.length+j)))=some (q.getD j undef))/\Opened n w ke q aa:=by
             intro i
             by_cases hi:i<len
             ·have he:=hels i hi
              have hei:elems[i]? =some (elems[i]'(by omega)):=List.getElem?_eq_getElem (by omega)
              rw[hei,Option.bind_eq_some_iff]at he
              obtain⟨q,hq,hq2⟩:=he
              obtain⟨k1,k2⟩:=bC hq
              rw[hlen]at k1 k2
              obtain⟨aa,h1⟩:=ih e ke m q _ hke hoe hq2
              refine⟨q,aa,fun _=>⟨fun j hj=> ?_,h1⟩⟩
              have:=k2 j hj
              rw[ha,JE,JE]at this
              rw[<- this];congr 2;omega
             ·exact⟨[],[],fun h=>absurd h hi⟩
           obtain⟨q,hq⟩:=Classical.axiomOfChoice each
           obtain⟨aa,haa⟩:=Classical.axiomOfChoice hq
           let l:Sl:=⟨tyl ke,(List.range len).map fun i=>((tyl ke).mk (aa i)).2⟩
           have hes:l.es=(List.range len).map aa:=by
             show((List.range len).map fun i=>((tyl ke).mk (aa i)).2).map (tyl ke).cells=_
             rw[List.map_map]
             refine List.map_congr_left fun i hi=> ?_
             exact Ty.Qc _ _ (haa i (List.mem_range.1 hi)).2.made
           have hesl:l.es.length=len:=by rw[hes,List.length_map,List.length_range]
           have hsz:l.sz=ke.length:=LW ke
           have hget: ∀ i,i<len->l.es.getD i []=aa i:=fun i hi=>by
             rw[hes,List.getD_eq_getElem?_getD,List.getElem?_map,List.getElem?_range hi];rfl
           have hrel:Ai nobody w (.slice (some a) len cap) (.sl l):=by
             rw[ha,<- hesl]
             refine Ai.sl (fun i j=>(q i).getD j undef) (by rw[hesl];exact hl) (fun i j hi hj=> ?_) (fun i j hi hj=> ?_)
             ·rw[hsz]at hj ⊢
              exact⟨rfl,(haa i (by rw[<- hesl];exact hi)).1 j hj⟩
             ·rw[hsz]at hj
              have hi':i<len:=by rw[<- hesl];exact hi
              rw[hget i hi']
              exact(haa i hi').2.rel j hj
           refine⟨[.sl l],Opened.one hrel (Zj _ _ _) ⟨?_,fun c hc z hz=> ?_⟩⟩
           ·show((List.range len).map _).length<=_
            rw[List.length_map,List.length_range]
            have:maxLen=9223372036854775807:=rfl
            omega
           ·rw[hes]at hc
            obtain⟨i,hi,rfl⟩:=List.mem_map.1 hc
            exact(haa i (List.mem_range.1 hi)).2.ok z hz
      | struct fs =>
        dsimp only at hck hok
        simp only[Bool.and_eq_true]at hok
        obtain⟨⟨hcl,hoff⟩,hall⟩:=hok
        obtain⟨xs,m,_,_,hl,hxl,hxs⟩:=DataW.trod_struct hu h
        have fields: ∀(l:List Field) (o:Nat) (ks:List CK),l.foldr (fun f acc=>match ET P n f.type,acc with | some a,some b=>some (a++b) | _,_=>none) (some [])=some ks->vH P n l o=true->(∀ f∈l,XU P n f.type=true) ->
            (∀ f∈l,∃ y,DataW.trod enc P w base spare held m f.type ((cs.drop f.offset).take (P.cellsOf f.type))=some y)-> ∃ aa,Opened n w ks ((cs.drop o).take ks.length) aa:=by
          intro l
          induction l with
          | nil =>
            intro o ks hk _ _ _
            injection hk with hk
            subst hk
            exact⟨[],Opened.nil⟩
          | cons f r ihr =>
            intro o ks hk ho hf hy
            rw[List.foldr_cons]at hk
            cases ha:ET P n f.type with
            | none=>rw[ha]at hk;cases hk
            | some a =>
              rw[ha]at hk
              cases hb:r.foldr (fun f acc=>match ET P n f.type,acc with | some a,some b=>some (a++b) | _,_=>none) (some [])with
              | none=>rw[hb]at hk;cases hk
              | some b =>
                rw[hb]at hk
                injection hk with hk
                subst hk
                have hal:Qk P n f.type=a.length:=by unfold Qk;rw[ha]
                unfold vH at ho
                simp only[Bool.and_eq_true]at ho
                obtain⟨⟨h1,h2⟩,h3⟩:=ho
                have h1:=Nat.eq_of_beq_eq_true h1
                have h2:=Nat.eq_of_beq_eq_true h2
                rw[hal]at h2 h3
                obtain⟨y,hy1⟩:=hy f List.mem_cons_self
                rw[h1,h2]at hy1
                obtain⟨pa,p1⟩:=ih f.type a m _ y ha (hf f List.mem_cons_self) hy1
                obtain⟨pb,q1⟩:=ihr (o+a.length) b hb h3 (fun g hg=>hf g (List.mem_cons_of_mem _ hg)) (fun g hg=>hy g (List.mem_cons_of_mem _ hg))
                refine⟨pa++pb,?_⟩
                rw[List.length_append,AlY]
                exact p1.append q1
        obtain⟨aa,h1⟩:=fields fs.toList 0 ks hck hoff (fun f hf=>List.all_eq_true.1 hall f hf) (fun f hf=>by
          obtain⟨i,hi⟩:=List.getElem?_of_mem hf
          have hi':fs[i]? =some f:=by rw[<- Array.getElem?_toList];exact hi
          have:=hxs i f hi'
          have hlt:i<xs.length:=by
            rw[hxl]
            exact(Array.getElem?_eq_some_iff.1 hi').1
          rw[List.getElem?_eq_getElem hlt]at this
          exact⟨_,this⟩)
        have hcs:(cs.drop 0).take ks.length=cs:=by
          rw[List.drop_zero]
          refine List.take_of_length_le ?_
          have h3:=Nat.eq_of_beq_eq_true hcl
          have h4:Qk P (n+1) t=ks.length:=by
            unfold Qk ET
            rw[hu]
            dsimp only
            rw[hck]
          omega
        rw[hcs]at h1
        exact⟨aa,h1.up⟩
      | _=>cases hok
theorem Agl {r:Reach} {b0:Nat} {u:TypeId} {cs:Array Value} (h:Cell.okWide P w r b0 u (.agg cs)):False:=by
  have h':Cell.ok P w r b0 u (.agg cs):=by
    unfold Cell.okWide at h
    split at h<;>first | exact h | (rename_i hh;cases hh)
  unfold Cell.ok at h'
  split at h'<;>first | (rename_i hh;cases hh;done) | exact h'
def AnO (P:Program) (t:TypeId):Bool:=match P.underlying t with
  | some (.struct _)=>true
  | some (.array _ _)=>true
  | _=>false
theorem open_cell {r:Reach} {b0 n:Nat} {t:TypeId} {v:Value} {d:DataW H} {ps:List MemPlace} {k:CK} (hck:ET P n t=some [k]) (hspare: ∀ b,spare b=true) (hok:XU P n t=true) (ha:AnO P t=false) (hval:Value.okWide P w r b0 t v) (hd:DataW.Trod enc P w base spare held t v d ps) :
    ∃ a,Ai nobody w v a/\((tyl [k]).mk [a]).1=true/\okN n a:=by
  have hc:Cell.okWide P w r b0 t v:=by
    unfold Value.okWide at hval
    unfold AnO at ha
    split at hval<;>first | exact hval | (rename_i hh;rw[hh]at ha;cases ha)
  have hcells:v.cells.toList=[v]:=by
    cases v with
    | agg cs=>exact(Agl hc).elim
    | _=>rfl
  obtain⟨fuel,h⟩:=hd
  rw[hcells]at h
  obtain⟨aa,h1⟩:=Afl hspare n t [k] fuel [v] _ hck hok h
  obtain⟨a,rfl⟩: ∃ a,aa=[a]:=List.length_eq_one_iff.1 h1.la
  exact⟨a,h1.rel 0 (by show 0<1;omega),h1.made,h1.ok a List.mem_cons_self⟩
theorem Opened.ir {n:Nat} {ks:List CK} {cs:Array Value} {aa:List A} (h:Opened n w ks cs.toList aa) (id:Nat):IR nobody w id (.agg cs) (.agg aa):=by
  refine⟨cs,rfl,?_,fun j hj=>Ai.ic ?_⟩
  ·rw[<- Array.length_toList,h.lc,h.la]
  ·have:=h.rel j (by rw[<- h.la];exact hj)
   rw[List.getD_eq_getElem?_getD,Array.getElem?_toList,<- Array.getD_eq_getD_getElem?]at this
   exact this
theorem Ai.ir {id:Nat} {v:Value} {a:A} (h:Ai nobody w v a):IR nobody w id v a:=by
  have:=h.ic (id:=id)
  cases h<;>exact this
end
end Go.Proofs.YtadefjgbcapakaaGreatDoor.Vm
namespace Go.Proofs.YtadefjgbcapakaaGreatDoor.Vm
open Go Go.Lib
abbrev tabs:List (String×DataW Unit):=[("math/bits.deBruijn32tab",Rows.laid_math_bits_deBruijn32tab),("math/bits.deBruijn64tab",Rows.laid_math_bits_deBruijn64tab),("internal/strconv.uint64pow10",Rows.laid_internal_strconv_uint64pow10),("unicode/utf8.acceptRanges",Rows.laid_unicode_utf8_acceptRanges),("unicode/utf8.first",Rows.laid_unicode_utf8_first)]
def ApV:DataW Unit->Value
  | .lit (.int k n)=>.int k n
  | _=>undef
def Ji:DataW Unit->List Value
  | .agg l=>l.map ApV
  | _=>[]
def MI:DataW Unit->List Value
  | .agg l=>l.flatMap Ji
  | _=>[]
noncomputable def laidWorld (os:Os):World :=
  let w0:=World.holding Tryz.prog os ⟨#[],#[],[]⟩
  {w0 with heap:=((((w0.heap.modify 1 fun
     | .cells _ t frozen=>.cells (Ji Rows.laid_internal_strconv_uint64pow10).toArray t frozen
     | o=>o).modify 2 fun
     | .cells _ t frozen=>.cells (Ji Rows.laid_unicode_utf8_first).toArray t frozen
     | o=>o).modify 3 fun
     | .cells _ t frozen=>.cells (MI Rows.laid_unicode_utf8_acceptRanges).toArray t frozen
     | o=>o).modify 4 fun
     | .cells _ t frozen=>.cells (Ji Rows.laid_math_bits_deBruijn32tab).toArray t frozen
     | o=>o).modify 5 fun
     | .cells _ t frozen=>.cells (Ji Rows.laid_math_bits_deBruijn64tab).toArray t frozen
     | o=>o}
theorem laid_met (os:Os) (args:Array Value):laidMet Tryz.prog tabs ((laidWorld os).forCall (fun _ _=>0) ⟨#[],args,[]⟩).memory :=
  laidMet_of_run' 8 (by kernel_rfl) (by kernel_rfl)
set_option maxRecDepth 100000 in
theorem AlI {W:World} (h:laidMet Tryz.prog tabs W) (j:Nat) (hj:j<20):W.cell? ⟨1,j,none⟩=some (.int .u64 ((10 ^ j:Nat):Int)):=by
  obtain⟨g,t,cs,fuel,p,hg,ht,hvar,hd⟩:=laidMet.reads h (n:= "internal/strconv.uint64pow10") (d:=Rows.laid_internal_strconv_uint64pow10) (List.mem_cons_of_mem _ (List.mem_cons_of_mem _ List.mem_cons_self))
  obtain rfl:=Option.some.inj ((show Tryz.prog.globalNamed "internal/strconv.uint64pow10" =some 1 by kernel_rfl).symm.trans hg)
  obtain rfl:=Option.some.inj ((show(Tryz.prog.globals[1]?).map (·.type)=some 293 by kernel_rfl).symm.trans ht)
  have hu:Tryz.prog.underlying 293=some (.array 20 208):=by kernel_rfl
  have hu2:Tryz.prog.underlying 208=some (.int .u64):=by kernel_rfl
  have hc:Tryz.prog.cellsOf 208=1:=by kernel_rfl
  have hds:(Rows.laid_internal_strconv_uint64pow10:DataW Unit)= .agg ((List.range 20).map fun j=>.lit (.int .u64 ((10 ^ j:Nat):Int))):=by kernel_rfl
  rw[hds]at hd
  obtain⟨fuel',d,q,h1,h2⟩:=array_elem hu hd j hj
  rw[List.getElem?_map,List.getElem?_range hj]at h1
  injection h1 with h1
  subst h1
  rw[hc,Nat.mul_one]at h2
  obtain⟨n,h3,h4,_⟩:=DataW.trod_int hu2 h2
  have hn:((10 ^ j:Nat):Int)=n:=by
    have:=congrArg Prod.fst h4
    injection this with this
    injection this with _ this
  rw[World.var?_cell hg hvar j]
  have h5:(cs.toList.drop j)[0]? =some (.int .u64 n):=by
    have:((cs.toList.drop j).take 1)[0]? =some (.int .u64 n):=by rw[h3];rfl
    rwa [List.getElem?_take_of_lt (by omega)]at this
  rw[List.getElem?_drop,Nat.add_zero,Array.getElem?_toList]at h5
  rw[h5,hn]
theorem inv_of {W:World} (hs:W.ShapedOpen Tryz.prog) (hl:laidMet Tryz.prog tabs W):Inv nobody W:=by
  refine⟨fun g j p h=> ?_,fun g n h=> ?_⟩
  ·unfold AoF at h
   split at h
   ·injection h with h
    subst h
    obtain⟨m,hm⟩:=cell_of_shapedOpen_int (P:=Tryz.prog) (g:=0) (t:=3) (zero:= #[.int .i64 0]) (k:=.i64) hs (of_decide_eq_true (by kernel_rfl)) (by kernel_rfl) rfl (by kernel_rfl) (by kernel_rfl) (by kernel_rfl)
    exact⟨rfl,_,hm,m,rfl⟩
   ·split at h
    ·rename_i hj
     injection h with h
     subst h
     exact⟨rfl,_,AlI hl _ hj,rfl⟩
    ·cases h
   ·cases h
  ·unfold AoE at h
   split at h
   ·injection h with h
    subst h
    obtain⟨cs,h1,h2,_⟩:=hs.1 1 (Array.replicate 20 (.int .u64 0)) 293 (of_decide_eq_true (by kernel_rfl)) (by kernel_rfl)
    exact⟨cs,_,_,h1,h2⟩
   ·cases h
section
variable {H:Type} {enc:TypeId×Value->H}
theorem AdX {a:Assume} {C:Checked} {os:Os} {f:FuncId} {fn:Func} {s:ChangeSpec} {conds:List PathCond} {apart fresh handsOn again:Bool} {X:World->Array Value->Prop}
    (hX: ∀(w w':World) (args:Array Value),w.heap=w'.heap->X w args->X w' args)
    (own:ownKnob C.prog.godebug=none) (started:os.Started) (noInit:C.prog.inits.idxOf? f=none) (hfn:C.prog.funcs[f]? =some fn)
    (witness: ∃(w:World) (tape:Tape) (i:Input),w.os=os/\(w.forCall tape i).Shaped C.prog/\i.vars=[]/\Input.okWide C.prog (w.forCall tape i) .any w.heap.size f i /\
      ((s.pre enc C.prog fn conds apart (w.forCall tape i).memory i.args/\X (w.forCall tape i).memory i.args)/\sizedMet enc C.prog fn (OpenSpec.ofChange s) apart (w.forCall tape i).memory i.args)/\a.holds C.prog (lone (Frame.enter C.prog f i.args .normal) [] (w.forCall tape i)))
    (contract: ∀(W:World) (base:Nat) (args:Array Value) (ds gs:List (DataW H)) (before:List MemPlace),
      (∀(j:Nat) t v,fn.params[j]? =some t->args[j]? =some v->Value.okWide C.prog W .any base t v) ->
      DataW.Whole enc C.prog fn.params.toList s.vars apart W args.toList ds gs before->W.ShapedOpen C.prog->X W args ->
      Calls C.prog f args W fun e W'=> ∃ v,e= .returned v/\s.post enc C.prog fn apart fresh handsOn again W args v W') :
    ReturnsInHanded a C os f .any (fun w args=>(s.pre enc C.prog fn conds apart w args/\X w args)/\sizedMet enc C.prog fn (OpenSpec.ofChange s) apart w args) (s.post enc C.prog fn apart fresh handsOn again):=by
  refine returnsInHanded_of_calls own started noInit witness ?_
  intro w tape i _ hsh _ hok hpre _
  obtain⟨_,_,_,fn',hfn',_,_,_,_,hval⟩:=hok
  obtain rfl:=Option.some.inj (hfn'.symm.trans hfn)
  obtain⟨⟨⟨ds,gs,before,hw,_⟩,hx⟩,_⟩:=hpre
  refine(contract (w.forCall tape i) w.heap.size i.args ds gs before hval (DataW.Whole.of_heap (w':=w.forCall tape i) (by rfl) hw) hsh (hX _ _ _ (by rfl) hx)).mono fun e W' ⟨v,he,hp⟩=> ?_
  subst he
  exact ChangeSpec.post_blind hp
end
