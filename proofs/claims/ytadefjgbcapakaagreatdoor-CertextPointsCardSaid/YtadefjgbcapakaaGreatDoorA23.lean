import Derived.Test.YtadefjgbcapakaaGreatDoorA22
import Derived.ChangeArms
import Derived.SliceStrings
import Derived.Test.YtadefjgbcapakaaGreatDoorRows
import Derived.Test.YtadefjgbcapakaaGreatDoorChecked
import Derived.Lib.LaidU8
import Derived.Shelf.Vars
import Derived.HandedShaped
import Derived.LaidLaws
set_option linter.all false
namespace Go.Proofs.YtadefjgbcapakaaGreatDoor.Pl
open IntKind (i64)
open Go Vm
section
variable (N:Nat) (hN:1048578<N) {L:List Int} (hL:L.length<=9223372036854775807)
theorem Jy {k:Int} (h0:0<=k) (h1:k<9):Ends shortS (ES N k):=by
  unfold ES
  have h:k.tmod 9=k:=by
    have:k=0\/k=1\/k=2\/k=3\/k=4\/k=5\/k=6\/k=7\/k=8:=by omega
    rcases this with rfl | rfl | rfl | rfl | rfl | rfl | rfl | rfl | rfl<;>rfl
  rw[h]
  exact Az (decide_eq_true (by omega)) (Az (decide_eq_true (by omega)) (Az (decide_eq_true (by omega)) (Bi (Fq (P:=shortS) (by decide) h0 h1))))
def Ahq (m:Nat) (l:List Bs):Prop:=l.length<=m/\ ∀ s∈l,shortS s
include hN hL in
theorem AbJ {d:List Int×Int} (p:Bool) (hd:Bl L d):Ends (fun r=>Ahq 3 r.1/\Bl L r.2) (RI N d p):=by
  unfold RI
  try simp only[clR]
  refine Au (nx N hL hd 3 (by omega) (by omega)) ?_
  rintro ⟨r,d1,d2⟩ ⟨h0,h1,h2⟩
  dsimp only at h0 h1 h2 ⊢
  rw[w64 (by omega) (by omega)]
  refine Ez (fun x=>0<=x.1/\x.1<4/\Bl L (x.2.1,x.2.2.1)/\((x.2.2.2.length:Int)+x.1<=3)/\ ∀ s∈x.2.2.2,shortS s) (fun x=>x.1.toNat) ?_ N _ ⟨by dsimp only;omega,by dsimp only;omega,h2,by simp;omega,(fun r hr=>by cases hr)⟩ (by dsimp only;omega)
  rintro ⟨t,a,b,acc⟩ ⟨g0,g1,g2,g3,g4⟩ k hk
  dsimp only[U4]at g0 g1 g2 g3 g4 ⊢
  refine AX (fun ht=> ?_) (fun _=>by dsimp only[U3];exact Bi ⟨⟨by dsimp only;omega,g4⟩,g2⟩)
  have ht:=of_decide_eq_true ht
  refine Au (nx N hL g2 9 (by omega) (by omega)) ?_
  rintro ⟨r9,e1,e2⟩ ⟨c0,c1,c2⟩
  dsimp only at c0 c1 c2 ⊢
  refine Au (Jy N c0 c1) ?_
  intro s hs
  refine iW (P:=fun x=>shortS x.1/\Bl L (x.2.1,x.2.2.1)/\x.2.2.2=acc) (fun j hj=> ?_) ?_
  ·refine AX (fun _=> ?_) (fun _=>hj _ ⟨hs,c2,rfl⟩)
   refine Au (nx N hL c2 5 (by omega) (by omega)) ?_
   rintro ⟨r3,q1,q2⟩ ⟨z0,z1,z2⟩
   dsimp only at z0 z1 z2 ⊢
   exact Az (decide_eq_true (by omega)) (Az (decide_eq_true (by omega)) (Az (decide_eq_true (by omega)) (hj _ ⟨Fq (P:=shortS) (by decide) z0 z1,z2,rfl⟩)))
  ·rintro ⟨s,q1,q2,x⟩ ⟨y1,y2,y3⟩
   dsimp only at y1 y2 y3
   subst y3
   dsimp only[U4]
   refine Ez (fun z=>0<=z.2.1/\z.2.1<=(x.length:Int)/\Bl L (z.2.2.1,z.2.2.2.1)/\z.2.2.2.2=x) (fun z=>x.length - z.2.1.toNat) ?_ N _ ⟨Int.le_refl _,by dsimp only;omega,y2,rfl⟩ (by dsimp only;omega)
   rintro ⟨w1,i,a',b',x'⟩ ⟨p0,p1,p2,p3⟩ k' hk'
   dsimp only[U5]at p0 p1 p2 p3 ⊢
   subst p3
   refine AX (fun hi=> ?_) (fun _=> ?_)
   ·have hi:=of_decide_eq_true hi
    refine Az (decide_eq_true (by omega)) (Az (decide_eq_true (by omega)) (Az (decide_eq_true (by omega)) (hk' _ ⟨?_,?_,p2,rfl⟩ ?_)))
    ·dsimp only;rw[w64 (by omega) (by omega)];omega
    ·dsimp only;rw[w64 (by omega) (by omega)];omega
    ·dsimp only;rw[w64 (by omega) (by omega)];omega
   ·dsimp only[U4]
    refine AX (fun _=> ?_) (fun _=> ?_)
    ·refine Az (decide_eq_true (by omega)) (hk _ ⟨?_,?_,p2,?_,EJ g4 y1⟩ ?_)
     ·dsimp only;rw[w64 (by omega) (by omega)];omega
     ·dsimp only;rw[w64 (by omega) (by omega)];omega
     ·dsimp only;rw[w64 (by omega) (by omega),List.length_append];simp;omega
     ·dsimp only;rw[w64 (by omega) (by omega)];omega
    ·refine hk _ ⟨?_,?_,p2,?_,g4⟩ ?_
     ·dsimp only;rw[w64 (by omega) (by omega)];omega
     ·dsimp only;rw[w64 (by omega) (by omega)];omega
     ·dsimp only;rw[w64 (by omega) (by omega)];omega
     ·dsimp only;rw[w64 (by omega) (by omega)];omega
def AmV (m:Bs×Bs):Prop:=shortS m.1/\shortS m.2
def Al1 (m:Nat) (l:List (Bs×Bs)):Prop:=l.length<=m/\ ∀ s∈l,AmV s
include hN hL in
theorem Acx {d:List Int×Int} (hd:Bl L d):Ends (fun r=>Al1 3 r.1/\Bl L r.2) (Nr N d):=by
  unfold Nr
  try simp only[clR]
  refine Au (nx N hL hd 3 (by omega) (by omega)) ?_
  rintro ⟨r,d1,d2⟩ ⟨h0,h1,h2⟩
  dsimp only at h0 h1 h2 ⊢
  rw[w64 (by omega) (by omega)]
  refine Ez (fun x=>0<=x.1/\x.1<4/\Bl L (x.2.1,x.2.2.1)/\((x.2.2.2.length:Int)+x.1<=3)/\ ∀ s∈x.2.2.2,AmV s) (fun x=>x.1.toNat) ?_ N _ ⟨by dsimp only;omega,by dsimp only;omega,h2,by simp;omega,(fun r hr=>by cases hr)⟩ (by dsimp only;omega)
  rintro ⟨t,a,b,acc⟩ ⟨g0,g1,g2,g3,g4⟩ k hk
  dsimp only[U4]at g0 g1 g2 g3 g4 ⊢
  refine AX (fun ht=> ?_) (fun _=>by dsimp only[U3];exact Bi ⟨⟨by dsimp only;omega,g4⟩,g2⟩)
  have ht:=of_decide_eq_true ht
  refine Au (nx N hL g2 9 (by omega) (by omega)) ?_
  rintro ⟨r9,e1,e2⟩ ⟨c0,c1,c2⟩
  dsimp only at c0 c1 c2 ⊢
  refine Au (Jy N c0 c1) ?_
  intro s hs
  refine Au (nx N hL c2 9 (by omega) (by omega)) ?_
  rintro ⟨r9,e1,e2⟩ ⟨c0,c1,c2⟩
  dsimp only at c0 c1 c2 ⊢
  refine Au (Jy N c0 c1) ?_
  intro s2 hs2
  refine Ez (fun z=>0<=z.2.1/\z.2.1<=(acc.length:Int)/\Bl L (z.2.2.1,z.2.2.2.1)/\z.2.2.2.2.1=s/\z.2.2.2.2.2.1=s2/\z.2.2.2.2.2.2=acc) (fun z=>acc.length - z.2.1.toNat) ?_ N _ ⟨Int.le_refl _,by dsimp only;omega,c2,rfl,rfl,rfl⟩ (by dsimp only;omega)
  rintro ⟨w1,i,a',b',s',s2',x'⟩ ⟨p0,p1,p2,p3,p4,p5⟩ k' hk'
  dsimp only[U7]at p0 p1 p2 p3 p4 p5 ⊢
  subst p3 p4 p5
  refine AX (fun hi=> ?_) (fun _=> ?_)
  ·have hi:=of_decide_eq_true hi
   refine Az (decide_eq_true (by omega)) (Az (decide_eq_true (by omega)) (Az (decide_eq_true (by omega)) (hk' _ ⟨?_,?_,p2,rfl,rfl,rfl⟩ ?_)))
   ·dsimp only;rw[w64 (by omega) (by omega)];omega
   ·dsimp only;rw[w64 (by omega) (by omega)];omega
   ·dsimp only;rw[w64 (by omega) (by omega)];omega
  ·dsimp only[U6]
   refine AX (fun _=> ?_) (fun _=> ?_)
   ·refine Az (decide_eq_true (by omega)) (hk _ ⟨?_,?_,p2,?_,EJ g4 ⟨hs,hs2⟩⟩ ?_)
    ·dsimp only;rw[w64 (by omega) (by omega)];omega
    ·dsimp only;rw[w64 (by omega) (by omega)];omega
    ·dsimp only;rw[w64 (by omega) (by omega),List.length_append];simp;omega
    ·dsimp only;rw[w64 (by omega) (by omega)];omega
   ·refine hk _ ⟨?_,?_,p2,?_,g4⟩ ?_
    ·dsimp only;rw[w64 (by omega) (by omega)];omega
    ·dsimp only;rw[w64 (by omega) (by omega)];omega
    ·dsimp only;rw[w64 (by omega) (by omega)];omega
    ·dsimp only;rw[w64 (by omega) (by omega)];omega
def AmL (m:Nat) (l:List Ex):Prop:=l.length<=m/\ ∀ x∈l,shortS x.1/\shortS x.2.2
structure Agz (pl us re im ia:Int) (pe ex:List Gn) (sk ak:Bs) (fr:List Pt) (pu po:List Bs) (ma:List (Bs×Bs)) (na:List Gn) (pt:List Pt) (un:List Ex):Prop where
  pl: -1<=pl/\pl<=70
  us:0<=us/\us<=511
  re: -1<=re/\re<=70
  im: -1<=im/\im<=70
  ia: -1<=ia/\ia<=70
  pe:Aa5 3 pe
  ex:Aa5 3 ex
  sk:shortS sk
  ak:shortS ak
  fr:AhM fr
  pu:Ahq 3 pu
  po:Ahq 3 po
  ma:Al1 3 ma
  na:Aa5 2 na
  pt:AhM pt
  un:AmL 2 un
theorem Agb {α :Type} {l:List α} {a b:Nat} {x: α} (h:x∈Ar l a b):x∈l:=List.mem_of_mem_take (List.mem_of_mem_drop h)
def Am4:Info->Prop
  | (_,_,pl,us,pu,po,ma,re,im,ia,na,_,pe,ex,sk,ak,pt,fr,un)=>Agz pl us re im ia pe ex sk ak fr pu po ma na pt un
include hN hL in
theorem AiX {d:List Int×Int} (hd:Bl L d):Ends (fun r=>Am4 r.1/\Bl L r.2) (Ws N d):=by
  unfold Ws
  try simp only[clR]
  rw[show aB N=some (false,false,-1,0,[],[],[],-1,-1,-1,[],false,[],[],[],[],[],[],[])from rfl,Ae]
  refine Au (nx N hL hd 6 (by omega) (by omega)) ?_
  rintro ⟨r,d1,d2⟩ ⟨h0,h1,h2⟩
  dsimp only at h0 h1 h2 ⊢
  refine Ez (fun x=> ∃ t a b hb ca pl us re im ia hc pe ex sk ak fr pu po ma na pt un,x=(t,a,b,hb,ca,pl,us,re,im,ia,hc,pe,ex,sk,ak,fr,pu,po,ma,na,pt,un)/\0<=t/\t<6/\Bl L (a,b)/\Agz pl us re im ia pe ex sk ak fr pu po ma na pt un) (fun x=>x.1.toNat) ?_ N _ ⟨r,d1,d2,false,false,-1,0,-1,-1,-1,false,[],[],[],[],[],[],[],[],[],[],[],rfl,h0,h1,h2,⟨by omega,by omega,by omega,by omega,by omega,⟨by simp,by simp⟩,⟨by simp,by simp⟩,by decide,by decide,⟨by simp,by simp⟩,⟨by simp,by simp⟩,⟨by simp,by simp⟩,⟨by simp,by simp⟩,⟨by simp,by simp⟩,⟨by simp,by simp⟩,⟨by simp,by simp⟩⟩⟩ (by dsimp only;omega)
  rintro _ ⟨t,a,b,hb,ca,pl,us,re,im,ia,hc,pe,ex,sk,ak,fr,pu,po,ma,na,pt,un,rfl,g0,g1,g2,P⟩ k hk
  dsimp only[U22]
  refine AX (fun ht=> ?_) (fun _=> ?_)
  ·have ht:=of_decide_eq_true ht
   have go: ∀(a':List Int) (b':Int) (hb' ca':Bool) (pl' us' re' im' ia':Int) (hc':Bool) (pe' ex':List Gn) (sk' ak':Bs) (fr':List Pt) (pu' po':List Bs) (ma':List (Bs×Bs)) (na':List Gn) (pt':List Pt) (un':List Ex),Bl L (a',b')->Agz pl' us' re' im' ia' pe' ex' sk' ak' fr' pu' po' ma' na' pt' un'->Ends (fun r=>Am4 r.1/\Bl L r.2) (k (i64.wrap (t - 1),a',b',hb',ca',pl',us',re',im',ia',hc',pe',ex',sk',ak',fr',pu',po',ma',na',pt',un')):=by
     intro a' b' hb' ca' pl' us' re' im' ia' hc' pe' ex' sk' ak' fr' pu' po' ma' na' pt' un' hda hP
     rw[w64 (by omega) (by omega)]
     exact hk _ ⟨t - 1,a',b',hb',ca',pl',us',re',im',ia',hc',pe',ex',sk',ak',fr',pu',po',ma',na',pt',un',rfl,by omega,by omega,hda,hP⟩ (by dsimp only;omega)
   refine Au (nx N hL g2 14 (by omega) (by omega)) ?_
   rintro ⟨r,d1,d2⟩ ⟨h0,h1,h2⟩
   dsimp only at h0 h1 h2 ⊢
   refine iW (P:=fun x=> ∃ q,x=(q,d1,d2,hb,ca,pl,us,re,im,ia,hc,pe,ex,sk,ak,fr,un,pt,na,ma,po,pu)) (fun j hj=>AX (fun _=>hj _ ⟨_,rfl⟩) (fun _=>hj _ ⟨_,rfl⟩)) ?_
   rintro _ ⟨q,rfl⟩
   dsimp only[U22]
   refine AX (fun _=> ?_) (fun _=>AX (fun _=> ?_) (fun _=>AX (fun _=> ?_) (fun _=>AX (fun _=> ?_) (fun _=>AX (fun _=> ?_) (fun _=>AX (fun _=> ?_) (fun _=>AX (fun _=> ?_) (fun _=>AX (fun _=> ?_) (fun _=>AX (fun _=> ?_) (fun _=>AX (fun _=> ?_) (fun _=>AX (fun _=> ?_) (fun _=>AX (fun _=> ?_) (fun _=> ?_))))))))))))
   ·refine Au (nx N hL h2 5 (by omega) (by omega)) ?_
    rintro ⟨r,e1,e2⟩ ⟨f0,f1,f2⟩
    dsimp only at f0 f1 f2 ⊢
    exact go _ _ _ _ _ _ _ _ _ _ _ _ _ _ _ _ _ _ _ _ _ f2 {P with pl:=by rw[w64 (by omega) (by omega)];omega}
   ·exact go _ _ _ _ _ _ _ _ _ _ _ _ _ _ _ _ _ _ _ _ _ h2 {P with pl:=by omega}
   ·refine Au (nx N hL h2 511 (by omega) (by omega)) ?_
    rintro ⟨r,e1,e2⟩ ⟨f0,f1,f2⟩
    dsimp only at f0 f1 f2 ⊢
    exact go _ _ _ _ _ _ _ _ _ _ _ _ _ _ _ _ _ _ _ _ _ f2 {P with us:=by rw[w64 (by omega) (by omega)];omega}
   ·refine Au (AbJ N hN hL true h2) ?_
    rintro ⟨r,e1,e2⟩ ⟨f0,f2⟩
    exact go _ _ _ _ _ _ _ _ _ _ _ _ _ _ _ _ _ _ _ _ _ f2 {P with pu:=f0}
   ·refine Au (AbJ N hN hL false h2) ?_
    rintro ⟨r,e1,e2⟩ ⟨f0,f2⟩
    exact go _ _ _ _ _ _ _ _ _ _ _ _ _ _ _ _ _ _ _ _ _ f2 {P with po:=f0}
   ·refine Au (Acx N hN hL h2) ?_
    rintro ⟨r,e1,e2⟩ ⟨f0,f2⟩
    exact go _ _ _ _ _ _ _ _ _ _ _ _ _ _ _ _ _ _ _ _ _ f2 {P with ma:=f0}
   ·refine Au (nx N hL h2 5 (by omega) (by omega)) ?_
    rintro ⟨r,e⟩ ⟨f0,f1,f2⟩
    refine Au (nx N hL f2 5 (by omega) (by omega)) ?_
    rintro ⟨r2,e1,e2⟩ ⟨c0,c1,c2⟩
    dsimp only at f0 f1 c0 c1 c2 ⊢
    exact go _ _ _ _ _ _ _ _ _ _ _ _ _ _ _ _ _ _ _ _ _ c2 {P with re:=by rw[w64 (by omega) (by omega)];omega,im:=by rw[w64 (by omega) (by omega)];omega}
   ·refine Au (nx N hL h2 65 (by omega) (by omega)) ?_
    rintro ⟨r,e1,e2⟩ ⟨f0,f1,f2⟩
    dsimp only at f0 f1 f2 ⊢
    exact go _ _ _ _ _ _ _ _ _ _ _ _ _ _ _ _ _ _ _ _ _ f2 {P with ia:=by omega}
   ·refine Au (OX N hN hL h2) ?_
    rintro ⟨x,e⟩ ⟨f0,f2⟩
    refine Au (OX N hN hL f2) ?_
    rintro ⟨y,e⟩ ⟨f1,f2⟩
    refine Au (nx N hL f2 2 (by omega) (by omega)) ?_
    rintro ⟨r2,e1,e2⟩ ⟨c0,c1,c2⟩
    dsimp only at f0 f1 c0 c1 c2 ⊢
    rw[w64 (by omega) (by omega)]
    refine Az (decide_eq_true (by omega)) (Az (decide_eq_true (by omega)) ?_)
    refine go _ _ _ _ _ _ _ _ _ _ _ _ _ _ _ _ _ _ _ _ _ c2 {P with na:=⟨?_,fun g hg=> ?_⟩}
    ·unfold Ar;rw[List.length_drop,List.length_take];simp;omega
    ·rcases List.mem_cons.1 (Agb hg)with rfl | hg
     ·exact f0
     ·rw[List.mem_singleton.1 hg];exact f1
   ·refine Au (AcQ N hN hL h2) ?_
    rintro ⟨⟨x,y⟩,e1,e2⟩ ⟨⟨f0,f1⟩,f2⟩
    exact go _ _ _ _ _ _ _ _ _ _ _ _ _ _ _ _ _ _ _ _ _ f2 {P with pe:=f0,ex:=f1}
   ·refine Au (nx N hL h2 3 (by omega) (by omega)) ?_
    rintro ⟨r,e⟩ ⟨f0,f1,f2⟩
    dsimp only at f0 f1 f2 ⊢
    refine Az (decide_eq_true (by omega)) (Az (decide_eq_true (by omega)) (Az (decide_eq_true (by omega)) ?_))
    refine Au (nx N hL f2 2 (by omega) (by omega)) ?_
    rintro ⟨r2,e1,e2⟩ ⟨c0,c1,c2⟩
    dsimp only at c0 c1 c2 ⊢
    refine Az (decide_eq_true (by omega)) (Az (decide_eq_true (by omega)) (Az (decide_eq_true (by omega)) ?_))
    exact go _ _ _ _ _ _ _ _ _ _ _ _ _ _ _ _ _ _ _ _ _ c2 {P with sk:=Fq (P:=shortS) (by decide) f0 f1,ak:=Fq (P:=shortS) (by decide) c0 c1}
   ·refine Au (qK N hN hL h2) ?_
    rintro ⟨r,e1,e2⟩ ⟨f0,f2⟩
    exact go _ _ _ _ _ _ _ _ _ _ _ _ _ _ _ _ _ _ _ _ _ f2 {P with pt:=f0}
   ·refine Au (qK N hN hL h2) ?_
    rintro ⟨r,e⟩ ⟨f0,f2⟩
    refine Au (nx N hL f2 2 (by omega) (by omega)) ?_
    rintro ⟨r2,e⟩ ⟨c0,c1,c2⟩
    refine Au (nx N hL c2 3 (by omega) (by omega)) ?_
    rintro ⟨r3,e1,e2⟩ ⟨z0,z1,z2⟩
    dsimp only at f0 c0 c1 z0 z1 z2 ⊢
    refine Az (decide_eq_true (by omega)) (Az (decide_eq_true (by omega)) ?_)
    refine go _ _ _ _ _ _ _ _ _ _ _ _ _ _ _ _ _ _ _ _ _ z2 {P with fr:=f0,un:=⟨?_,fun g hg=> ?_⟩}
    ·unfold Ar;rw[List.length_drop,List.length_take];simp;omega
    ·rcases List.mem_cons.1 (Agb hg)with rfl | hg
     ·exact⟨(by decide:shortS [49,46,50,46,51,46,52,46,53]),(by decide:shortS [5,0])⟩
     ·rw[List.mem_singleton.1 hg];exact⟨by decide,by decide⟩
  ·dsimp only[U21]
   exact Bi ⟨P,g2⟩
end
end Go.Proofs.YtadefjgbcapakaaGreatDoor.Pl
namespace Go.Proofs.YtadefjgbcapakaaGreatDoor.Pl
open IntKind (i64)
open Go Vm
def Ak4 (l:List Bs):Prop:=l.length<=1048576/\ ∀ s∈l,Jq s
def AmT (l:List Ex):Prop:=l.length<=1000000/\ ∀ x∈l,zJ x
def Ak5 (l:List Pt):Prop:=l.length<=1048576/\ ∀ p∈l,Di p
theorem Jo {s:Bs} (h:shortS s):Jq s:=by unfold shortS at h;unfold Jq;omega
theorem Agl {m:Nat} {l:List Bs} (h:Ahq m l) (hm:m<=1000):Ak4 l:=⟨by have:=h.1;omega,fun s hs=>Jo (h.2 s hs)⟩
theorem AlQ {m:Nat} {l:List Ex} (h:AmL m l) (hm:m<=1000):AmT l:=⟨by have:=h.1;omega,fun s hs=>⟨Jo (h.2 s hs).1,Jo (h.2 s hs).2⟩⟩
theorem Agr {l:List Pt} (h:AhM l):Ak5 l:=⟨by have:=h.1;omega,h.2⟩
def AnM:Info->Prop
  | (_,_,_,_,pu,po,ma,_,_,_,na,_,pe,ex,_,_,pt,fr,un)=>Ak4 pu/\Ak4 po/\(∀ s∈ma,Afc s)/\DC na/\DC pe/\DC ex/\Ak5 pt/\Ak5 fr/\AmT un
section
variable (N:Nat) (hN:1048578<N) {L:List Int} (hL:L.length<=9223372036854775807)
include hN hL in
theorem AdI {d:List Int×Int} (hd:Bl L d) (raw:Info) (hpt:raw.2.2.2.2.2.2.2.2.2.2.2.2.2.2.2.2.1.length<=6/\ ∀ p∈raw.2.2.2.2.2.2.2.2.2.2.2.2.2.2.2.2.1,Di p) (hun:raw.2.2.2.2.2.2.2.2.2.2.2.2.2.2.2.2.2.2.length<=30/\ ∀ x∈raw.2.2.2.2.2.2.2.2.2.2.2.2.2.2.2.2.2.2,zJ x) :
    Ends (fun r=>AnM r.1/\r.1.2.2.2.2.2.2.2.2.2.2.2.2.2.2.2.2.1.length<=9/\Bl L r.2) (Nk N d raw):=by
  unfold Nk
  try simp only[clR]
  refine Au (AiX N hN hL hd) ?_
  rintro ⟨⟨hb,ca,pl,us,pu,po,ma,re,im,ia,na,hc,pe,ex,sk,ak,pt,fr,un⟩,e1,e2⟩ ⟨P,h2⟩
  have P:Agz pl us re im ia pe ex sk ak fr pu po ma na pt un:=P
  have qpu:=Agl P.pu (by omega)
  have qpo:=Agl P.po (by omega)
  have qma: ∀ s∈ma,Afc s:=fun s hs=>⟨Jo (P.ma.2 s hs).1,Jo (P.ma.2 s hs).2⟩
  have qna:=Aej P.na
  have qpe:=Aej P.pe
  have qex:=Aej P.ex
  have qpt:=Agr P.pt
  have qfr:=Agr P.fr
  have qun:=AlQ P.un (by omega)
  have qpl:pt.length<=9:=by have:=P.pt.1;omega
  generalize raw.2.2.2.2.2.2.2.2.2.2.2.2.2.2.2.2.1=rp at hpt ⊢
  generalize raw.2.2.2.2.2.2.2.2.2.2.2.2.2.2.2.2.2.2=ru at hun ⊢
  refine Au (nx N hL h2 18 (by omega) (by omega)) ?_
  rintro ⟨r,d1,d2⟩ ⟨h0,h1,h2⟩
  dsimp only at h0 h1 h2 ⊢
  refine AX (fun _=> ?_) (fun _=>AX (fun _=> ?_) (fun _=>AX (fun _=> ?_) (fun _=>AX (fun _=> ?_) (fun _=>AX (fun _=> ?_) (fun _=>AX (fun _=> ?_) (fun _=>AX (fun _=> ?_) (fun _=>AX (fun _=> ?_) (fun _=>AX (fun _=> ?_) (fun _=>AX (fun _=> ?_) (fun _=>AX (fun _=> ?_) (fun _=>AX (fun _=> ?_) (fun _=>AX (fun _=> ?_) (fun _=>AX (fun _=> ?_) (fun _=>AX (fun _=> ?_) (fun _=>AX (fun _=> ?_) (fun _=> ?_))))))))))))))))
  ·exact Bi ⟨⟨qpu,qpo,qma,qna,qpe,qex,qpt,qfr,qun⟩,qpl,h2⟩
  ·refine Au (nx N hL h2 70 (by omega) (by omega)) ?_
   rintro ⟨r,f1,f2⟩ ⟨f0,_,f3⟩
   exact Bi ⟨⟨qpu,qpo,qma,qna,qpe,qex,qpt,qfr,qun⟩,qpl,f3⟩
  ·refine Au (nx N hL h2 600 (by omega) (by omega)) ?_
   rintro ⟨r,f1,f2⟩ ⟨f0,_,f3⟩
   exact Bi ⟨⟨qpu,qpo,qma,qna,qpe,qex,qpt,qfr,qun⟩,qpl,f3⟩
  ·have hl:=P.pu.1
   refine Az (decide_eq_true (by omega)) (Bi ⟨⟨⟨?_,EJ qpu.2 ?_⟩,qpo,qma,qna,qpe,qex,qpt,qfr,qun⟩,qpl,h2⟩)
   ·rw[List.length_append];simp;omega
   ·exact Jo (by decide)
  ·refine Au (nx N hL h2 9 (by omega) (by omega)) ?_
   rintro ⟨r,f1,f2⟩ ⟨c0,c1,f3⟩
   dsimp only at c0 c1
   refine Au (Jy N c0 c1) ?_
   intro s hs
   have hl:=P.po.1
   refine Az (decide_eq_true (by omega)) (Bi ⟨⟨qpu,⟨?_,EJ qpo.2 (Jo hs)⟩,qma,qna,qpe,qex,qpt,qfr,qun⟩,qpl,f3⟩)
   rw[List.length_append];simp;omega
  ·refine Au (Jy N (by omega) (by omega)) ?_
   intro s0 hs0
   refine Au (nx N hL h2 9 (by omega) (by omega)) ?_
   rintro ⟨r,f1,f2⟩ ⟨c0,c1,f3⟩
   dsimp only at c0 c1
   refine Au (Jy N c0 c1) ?_
   intro s hs
   have hl:=P.ma.1
   refine Az (decide_eq_true (by omega)) (Bi ⟨⟨qpu,qpo,EJ qma ⟨Jo hs0,Jo hs⟩,qna,qpe,qex,qpt,qfr,qun⟩,qpl,f3⟩)
  ·refine Au (nx N hL h2 70 (by omega) (by omega)) ?_
   rintro ⟨r,f1,f2⟩ ⟨f0,_,f3⟩
   exact Bi ⟨⟨qpu,qpo,qma,qna,qpe,qex,qpt,qfr,qun⟩,qpl,f3⟩
  ·refine Au (nx N hL h2 70 (by omega) (by omega)) ?_
   rintro ⟨r,f⟩ ⟨f0,_,f3⟩
   refine Au (nx N hL f3 70 (by omega) (by omega)) ?_
   rintro ⟨r,f1,f2⟩ ⟨f0,_,f3⟩
   exact Bi ⟨⟨qpu,qpo,qma,qna,qpe,qex,qpt,qfr,qun⟩,qpl,f3⟩
  ·exact Bi ⟨⟨qpu,qpo,qma,qna,qpe,qex,qpt,qfr,qun⟩,qpl,h2⟩
  ·refine Au (VW N hN hL h2) ?_
   rintro ⟨g,f1,f2⟩ ⟨hg,f3⟩
   have hl:=P.na.1
   exact Az (decide_eq_true (by omega)) (Bi ⟨⟨qpu,qpo,qma,EJ qna (Adk hg),qpe,qex,qpt,qfr,qun⟩,qpl,f3⟩)
  ·have hl:=P.pt.1
   refine Az (decide_eq_true (by omega)) (Bi ⟨⟨qpu,qpo,qma,qna,qpe,qex,⟨?_,fun p hp=> ?_⟩,qfr,qun⟩,?_,h2⟩)
   ·rw[List.length_append];omega
   ·rcases List.mem_append.1 hp with hp | hp
    ·exact qpt.2 p hp
    ·exact hpt.2 p hp
   ·dsimp only;rw[List.length_append];omega
  ·have hl:=P.un.1
   refine Az (decide_eq_true (by omega)) (Bi ⟨⟨qpu,qpo,qma,qna,qpe,qex,qpt,qfr,⟨?_,fun p hp=> ?_⟩⟩,qpl,h2⟩)
   ·rw[List.length_append];omega
   ·rcases List.mem_append.1 hp with hp | hp
    ·exact qun.2 p hp
    ·exact hun.2 p hp
  ·have hl:=P.un.1
   refine Az (decide_eq_true (by omega)) (Bi ⟨⟨qpu,qpo,qma,qna,qpe,qex,qpt,qfr,⟨?_,EJ qun.2 ⟨?_,?_⟩⟩⟩,qpl,h2⟩)
   ·rw[List.length_append];simp;omega
   ·exact Jo (by decide)
   ·exact Jo (by decide)
  ·refine Ez (fun x=> ∃ t a b us',x=(t,a,b,hb,ca,pl,us,re,im,ia,hc,pe,ex,sk,ak,fr,pu,po,ma,na,pt,us')/\0<=t/\t<=30/\Bl L (a,b)/\(us'.length:Int)<=2+t/\ ∀ x∈us',zJ x) (fun x=>(30 - x.1).toNat) ?_ N _ ⟨0,d1,d2,un,rfl,by omega,by omega,h2,by have:=P.un.1;omega,qun.2⟩ (by dsimp only;omega)
   rintro _ ⟨t,a,b,us',rfl,g0,g1,g2,g3,g4⟩ k hk
   dsimp only[U22]
   refine Au (nx N hL g2 10 (by omega) (by omega)) ?_
   rintro ⟨r,f1,f2⟩ ⟨c0,c1,f3⟩
   dsimp only at c0 c1 f3 ⊢
   refine AX (fun ht=> ?_) (fun _=> ?_)
   ·have ht:=of_decide_eq_true ht
    rw[w64 (by omega) (by omega)]at ht
    have hall: ∀ z:Int,List.all [IntKind.u8.wrap z] Vm.isByte=true:=fun z=>by rw[List.all_cons,Oq];rfl
    refine Az (hall _) (Az (decide_eq_true (by simp)) (Az (decide_eq_true (by simp)) (Az (hall _) (Az (decide_eq_true (by simp)) (Az (decide_eq_true (by omega)) ?_)))))
    refine hk _ ⟨t+1,f1,f2,_,by rw[w64 (by omega) (by omega)],by omega,by omega,f3,?_,EJ g4 ⟨?_,?_⟩⟩ ?_
    ·rw[List.length_append];simp;omega
    ·unfold Jq;simp
    ·exact Jo (by decide:shortS [5,0])
    ·dsimp only;rw[w64 (by omega) (by omega)];omega
   ·dsimp only[U21]
    exact Bi ⟨⟨qpu,qpo,qma,qna,qpe,qex,qpt,qfr,⟨by omega,g4⟩⟩,qpl,f3⟩
  ·refine Au (nx N hL h2 8 (by omega) (by omega)) ?_
   rintro ⟨r,f1,f2⟩ ⟨c0,c1,f3⟩
   dsimp only at c0 c1 f3 ⊢
   rw[w64 (by omega) (by omega)]
   refine Az (decide_eq_true (by omega)) (Az (decide_eq_true (by omega)) (Az (decide_eq_true (by omega)) (Az ?_ (Bi ⟨⟨qpu,qpo,qma,qna,qpe,qex,qpt,qfr,qun⟩,qpl,f3⟩))))
   rw[List.all_replicate]
   split<;>rfl
  ·refine Ez (fun x=> ∃ a b na',x=(a,b,hb,ca,pl,us,re,im,ia,hc,pe,ex,sk,ak,fr,pu,po,ma,pt,un,na')/\Bl L (a,b)/\(na'.length:Int)<=20/\DC na') (fun x=>30 - x.2.2.2.2.2.2.2.2.2.2.2.2.2.2.2.2.2.2.2.2.length) ?_ N _ ⟨d1,d2,na,rfl,h2,by have:=P.na.1;omega,qna⟩ (by dsimp only;omega)
   rintro _ ⟨a,b,na',rfl,g2,g3,g4⟩ k hk
   dsimp only[U21]
   refine Au (nx N hL g2 6 (by omega) (by omega)) ?_
   rintro ⟨r,f⟩ ⟨c0,c1,f3⟩
   dsimp only at c0 c1 f3 ⊢
   refine AX (fun ht=> ?_) (fun _=> ?_)
   ·have ht:=of_decide_eq_true ht
    rw[w64 (by omega) (by omega)]at ht
    refine Au (OX N hN hL f3) ?_
    rintro ⟨g,f1,f2⟩ ⟨hg,f4⟩
    refine Az (decide_eq_true (by omega)) (hk _ ⟨f1,f2,_,rfl,f4,?_,EJ g4 (Adk hg)⟩ ?_)
    ·rw[List.length_append];simp;omega
    ·dsimp only;rw[List.length_append];simp;omega
   ·exact Bi ⟨⟨qpu,qpo,qma,g4,qpe,qex,qpt,qfr,qun⟩,qpl,f3⟩
  ·exact Bi ⟨⟨qpu,qpo,qma,qna,qpe,qex,qpt,qfr,qun⟩,qpl,h2⟩
end
end Go.Proofs.YtadefjgbcapakaaGreatDoor.Pl
namespace Go.Proofs.YtadefjgbcapakaaGreatDoor.Pl
open IntKind (i64)
open Go Vm
def Akw (x:Int):Prop:= -9223372036854775808<=x/\x<=9223372036854775807
theorem AfL {l:List Pt} (h:nU l=true) (hr: ∀ p∈l,Akw p.2.1):l.length<=6/\ ∀ p∈l,Di p:=by
  obtain⟨h1,h2⟩:=AkY h
  exact⟨h1,fun p hp=>⟨(AhU (h2 p hp).1).2.2,(AbQ (h2 p hp).2).2.2,hr p hp⟩⟩
theorem AjU (M:Nat):MP (M+400)=some true:=by kernel_rfl
theorem AkO (l:List Pt):(ZM l).1.length<=131077:=by
  unfold ZM
  cases l.isEmpty with
  | true=>exact Nat.zero_le _
  | false =>
    cases IK l != 0 with
    | true=>exact Nat.zero_le _
    | false=>exact AjK
theorem Ai4 (N:Nat) (s:Bs) (hN:1048578<N) (hs:s.length<=1048576) (K:List Pt×Int->List Pt×Int->Bool->Option Bool) :
    (Ac (Ep N s) fun r97=>Ac (Fa N s) fun r102=>Ac (Fv N r97.1 r102.1) fun r107=>K r97 r102 r107)=K (uJ s) (uJ s) true:=by
  have h:=Ajz s hs
  rw[VB N s hN hs,Ae,Y9 N s hN hs,Ae,sD N _ hN h.1 h.2,Ae]
theorem AiF (N:Nat) (l:List Pt) (hN:1048578<N) (hs: ∀ p∈l,Di p) (K:Bs×Int->Bs×Int->Int->Int->Option Bool) :
    (Ac (Dj N l) fun r49=>Ac (Eg N l) fun r54=>Ac (BN N l) fun r58=>Ac (CU N l) fun r60=>K r49 r54 r58 r60)=K (ZM l) (ZM l) (IK l) (IK l):=by
  rw[VD N l hN hs,Ae,O8 N l hN hs,Ae,Agp N l hN hs,Ae,AeZ N l hN hs,Ae]
theorem AhL (N:Nat) (hN:1048578<N) (p0:List Pt) (p1:Bs) (p2:List Int) (hl:p2.length<=9223372036854775807) (h1: ∀ p∈p0,Akw p.2.1):ED N p0 p1 p2=some true:=by
  have haw:MP N=some true:=by
    obtain⟨M,rfl⟩: ∃ M,N=M+400:=⟨N - 400,by omega⟩
    exact AjU M
  unfold ED
  try simp only[clR]
  rw[Aab N _ hN,Ae,haw]
  cases hsh:nU p0 with
  | false=>rfl
  | true =>
    obtain⟨hpl,hps⟩:=AfL hsh h1
    rw[Bool.not_true,Bool.false_or]
    by_cases h300:300<p1.length
    ·rw[mW (by omega)];rfl
    ·rw[wE (by omega),cond_false,show tH N p2=some (p2,0)from rfl,Ae]
     obtain⟨⟨y,d⟩,hy,hy1,_,hd⟩:=AdI N hN hl (d:=(p2,0)) ⟨0,rfl,Nat.zero_le _⟩ (false,false,0,0,[],[],[],0,0,0,[],false,[],[],[],[],p0,[],[]) ⟨hpl,hps⟩ ⟨Nat.zero_le _,fun x hx=>(by cases hx)⟩
     rw[hy,Ae]
     have hyp: ∀ p∈y.2.2.2.2.2.2.2.2.2.2.2.2.2.2.2.2.1,Di p:=by
       obtain⟨a1,a2,a3,a4,a5,a6,a7,a8,a9,a10,a11,a12,a13,a14,a15,a16,a17,a18,a19⟩:=y
       exact hy1.2.2.2.2.2.2.1.2
     dsimp only
     generalize y.2.2.2.2.2.2.2.2.2.2.2.2.2.2.2.2.1=q at hyp ⊢
     obtain⟨k,rfl,hk⟩:=hd
     refine Hz (fun i=>((i:Int),p2,(k:Int),[p0,q])) 2 (some true) ?_ ?_ N (by omega)
     ·intro i hi k2
      have h2:([p0,q]:List (List Pt)).length=2:=rfl
      have hq: ∀ p∈([p0,q]:List (List Pt)).getD i [],Di p:=by
        rcases(by omega:i=0\/i=1)with rfl | rfl
        ·exact hps
        ·exact hyp
      simp (disch:=first | assumption | omega) only[Am,h2]
      rw[AiF N _ hN hq]
      simp (disch:=first | assumption | omega) only[Am,bne_self_eq_false,beq_self_eq_true]
      rfl
     ·intro k2
      simp (disch:=first | assumption | omega) only[Am]
      rw[O8 N q hN hyp,Ae]
      have he:=AkO q
      generalize (ZM q).1=e at he ⊢
      obtain⟨b1,d1,e1,hd1,l1⟩:=Abl N hl (d:=(p2,(k:Int))) ⟨k,rfl,hk⟩ e (by omega)
      rw[e1,Ae]
      obtain⟨b2,d2,e2,hd2,l2⟩:=Abm N hl (by omega) N e (by omega) (by omega) (by omega) d1 hd1
      dsimp only
      rw[e2,Ae]
      obtain⟨b3,d3,e3,hd3,l3⟩:=Abm N hl (by omega) N e (by omega) (by omega) (by omega) d2 hd2
      dsimp only
      rw[e3,Ae]
      dsimp only
      refine Hz (fun i=>((i:Int),[p1,e,b1,b2,b3])) 5 (some true) ?_ ?_ N (by omega)
      ·intro i hi k3
       have h2:([p1,e,b1,b2,b3]:List Bs).length=5:=rfl
       have hq:(([p1,e,b1,b2,b3]:List Bs).getD i []).length<=1048576:=by
         rcases(by omega:i=0\/i=1\/i=2\/i=3\/i=4)with rfl | rfl | rfl | rfl | rfl
         ·show p1.length<=_;omega
         ·show e.length<=_;omega
         ·show b1.length<=_;omega
         ·show b2.length<=_;omega
         ·show b3.length<=_;omega
       simp (disch:=first | assumption | omega) only[Am,h2]
       rw[Ai4 N _ hN hq]
       simp (disch:=first | assumption | omega) only[Am,bne_self_eq_false]
       rfl
      ·intro k3
       simp (disch:=first | assumption | omega) only[Am,haw]
end Go.Proofs.YtadefjgbcapakaaGreatDoor.Pl
namespace Go.Proofs.YtadefjgbcapakaaGreatDoor.Vm
open Go.RowKit
theorem Moves.below {T:Nat->Prop} {w w':World} (h:Moves (fun _ _=>none) T w w'):Below w.heap.size w w' :=
  ⟨h.os,h.tape,h.output,h.size,fun b hb=>by
    rcases h.blk b hb with e | ⟨c,c',e,fr,_,_,_,_,k,o,_,ho,_⟩ | ⟨_,_,_,_,o,_,_,ho,_⟩
    ·exact e
    ·cases ho
    ·cases ho⟩
theorem Sig.AnR {Ag AA:List Sh} {f:ShT Ag->Option (ShT (Ed Ag AA))} {xs:List A} {a:ShT Ag} {o:ShT (Ed Ag AA)} (hd:Q3 Ag xs=some a) (hf:f a=some o):(Sig.of Ag AA f).F xs=some (encs (Ed Ag AA) o):=by
  unfold Sig.F Sig.of
  dsimp only
  rw[hd]
  dsimp only
  rw[hf]
  rfl
theorem Ajg {P:Program} {f:FuncId} {sg:Sig} (h:Spec P f sg) {xs:List A} {vs:Array Value} {W:World} (hF:sg.F xs=some [.bool true]) (hress:sg.AA=[.cell false .bool]) (hv:vs.size=xs.length) (hl:xs.length=sg.Ag.length) (h100:xs.length<=100)
    (hx: ∀ j,j<xs.length->IR (fun _ _=>none) W (256*j) (vs.getD j undef) (xs.getD j .undef)) (hI:Inv (fun _ _=>none) W):Calls P f vs W fun e w'=>e= .returned (.bool true)/\Below W.heap.size W w':=by
  refine(h.2 (fun _ _=>none) W vs xs _ hI hv hl h100 hx hF).mono fun e w' hq=> ?_
  obtain⟨v,O',he,hc⟩:=hq
  obtain⟨us,h1,h2,h3⟩:=hc.res
  rw[hress]at h1
  have h1':us.size=1:=h1
  have h4:Aq O' w' (us.getD 0 undef) (.bool true):=h3 0 (by omega)
  have h5:us.getD 0 undef= .bool true:=by
    generalize us.getD 0 undef=z at h4
    cases h4;rfl
  have h6:v= .bool true:=by
    rw[h2,dif_pos h1',<- h5]
    simp [Array.getD_eq_getD_getElem?,h1']
  exact⟨by rw[he,h6],hc.moves.below⟩
open Go.ChangeShapes Go.WideShapes
def nobody:Own:=fun _ _=>none
def AkI:A->Prop
  | .int k n=>k.min<=n/\n<=k.max
  | .str s=>s.length<=9223372036854775807
  | _=>True
def okN:Nat->A->Prop
  | 0,_=>False
  | n+1,.sl l=>l.xs.length<=9223372036854775807/\ ∀ c∈l.es,∀ a∈c,okN n a
  | _+1,a=>AkI a
structure Opened (n:Nat) (w:World) (ks:List CK) (cs:List Value) (aa:List A):Prop where
  lc:cs.length=ks.length
  la:aa.length=ks.length
  rel: ∀ j,j<ks.length->Aq nobody w (cs.getD j undef) (aa.getD j .undef)
  made:((tyl ks).mk aa).1=true
  ok: ∀ a∈aa,okN n a
theorem AmZ: ∀(n:Nat) (a:A),okN n a->okN (n+1) a:=by
  intro n
  induction n with
  | zero=>intro a h;exact h.elim
  | succ n ih =>
    intro a h
    cases a<;>first | exact h | exact⟨h.1,fun c hc z hz=>ih z (h.2 c hc z hz)⟩
theorem Opened.up {n:Nat} {w:World} {ks:List CK} {cs:List Value} {aa:List A} (h:Opened n w ks cs aa):Opened (n+1) w ks cs aa:=⟨h.lc,h.la,h.rel,h.made,fun a ha=>AmZ n a (h.ok a ha)⟩
theorem Ajn: ∀(a:List CK) {b:List CK} {x y:List A},((tyl a).mk x).1=true->((tyl b).mk y).1=true->((tyl (a++b)).mk (x++y)).1=true:=by
  intro a
  induction a with
  | nil =>
    intro b x y hx hy
    cases x with
    | nil=>exact hy
    | cons _ _=>cases hx
  | cons k a ih =>
    intro b x y hx hy
    cases k with
    | bool =>
      cases x with
      | nil=>cases hx
      | cons c x=>cases c<;>first | exact ih (x:=x) hx hy | cases hx
    | int k =>
      cases x with
      | nil=>cases hx
      | cons c x =>
        cases c<;>first
          | (simp only[tyl,Ty.mk,Bool.and_eq_true]at hx
             simp only[List.cons_append,tyl,Ty.mk,Bool.and_eq_true]
             exact⟨hx.1,ih hx.2 hy⟩)
          | cases hx
    | str =>
      cases x with
      | nil=>cases hx
      | cons c x=>cases c<;>first | exact ih (x:=x) hx hy | cases hx
    | sl e t =>
      cases x with
      | nil=>cases hx
      | cons c x =>
        cases c with
        | sl l =>
          simp only[tyl,Ty.mk]at hx
          simp only[List.cons_append,tyl,Ty.mk]
          cases hc:l.cast t with
          | none=>rw[hc]at hx;cases hx
          | some xs=>rw[hc]at hx;exact ih (x:=x) hx hy
        | _=>cases hx
    | sln e t =>
      cases x with
      | nil=>cases hx
      | cons c x =>
        cases c with
        | sl l =>
          simp only[tyl,Ty.mk]at hx
          simp only[List.cons_append,tyl,Ty.mk]
          cases hc:l.cast t with
          | none=>rw[hc]at hx;cases hx
          | some xs=>rw[hc]at hx;exact ih (x:=x) hx hy
        | _=>cases hx
    | ptr =>
      cases x with
      | nil=>cases hx
      | cons c x=>cases c<;>first | exact ih (x:=x) hx hy | cases hx
    | fn =>
      cases x with
      | nil=>cases hx
      | cons c x=>cases c<;>first | exact ih (x:=x) hx hy | cases hx
    | mp kt vt =>
      cases x with
      | nil=>cases hx
      | cons c x =>
        cases c with
        | ump l =>
          simp only[tyl,Ty.mk]at hx
          simp only[List.cons_append,tyl,Ty.mk]
          cases hc:l.cast kt vt with
          | none=>rw[hc]at hx;cases hx
          | some xs=>rw[hc]at hx;exact ih (x:=x) hx hy
        | _=>cases hx
    | oth =>
      cases x with
      | nil=>cases hx
      | cons c x=>cases c<;>first | exact ih (x:=x) hx hy | cases hx
theorem Opened.nil {n:Nat} {w:World}:Opened n w [] [] []:=⟨rfl,rfl,fun j hj=>absurd hj (Nat.not_lt_zero j),rfl,fun a ha=>(by cases ha)⟩
theorem Opened.append {n:Nat} {w:World} {a b:List CK} {x y:List Value} {p q:List A} (h1:Opened n w a x p) (h2:Opened n w b y q):Opened n w (a++b) (x++y) (p++q):=by
  refine⟨by simp [h1.lc,h2.lc],by simp [h1.la,h2.la],fun j hj=> ?_,Ajn a h1.made h2.made,fun z hz=> ?_⟩
  ·rw[List.length_append]at hj
   by_cases h:j<a.length
   ·have:=h1.rel j h
    rw[List.getD_eq_getElem?_getD,List.getElem?_append_left (by rw[h1.lc];exact h),<- List.getD_eq_getElem?_getD,List.getD_eq_getElem?_getD (l:=p++q),List.getElem?_append_left (by rw[h1.la];exact h),<- List.getD_eq_getElem?_getD]
    exact this
   ·have:=h2.rel (j - a.length) (by omega)
    rw[List.getD_eq_getElem?_getD,List.getElem?_append_right (by rw[h1.lc];omega),<- List.getD_eq_getElem?_getD,List.getD_eq_getElem?_getD (l:=p++q),List.getElem?_append_right (by rw[h1.la];omega),<- List.getD_eq_getElem?_getD,h1.lc,h1.la]
    exact this
  ·rcases List.mem_append.1 hz with hz | hz
   ·exact h1.ok z hz
   ·exact h2.ok z hz
theorem Opened.one {n:Nat} {w:World} {k:CK} {v:Value} {a:A} (hr:Aq nobody w v a) (hm:((tyl [k]).mk [a]).1=true) (ho:okN n a):Opened n w [k] [v] [a] :=
  ⟨rfl,rfl,fun j hj=>by
    have:j=0:=by simp at hj;omega
    subst this;exact hr,hm,fun z hz=>by rw[List.mem_singleton.1 hz];exact ho⟩
def QO (P:Program) (n t:Nat):Nat:=match Ei P n t with | some cs=>cs.length | none=>0
def yG (P:Program) (n:Nat):List Field->Nat->Bool
  | [],_=>true
  | f::r,o=>Nat.beq f.offset o&&Nat.beq (P.cellsOf f.type) (QO P n f.type)&&yG P n r (o+QO P n f.type)
def Yx (P:Program):Nat->Nat->Bool
  | 0,_=>false
  | n+1,t=>match P.underlying t with
    | some .bool=>true
    | some (.int _)=>true
    | some .string=>true
    | some (.slice e)=>Yx P n e&&Nat.beq (P.cellsOf e) (QO P n e)&&Nat.blt 0 (QO P n e)&&(match Ei P n e with | some cs=>cs.all CK.plain | none=>false)
    | some (.struct fs)=>Nat.beq (P.cellsOf t) (QO P (n+1) t)&&yG P n fs.toList 0&&fs.toList.all (fun f=>Yx P n f.type)
    | _=>false
section
variable {H:Type} {enc:TypeId×Value->H} {P:Program} {w:World} {base:Nat} {spare:Nat->Bool} {held:Bool}
theorem gG {a:Addr} {n:Nat} {cs:List Value} (h:w.cells? base a n=some cs):cs.length=n/\ ∀ j,j<n->w.cell? (a.add j)=some (cs.getD j undef):=by
  unfold World.cells? at h
  split at h
  ·have key: ∀(l:List Nat) (cs:List Value),l.mapM (fun i=>w.cell? (a.add i))=some cs->cs.length=l.length/\ ∀ j (hj:j<l.length),w.cell? (a.add l[j])=some (cs.getD j undef):=by
     intro l
     induction l with
     | nil =>
       intro cs h
       simp at h
       subst h
       exact⟨rfl,fun j hj=>by cases hj⟩
     | cons i l ih =>
       intro cs h
       rw[List.mapM_cons]at h
       cases h1:w.cell? (a.add i)with
       | none=>rw[h1]at h;cases h
       | some v =>
         rw[h1]at h
         cases h2:l.mapM (fun i=>w.cell? (a.add i))with
         | none=>rw[h2]at h;cases h
         | some r =>
           rw[h2]at h
           injection h with h
           subst h
           obtain⟨k1,k2⟩:=ih r h2
           refine⟨by simp [k1],fun j hj=> ?_⟩
           cases j with
           | zero=>exact h1
           | succ j=>exact k2 j (by simpa using hj)
   obtain⟨h1,h2⟩:=key _ _ h
   rw[List.length_range]at h1
   refine⟨h1,fun j hj=> ?_⟩
   have:=h2 j (by rw[List.length_range];exact hj)
   rw[List.getElem_range]at this
   exact this
  ·cases h
theorem Ale {l:List Value} {o a b:Nat}:(l.drop o).take (a+b)=(l.drop o).take a++(l.drop (o+a)).take b:=by
  rw[List.take_add,List.drop_drop]
theorem aN (e:Nat) (t:Ty) (xs:List t.Val):((tyl [.sl e t]).mk [.sl ⟨t,xs⟩]).1=true:=by
  simp only[tyl,Ty.mk]
  rw[Sl.VZ]
  rfl
theorem AfR (hspare: ∀ b,spare b=true): ∀(n:Nat) (t:TypeId) (ks:List CK) (fuel:Nat) (cs:List Value) (x:DataW H×List MemPlace),Ei P n t=some ks->Yx P n t=true->DataW.trod enc P w base spare held fuel t cs=some x ->
    ∃ aa,Opened n w ks cs aa:=by
  intro n
  induction n with
  | zero=>intro t ks fuel cs x h;cases h
  | succ n ih =>
    intro t ks fuel cs x hck hok h
    unfold Ei at hck
    unfold Yx at hok
    cases hu:P.underlying t with
    | none=>rw[hu]at hck;cases hck
    | some d =>
      rw[hu]at hck hok
      cases d with
      | bool =>
        injection hck with hck
        subst hck
        obtain⟨b,rfl,_⟩:=DataW.trod_bool hu h
        exact⟨[.bool b],Opened.one (.bool b) rfl trivial⟩
      | int k =>
        injection hck with hck
        subst hck
        obtain⟨v,rfl,_,hw⟩:=DataW.trod_int hu h
        have hk:AkI (.int k v):=by
          unfold Lit.wf at hw
          rw[Bool.and_eq_true,decide_eq_true_eq,decide_eq_true_eq]at hw
          exact hw
        exact⟨[.int k v],Opened.one (.int k v) (by cases k<;>rfl) hk⟩
      | string =>
        injection hck with hck
        subst hck
        obtain⟨v,rfl,_,hw⟩:=DataW.trod_string hu h
        have hk:AkI (.str v.data.toList):=by
          show v.data.toList.length<=_
          have e:v.data.toList.length=v.size:=by rw[Array.length_toList];rfl
          have:maxLen=9223372036854775807:=rfl
          omega
        exact⟨[.str v.data.toList],Opened.one (.str v) rfl hk⟩
      | slice e =>
        dsimp only at hck hok
        simp only[Bool.and_eq_true]at hok
        obtain⟨⟨⟨hoe,hce⟩,hc0⟩,hpl⟩:=hok
        cases hke:Ei P n e with
        | none=>rw[hke]at hpl;cases hpl
        | some ke =>
          rw[hke]at hck hpl
          dsimp only at hck hpl
          rw[hpl]at hck
          injection hck with hck
          subst hck
          have hlen:P.cellsOf e=ke.length:=by
            have:=Nat.eq_of_beq_eq_true hce
            unfold QO at this
            rw[hke]at this;exact this
          rcases DataW.trod_slice hu h with ⟨rfl,_⟩ | ⟨a,len,cap,elems,rest,m,_,rfl,_,hb,hl,hm,hel,hels,hsp,_⟩
          ·exact⟨[.sl ⟨tyl ke,[]⟩],Opened.one (.nil _) (aN _ _ _) ⟨Nat.zero_le _,fun c hc=>(by cases hc)⟩⟩
          ·by_cases hcap:cap=0
           ·have hlen0:len=0:=by omega
            subst hcap
            subst hlen0
            exact⟨[.sl ⟨tyl ke,[]⟩],Opened.one (.sl0 a _) (aN _ _ _) ⟨Nat.zero_le _,fun c hc=>(by cases hc)⟩⟩
           have hk0:0<P.cellsOf e:=by
             have h2:=Nat.eq_of_beq_eq_true hce
             rw[h2]
             simpa using hc0
           have hread: ∃ u,w.cell? a=some u:=by
             by_cases h0:0<len
             ·have he:=hels 0 h0
              rw[List.getElem?_eq_getElem (by omega:0<elems.length),Option.bind_eq_some_iff]at he
              obtain⟨q,hq,_⟩:=he
              obtain⟨_,k2⟩:=gG hq
              have:=k2 0 hk0
              rw[Nat.zero_mul]at this
              exact⟨_,this⟩
             ·have hz:len=0:=by omega
              obtain⟨hr1,hr2⟩:=hsp (hspare _)
              have he:=hr2 0 (by omega)
              rw[List.getElem?_eq_getElem (by omega:0<rest.length),Option.bind_eq_some_iff]at he
              obtain⟨q,hq,_⟩:=he
              obtain⟨_,k2⟩:=gG hq
              have:=k2 0 hk0
              rw[hz,Nat.zero_mul]at this
              exact⟨_,this⟩
           have hspot:a.spot=none:=by
             obtain⟨u,hu⟩:=hread
             unfold World.cell? at hu
             split at hu
             ·cases hs:a.spot with
              | none=>rfl
              | some z=>rw[hs]at hu;cases hu
             ·cases hu
           have ha:a=at' a.block a.off:=by
             obtain⟨b,o,sp⟩:=a
             dsimp only at hspot
             rw[hspot]
           have each: ∀ i,∃(q:List Value) (aa:List A),i<len->(∀ j,j<ke.length->w.cell? (at' a.block (a.off+(i*ke.length+j)))=some (q.getD j undef))/\Opened n w ke q aa:=by
             intro i
             by_cases hi:i<len
             ·have he:=hels i hi
              have hei:elems[i]? =some (elems[i]'(by omega)):=List.getElem?_eq_getElem (by omega)
              rw[hei,Option.bind_eq_some_iff]at he
              obtain⟨q,hq,hq2⟩:=he
              obtain⟨k1,k2⟩:=gG hq
              rw[hlen]at k1 k2
              obtain⟨aa,h1⟩:=ih e ke m q _ hke hoe hq2
              refine⟨q,aa,fun _=>⟨fun j hj=> ?_,h1⟩⟩
              have:=k2 j hj
              rw[ha,IY,IY]at this
              rw[<- this];congr 2;omega
             ·exact⟨[],[],fun h=>absurd h hi⟩
           obtain⟨q,hq⟩:=Classical.axiomOfChoice each
           obtain⟨aa,haa⟩:=Classical.axiomOfChoice hq
           let l:Sl:=⟨tyl ke,(List.range len).map fun i=>((tyl ke).mk (aa i)).2⟩
           have hes:l.es=(List.range len).map aa:=by
             show((List.range len).map fun i=>((tyl ke).mk (aa i)).2).map (tyl ke).cells=_
             rw[List.map_map]
             refine List.map_congr_left fun i hi=> ?_
             exact Ty.KD _ _ (haa i (List.mem_range.1 hi)).2.made
           have hesl:l.es.length=len:=by rw[hes,List.length_map,List.length_range]
           have hsz:l.sz=ke.length:=LK ke
           have hget: ∀ i,i<len->l.es.getD i []=aa i:=fun i hi=>by
             rw[hes,List.getD_eq_getElem?_getD,List.getElem?_map,List.getElem?_range hi];rfl
           have hrel:Aq nobody w (.slice (some a) len cap) (.sl l):=by
             rw[ha,<- hesl]
             refine Aq.sl (fun i j=>(q i).getD j undef) (by rw[hesl];exact hl) (fun i j hi hj=> ?_) (fun i j hi hj=> ?_)
             ·rw[hsz]at hj ⊢
              exact⟨rfl,(haa i (by rw[<- hesl];exact hi)).1 j hj⟩
             ·rw[hsz]at hj
              have hi':i<len:=by rw[<- hesl];exact hi
              rw[hget i hi']
              exact(haa i hi').2.rel j hj
           refine⟨[.sl l],Opened.one hrel (aN _ _ _) ⟨?_,fun c hc z hz=> ?_⟩⟩
           ·show((List.range len).map _).length<=_
            rw[List.length_map,List.length_range]
            have:maxLen=9223372036854775807:=rfl
            omega
           ·rw[hes]at hc
            obtain⟨i,hi,rfl⟩:=List.mem_map.1 hc
            exact(haa i (List.mem_range.1 hi)).2.ok z hz
      | struct fs =>
        dsimp only at hck hok
        simp only[Bool.and_eq_true]at hok
        obtain⟨⟨hcl,hoff⟩,hall⟩:=hok
        obtain⟨xs,m,_,_,hl,hxl,hxs⟩:=DataW.trod_struct hu h
        have fields: ∀(l:List Field) (o:Nat) (ks:List CK),l.foldr (fun f acc=>match Ei P n f.type,acc with | some a,some b=>some (a++b) | _,_=>none) (some [])=some ks->yG P n l o=true->(∀ f∈l,Yx P n f.type=true) ->
            (∀ f∈l,∃ y,DataW.trod enc P w base spare held m f.type ((cs.drop f.offset).take (P.cellsOf f.type))=some y)-> ∃ aa,Opened n w ks ((cs.drop o).take ks.length) aa:=by
          intro l
          induction l with
          | nil =>
            intro o ks hk _ _ _
            injection hk with hk
            subst hk
            exact⟨[],Opened.nil⟩
          | cons f r ihr =>
            intro o ks hk ho hf hy
            rw[List.foldr_cons]at hk
            cases ha:Ei P n f.type with
            | none=>rw[ha]at hk;cases hk
            | some a =>
              rw[ha]at hk
              cases hb:r.foldr (fun f acc=>match Ei P n f.type,acc with | some a,some b=>some (a++b) | _,_=>none) (some [])with
              | none=>rw[hb]at hk;cases hk
              | some b =>
                rw[hb]at hk
                injection hk with hk
                subst hk
                have hal:QO P n f.type=a.length:=by unfold QO;rw[ha]
                unfold yG at ho
                simp only[Bool.and_eq_true]at ho
                obtain⟨⟨h1,h2⟩,h3⟩:=ho
                have h1:=Nat.eq_of_beq_eq_true h1
                have h2:=Nat.eq_of_beq_eq_true h2
                rw[hal]at h2 h3
                obtain⟨y,hy1⟩:=hy f List.mem_cons_self
                rw[h1,h2]at hy1
                obtain⟨pa,p1⟩:=ih f.type a m _ y ha (hf f List.mem_cons_self) hy1
                obtain⟨pb,q1⟩:=ihr (o+a.length) b hb h3 (fun g hg=>hf g (List.mem_cons_of_mem _ hg)) (fun g hg=>hy g (List.mem_cons_of_mem _ hg))
                refine⟨pa++pb,?_⟩
                rw[List.length_append,Ale]
                exact p1.append q1
        obtain⟨aa,h1⟩:=fields fs.toList 0 ks hck hoff (fun f hf=>List.all_eq_true.1 hall f hf) (fun f hf=>by
          obtain⟨i,hi⟩:=List.getElem?_of_mem hf
          have hi':fs[i]? =some f:=by rw[<- Array.getElem?_toList];exact hi
          have:=hxs i f hi'
          have hlt:i<xs.length:=by
            rw[hxl]
            exact(Array.getElem?_eq_some_iff.1 hi').1
          rw[List.getElem?_eq_getElem hlt]at this
          exact⟨_,this⟩)
        have hcs:(cs.drop 0).take ks.length=cs:=by
          rw[List.drop_zero]
          refine List.take_of_length_le ?_
          have h3:=Nat.eq_of_beq_eq_true hcl
          have h4:QO P (n+1) t=ks.length:=by
            unfold QO Ei
            rw[hu]
            dsimp only
            rw[hck]
          omega
        rw[hcs]at h1
        exact⟨aa,h1.up⟩
      | _=>cases hok
theorem AgN {r:Reach} {b0:Nat} {u:TypeId} {cs:Array Value} (h:Cell.okWide P w r b0 u (.agg cs)):False:=by
  have h':Cell.ok P w r b0 u (.agg cs):=by
    unfold Cell.okWide at h
    split at h<;>first | exact h | (rename_i hh;cases hh)
  unfold Cell.ok at h'
  split at h'<;>first | (rename_i hh;cases hh;done) | exact h'
def AmB (P:Program) (t:TypeId):Bool:=match P.underlying t with
  | some (.struct _)=>true
  | some (.array _ _)=>true
  | _=>false
theorem open_cell {r:Reach} {b0 n:Nat} {t:TypeId} {v:Value} {d:DataW H} {ps:List MemPlace} {k:CK} (hck:Ei P n t=some [k]) (hspare: ∀ b,spare b=true) (hok:Yx P n t=true) (ha:AmB P t=false) (hval:Value.okWide P w r b0 t v) (hd:DataW.Trod enc P w base spare held t v d ps) :
    ∃ a,Aq nobody w v a/\((tyl [k]).mk [a]).1=true/\okN n a:=by
  have hc:Cell.okWide P w r b0 t v:=by
    unfold Value.okWide at hval
    unfold AmB at ha
    split at hval<;>first | exact hval | (rename_i hh;rw[hh]at ha;cases ha)
  have hcells:v.cells.toList=[v]:=by
    cases v with
    | agg cs=>exact(AgN hc).elim
    | _=>rfl
  obtain⟨fuel,h⟩:=hd
  rw[hcells]at h
  obtain⟨aa,h1⟩:=AfR hspare n t [k] fuel [v] _ hck hok h
  obtain⟨a,rfl⟩: ∃ a,aa=[a]:=List.length_eq_one_iff.1 h1.la
  exact⟨a,h1.rel 0 (by show 0<1;omega),h1.made,h1.ok a List.mem_cons_self⟩
theorem Opened.ir {n:Nat} {ks:List CK} {cs:Array Value} {aa:List A} (h:Opened n w ks cs.toList aa) (id:Nat):IR nobody w id (.agg cs) (.agg aa):=by
  refine⟨cs,rfl,?_,fun j hj=>Aq.ic ?_⟩
  ·rw[<- Array.length_toList,h.lc,h.la]
  ·have:=h.rel j (by rw[<- h.la];exact hj)
   rw[List.getD_eq_getElem?_getD,Array.getElem?_toList,<- Array.getD_eq_getD_getElem?]at this
   exact this
theorem Aq.ir {id:Nat} {v:Value} {a:A} (h:Aq nobody w v a):IR nobody w id v a:=by
  have:=h.ic (id:=id)
  cases h<;>exact this
end
end Go.Proofs.YtadefjgbcapakaaGreatDoor.Vm
namespace Go.Proofs.YtadefjgbcapakaaGreatDoor.Vm
open Go Go.Lib
abbrev tabs:List (String×DataW Unit):=[("math/bits.deBruijn32tab",Rows.laid_math_bits_deBruijn32tab),("math/bits.deBruijn64tab",Rows.laid_math_bits_deBruijn64tab),("internal/strconv.uint64pow10",Rows.laid_internal_strconv_uint64pow10),("unicode/utf8.acceptRanges",Rows.laid_unicode_utf8_acceptRanges),("unicode/utf8.first",Rows.laid_unicode_utf8_first)]
def AnQ:DataW Unit->Value
  | .lit (.int k n)=>.int k n
  | _=>undef
def AeY:DataW Unit->List Value
  | .agg l=>l.map AnQ
  | _=>[]
def AnS:DataW Unit->List Value
  | .agg l=>l.flatMap AeY
  | _=>[]
noncomputable def laidWorld (os:Os):World :=
  let w0:=World.holding Tryz.prog os ⟨#[],#[],[]⟩
  {w0 with heap:=((((w0.heap.modify 1 fun
     | .cells _ t frozen=>.cells (AeY Rows.laid_internal_strconv_uint64pow10).toArray t frozen
     | o=>o).modify 2 fun
     | .cells _ t frozen=>.cells (AeY Rows.laid_unicode_utf8_first).toArray t frozen
     | o=>o).modify 3 fun
     | .cells _ t frozen=>.cells (AnS Rows.laid_unicode_utf8_acceptRanges).toArray t frozen
     | o=>o).modify 4 fun
     | .cells _ t frozen=>.cells (AeY Rows.laid_math_bits_deBruijn32tab).toArray t frozen
     | o=>o).modify 5 fun
     | .cells _ t frozen=>.cells (AeY Rows.laid_math_bits_deBruijn64tab).toArray t frozen
     | o=>o}
theorem laid_met (os:Os) (args:Array Value):laidMet Tryz.prog tabs ((laidWorld os).forCall (fun _ _=>0) ⟨#[],args,[]⟩).memory :=
  laidMet_of_run' 8 (by kernel_rfl) (by kernel_rfl)
set_option maxRecDepth 100000 in
theorem AkM {W:World} (h:laidMet Tryz.prog tabs W) (j:Nat) (hj:j<20):W.cell? ⟨1,j,none⟩=some (.int .u64 ((10 ^ j:Nat):Int)):=by
  obtain⟨g,t,cs,fuel,p,hg,ht,hvar,hd⟩:=laidMet.reads h (n:= "internal/strconv.uint64pow10") (d:=Rows.laid_internal_strconv_uint64pow10) (List.mem_cons_of_mem _ (List.mem_cons_of_mem _ List.mem_cons_self))
  obtain rfl:=Option.some.inj ((show Tryz.prog.globalNamed "internal/strconv.uint64pow10" =some 1 by kernel_rfl).symm.trans hg)
  obtain rfl:=Option.some.inj ((show(Tryz.prog.globals[1]?).map (·.type)=some 293 by kernel_rfl).symm.trans ht)
  have hu:Tryz.prog.underlying 293=some (.array 20 208):=by kernel_rfl
  have hu2:Tryz.prog.underlying 208=some (.int .u64):=by kernel_rfl
  have hc:Tryz.prog.cellsOf 208=1:=by kernel_rfl
  have hds:(Rows.laid_internal_strconv_uint64pow10:DataW Unit)= .agg ((List.range 20).map fun j=>.lit (.int .u64 ((10 ^ j:Nat):Int))):=by kernel_rfl
  rw[hds]at hd
  obtain⟨fuel',d,q,h1,h2⟩:=array_elem hu hd j hj
  rw[List.getElem?_map,List.getElem?_range hj]at h1
  injection h1 with h1
  subst h1
  rw[hc,Nat.mul_one]at h2
  obtain⟨n,h3,h4,_⟩:=DataW.trod_int hu2 h2
  have hn:((10 ^ j:Nat):Int)=n:=by
    have:=congrArg Prod.fst h4
    injection this with this
    injection this with _ this
  rw[World.var?_cell hg hvar j]
  have h5:(cs.toList.drop j)[0]? =some (.int .u64 n):=by
    have:((cs.toList.drop j).take 1)[0]? =some (.int .u64 n):=by rw[h3];rfl
    rwa [List.getElem?_take_of_lt (by omega)]at this
  rw[List.getElem?_drop,Nat.add_zero,Array.getElem?_toList]at h5
  rw[h5,hn]
theorem inv_of {W:World} (hs:W.ShapedOpen Tryz.prog) (hl:laidMet Tryz.prog tabs W):Inv nobody W:=by
  refine⟨fun g j p h=> ?_,fun g n h=> ?_⟩
  ·unfold Anv at h
   split at h
   ·injection h with h
    subst h
    obtain⟨m,hm⟩:=cell_of_shapedOpen_int (P:=Tryz.prog) (g:=0) (t:=3) (zero:= #[.int .i64 0]) (k:=.i64) hs (of_decide_eq_true (by kernel_rfl)) (by kernel_rfl) rfl (by kernel_rfl) (by kernel_rfl) (by kernel_rfl)
    exact⟨rfl,_,hm,m,rfl⟩
   ·split at h
    ·rename_i hj
     injection h with h
     subst h
     exact⟨rfl,_,AkM hl _ hj,rfl⟩
    ·cases h
   ·cases h
  ·unfold Anu at h
   split at h
   ·injection h with h
    subst h
    obtain⟨cs,h1,h2,_⟩:=hs.1 1 (Array.replicate 20 (.int .u64 0)) 293 (of_decide_eq_true (by kernel_rfl)) (by kernel_rfl)
    exact⟨cs,_,_,h1,h2⟩
   ·cases h
section
variable {H:Type} {enc:TypeId×Value->H}
theorem AeX {a:Assume} {C:Checked} {os:Os} {f:FuncId} {fn:Func} {s:ChangeSpec} {conds:List PathCond} {apart fresh handsOn again:Bool} {X:World->Array Value->Prop}
    (hX: ∀(w w':World) (args:Array Value),w.heap=w'.heap->X w args->X w' args)
    (own:ownKnob C.prog.godebug=none) (started:os.Started) (noInit:C.prog.inits.idxOf? f=none) (hfn:C.prog.funcs[f]? =some fn)
    (witness: ∃(w:World) (tape:Tape) (i:Input),w.os=os/\(w.forCall tape i).Shaped C.prog/\i.vars=[]/\Input.okWide C.prog (w.forCall tape i) .any w.heap.size f i /\
      ((s.pre enc C.prog fn conds apart (w.forCall tape i).memory i.args/\X (w.forCall tape i).memory i.args)/\sizedMet enc C.prog fn (OpenSpec.ofChange s) apart (w.forCall tape i).memory i.args)/\a.holds C.prog (lone (Frame.enter C.prog f i.args .normal) [] (w.forCall tape i)))
    (contract: ∀(W:World) (base:Nat) (args:Array Value) (ds gs:List (DataW H)) (before:List MemPlace),
      (∀(j:Nat) t v,fn.params[j]? =some t->args[j]? =some v->Value.okWide C.prog W .any base t v) ->
      DataW.Whole enc C.prog fn.params.toList s.vars apart W args.toList ds gs before->W.ShapedOpen C.prog->X W args ->
      Calls C.prog f args W fun e W'=> ∃ v,e= .returned v/\s.post enc C.prog fn apart fresh handsOn again W args v W') :
    ReturnsInHanded a C os f .any (fun w args=>(s.pre enc C.prog fn conds apart w args/\X w args)/\sizedMet enc C.prog fn (OpenSpec.ofChange s) apart w args) (s.post enc C.prog fn apart fresh handsOn again):=by
  refine returnsInHanded_of_calls own started noInit witness ?_
  intro w tape i _ hsh _ hok hpre _
  obtain⟨_,_,_,fn',hfn',_,_,_,_,hval⟩:=hok
  obtain rfl:=Option.some.inj (hfn'.symm.trans hfn)
  obtain⟨⟨⟨ds,gs,before,hw,_⟩,hx⟩,_⟩:=hpre
  refine(contract (w.forCall tape i) w.heap.size i.args ds gs before hval (DataW.Whole.of_heap (w':=w.forCall tape i) (by rfl) hw) hsh (hX _ _ _ (by rfl) hx)).mono fun e W' ⟨v,he,hp⟩=> ?_
  subst he
  exact ChangeSpec.post_blind hp
end
